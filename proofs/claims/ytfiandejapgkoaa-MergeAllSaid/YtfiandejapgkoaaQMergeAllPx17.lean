/- Texts of MergeAll. Merged: Px17. -/
import Derived.Test.YtfiandejapgkoaaQMergeAllPx0
import Derived.Test.YtfiandejapgkoaaQMergeAllPx3
import Derived.Test.YtfiandejapgkoaaQMergeAllPx5
import Derived.Test.YtfiandejapgkoaaQMergeAllPx10
import Derived.Test.YtfiandejapgkoaaQMergeAllPx14
import Derived.Test.YtfiandejapgkoaaQMergeAllPx16
import Derived.Test.YtfiandejapgkoaaMMergeAll1
namespace Go.Proofs.Ytfiandejapgkoaa.P
open Go.RowKit Go.Proofs.YtfiandejapgkoaaW.PrintWords Go.Proofs.YtfiandejapgkoaaW.PrintLast Go.Proofs.YtfiandejapgkoaaW.PrintMore
attribute [local go_sem] max2_int min2_int max_two min_two max_three min_three max_four min_four   -- for this text's walks alone
set_option linter.unusedVariables false
set_option linter.unusedSimpArgs false
def thresherlaw14_MergeAll.j0 : Nat→Bool→Option (Bool)
 | 0,_=>none
 | k + 1,x4=>some x4
def thresherlaw14_MergeAll.f (k : Nat) (a0_0 : Int) (a0_1 : Int) (a0_2 : Int) (a0_3 : Int) (a0_4 : Int) (a0_5 : Int) (a0_6 : Int) (a0_7 : Int) (a0_8 : Int) (a0_9 : Int) (a0_10 : Int) (a0_11 : Int) (l1 : List (List (List (S31)))) : Option (Bool):=(thresherlaw14_shown.f k).bind fun t394=>((thresherlaw14_made.f k a0_0 a0_1 a0_2 a0_3 a0_4 a0_5 a0_6 a0_7 a0_8 a0_9 a0_10 a0_11).bind fun bt395=>((thresherlaw14_parts.f k bt395.1 bt395.2.1 bt395.2.2.1 bt395.2.2.2 l1).bind fun t402=>((merge_Rows.f k bt395.1 bt395.2.1 bt395.2.2.1 bt395.2.2.2 t402).bind fun t405=>((thresherref14_Rows.f k bt395.1 bt395.2.1 bt395.2.2.1 bt395.2.2.2 t402).bind fun t408=>((thresherref04_Rows.f k t405 t408).bind fun t411=>((merge_Folded.f k bt395.1 bt395.2.1 bt395.2.2.1 bt395.2.2.2 t402).bind fun t412=>((thresherref14_Folded.f k bt395.1 bt395.2.1 bt395.2.2.1 bt395.2.2.2 t402).bind fun t415=>((thresherref04_Rows.f k t412 t415).bind fun t418=>(if t394=true then (if t411=true then (thresherlaw14_MergeAll.j0 k t418) else (thresherlaw14_MergeAll.j0 k false)) else (thresherlaw14_MergeAll.j0 k false))))))))))
theorem thresherlaw14_MergeAll.mono_l : ∀ k,(∀ y0,LeO (thresherlaw14_MergeAll.j0 k y0) (thresherlaw14_MergeAll.j0 (k + 1) y0))
 | 0=>fun _ r h=>by simp [thresherlaw14_MergeAll.j0] at h
 | k + 1=>by
  have ih0:=thresherlaw14_MergeAll.mono_l k
  ·intro y0
   unfold thresherlaw14_MergeAll.j0
   repeat' first
   | (with_reducible exact ih0 _)
   | (with_reducible exact merge_Folded.mono _ _ _ _ _ _)
   | (with_reducible exact merge_Rows.mono _ _ _ _ _ _)
   | (with_reducible exact thresherlaw14_made.mono _ _ _ _ _ _ _ _ _ _ _ _ _)
   | (with_reducible exact thresherlaw14_parts.mono _ _ _ _ _ _)
   | (with_reducible exact thresherlaw14_shown.mono _)
   | (with_reducible exact thresherref04_Rows.mono _ _ _)
   | (with_reducible exact thresherref14_Folded.mono _ _ _ _ _ _)
   | (with_reducible exact thresherref14_Rows.mono _ _ _ _ _ _)
   | (with_reducible exact LeO.refl _)
   | (with_reducible exact LeO.none _)
   | (with_reducible refine LeO.ite ?_ ?_)
   | (with_reducible refine LeO.bind ?_ (fun _=>?_))
   | exact ih0 _
   | exact merge_Folded.mono _ _ _ _ _ _
   | exact merge_Rows.mono _ _ _ _ _ _
   | exact thresherlaw14_made.mono _ _ _ _ _ _ _ _ _ _ _ _ _
   | exact thresherlaw14_parts.mono _ _ _ _ _ _
   | exact thresherlaw14_shown.mono _
   | exact thresherref04_Rows.mono _ _ _
   | exact thresherref14_Folded.mono _ _ _ _ _ _
   | exact thresherref14_Rows.mono _ _ _ _ _ _
   | exact LeO.none _
   | refine LeO.ite ?_ ?_
   | refine LeO.bind ?_ (fun _=>?_)
theorem thresherlaw14_MergeAll.mono : ∀ a0 a1 a2 a3 a4 a5 a6 a7 a8 a9 a10 a11 a12 k,LeO (thresherlaw14_MergeAll.f k a0 a1 a2 a3 a4 a5 a6 a7 a8 a9 a10 a11 a12) (thresherlaw14_MergeAll.f (k + 1) a0 a1 a2 a3 a4 a5 a6 a7 a8 a9 a10 a11 a12):=by
 intro a0 a1 a2 a3 a4 a5 a6 a7 a8 a9 a10 a11 a12 k
 have ih0:=thresherlaw14_MergeAll.mono_l k
 unfold thresherlaw14_MergeAll.f
 repeat' first
   | (with_reducible exact ih0 _)
   | (with_reducible exact merge_Folded.mono _ _ _ _ _ _)
   | (with_reducible exact merge_Rows.mono _ _ _ _ _ _)
   | (with_reducible exact thresherlaw14_made.mono _ _ _ _ _ _ _ _ _ _ _ _ _)
   | (with_reducible exact thresherlaw14_parts.mono _ _ _ _ _ _)
   | (with_reducible exact thresherlaw14_shown.mono _)
   | (with_reducible exact thresherref04_Rows.mono _ _ _)
   | (with_reducible exact thresherref14_Folded.mono _ _ _ _ _ _)
   | (with_reducible exact thresherref14_Rows.mono _ _ _ _ _ _)
   | (with_reducible exact LeO.refl _)
   | (with_reducible exact LeO.none _)
   | (with_reducible refine LeO.ite ?_ ?_)
   | (with_reducible refine LeO.bind ?_ (fun _=>?_))
   | exact ih0 _
   | exact merge_Folded.mono _ _ _ _ _ _
   | exact merge_Rows.mono _ _ _ _ _ _
   | exact thresherlaw14_made.mono _ _ _ _ _ _ _ _ _ _ _ _ _
   | exact thresherlaw14_parts.mono _ _ _ _ _ _
   | exact thresherlaw14_shown.mono _
   | exact thresherref04_Rows.mono _ _ _
   | exact thresherref14_Folded.mono _ _ _ _ _ _
   | exact thresherref14_Rows.mono _ _ _ _ _ _
   | exact LeO.none _
   | refine LeO.ite ?_ ?_
   | refine LeO.bind ?_ (fun _=>?_)
def thresherlaw14_MergeAll.T4 : Bool × List (List Nat × List Nat):=(true,[([],[]),([],[]),([0,1],[0,1]),([],[]),([],[]),([3,4,2],[3,4]),([2,5,5],[2,5]),([6,6,0,1,2,3,4,5,6],[6])])
def thresherlaw14_MergeAll.B4 : List Nat:=[0,0,3,0,0,31,63,127]
theorem thresherlaw14_MergeAll.tab4 : rtab .any (opsOf Try.f4 4)=thresherlaw14_MergeAll.T4:=by kernel_rfl
theorem thresherlaw14_MergeAll.bits4 : waitsOk thresherlaw14_MergeAll.T4.2 thresherlaw14_MergeAll.B4=true:=by kernel_rfl
def thresherlaw14_MergeAll.T5 : Bool × List (List Nat × List Nat):=(true,[([],[]),([],[]),([0,1],[0,1]),([],[]),([],[]),([3,4,2],[3,4]),([2,5,5],[2,5]),([6,6,0,1,2,3,4,5,6],[6])])
def thresherlaw14_MergeAll.B5 : List Nat:=[0,0,3,0,0,31,63,127]
theorem thresherlaw14_MergeAll.tab5 : rtab .any (opsOf Try.f4 5)=thresherlaw14_MergeAll.T5:=by kernel_rfl
theorem thresherlaw14_MergeAll.bits5 : waitsOk thresherlaw14_MergeAll.T5.2 thresherlaw14_MergeAll.B5=true:=by kernel_rfl
set_option maxHeartbeats 8000000 in
set_option maxRecDepth 100000 in
theorem thresherlaw14_MergeAll.calls (k : Nat) (a0_0 : Int) (a0_1 : Int) (a0_2 : Int) (a0_3 : Int) (a0_4 : Int) (a0_5 : Int) (a0_6 : Int) (a0_7 : Int) (a0_8 : Int) (a0_9 : Int) (a0_10 : Int) (a0_11 : Int) (A1 : Option Addr) (c1 : Nat) (l1 : List (List (List (S31)))) (r : Bool) (w : World) (hr1 : Kd.C (Kd.slice 33 (Kd.slice 31 k31)) w A1 l1.length l1) (hc1 : l1.length≤c1) (h : thresherlaw14_MergeAll.f k a0_0 a0_1 a0_2 a0_3 a0_4 a0_5 a0_6 a0_7 a0_8 a0_9 a0_10 a0_11 l1=some r) :
  Calls Try.prog 4 #[.agg #[.int .u8 a0_0,.int .u8 a0_1,.int .u8 a0_2,.int .u8 a0_3,.int .u8 a0_4,.int .u8 a0_5,.int .u8 a0_6,.int .u8 a0_7,.int .u8 a0_8,.int .u8 a0_9,.int .u8 a0_10,.int .u8 a0_11],.slice A1 l1.length c1] w fun e w'=>e=.returned (.bool r)∧Below w.heap.size w w':=by
 have hu38:=Try.underlying38
 have hu26:=Try.underlying26
 have HR1:=Aside0.mk hr1
 have HC1:=Aside0.mk hc1
 clear hr1 hc1
 have HB:=Aside0.mk (Below.refl w.heap.size w)
 have H : ((thresherlaw14_shown.f k).bind fun t394=>((thresherlaw14_made.f k a0_0 a0_1 a0_2 a0_3 a0_4 a0_5 a0_6 a0_7 a0_8 a0_9 a0_10 a0_11).bind fun bt395=>((thresherlaw14_parts.f k bt395.1 bt395.2.1 bt395.2.2.1 bt395.2.2.2 l1).bind fun t402=>((merge_Rows.f k bt395.1 bt395.2.1 bt395.2.2.1 bt395.2.2.2 t402).bind fun t405=>((thresherref14_Rows.f k bt395.1 bt395.2.1 bt395.2.2.1 bt395.2.2.2 t402).bind fun t408=>((thresherref04_Rows.f k t405 t408).bind fun t411=>((merge_Folded.f k bt395.1 bt395.2.1 bt395.2.2.1 bt395.2.2.2 t402).bind fun t412=>((thresherref14_Folded.f k bt395.1 bt395.2.1 bt395.2.2.1 bt395.2.2.2 t402).bind fun t415=>((thresherref04_Rows.f k t412 t415).bind fun t418=>(if t394=true then (if t411=true then (thresherlaw14_MergeAll.j0 k t418) else (thresherlaw14_MergeAll.j0 k false)) else (thresherlaw14_MergeAll.j0 k false)))))))))))=some r:=h
 clear h
 replace H:=Option.bind_eq_some_iff.mp H
 obtain ⟨t394,A30,H⟩:=H
 replace H : ((thresherlaw14_made.f k a0_0 a0_1 a0_2 a0_3 a0_4 a0_5 a0_6 a0_7 a0_8 a0_9 a0_10 a0_11).bind fun bt395=>((thresherlaw14_parts.f k bt395.1 bt395.2.1 bt395.2.2.1 bt395.2.2.2 l1).bind fun t402=>((merge_Rows.f k bt395.1 bt395.2.1 bt395.2.2.1 bt395.2.2.2 t402).bind fun t405=>((thresherref14_Rows.f k bt395.1 bt395.2.1 bt395.2.2.1 bt395.2.2.2 t402).bind fun t408=>((thresherref04_Rows.f k t405 t408).bind fun t411=>((merge_Folded.f k bt395.1 bt395.2.1 bt395.2.2.1 bt395.2.2.2 t402).bind fun t412=>((thresherref14_Folded.f k bt395.1 bt395.2.1 bt395.2.2.1 bt395.2.2.2 t402).bind fun t415=>((thresherref04_Rows.f k t412 t415).bind fun t418=>(if t394=true then (if t411=true then (thresherlaw14_MergeAll.j0 k t418) else (thresherlaw14_MergeAll.j0 k false)) else (thresherlaw14_MergeAll.j0 k false))))))))))=some r:=H
 have A3:=Aside0.mk A30
 clear A30
 replace H:=Option.bind_eq_some_iff.mp H
 obtain ⟨⟨t395,t398,t399,t400⟩,A40,H⟩:=H
 replace H : ((thresherlaw14_parts.f k t395 t398 t399 t400 l1).bind fun t402=>((merge_Rows.f k t395 t398 t399 t400 t402).bind fun t405=>((thresherref14_Rows.f k t395 t398 t399 t400 t402).bind fun t408=>((thresherref04_Rows.f k t405 t408).bind fun t411=>((merge_Folded.f k t395 t398 t399 t400 t402).bind fun t412=>((thresherref14_Folded.f k t395 t398 t399 t400 t402).bind fun t415=>((thresherref04_Rows.f k t412 t415).bind fun t418=>(if t394=true then (if t411=true then (thresherlaw14_MergeAll.j0 k t418) else (thresherlaw14_MergeAll.j0 k false)) else (thresherlaw14_MergeAll.j0 k false)))))))))=some r:=H
 have A4:=Aside0.mk A40
 clear A40
 replace H:=Option.bind_eq_some_iff.mp H
 obtain ⟨t402,A50,H⟩:=H
 replace H : ((merge_Rows.f k t395 t398 t399 t400 t402).bind fun t405=>((thresherref14_Rows.f k t395 t398 t399 t400 t402).bind fun t408=>((thresherref04_Rows.f k t405 t408).bind fun t411=>((merge_Folded.f k t395 t398 t399 t400 t402).bind fun t412=>((thresherref14_Folded.f k t395 t398 t399 t400 t402).bind fun t415=>((thresherref04_Rows.f k t412 t415).bind fun t418=>(if t394=true then (if t411=true then (thresherlaw14_MergeAll.j0 k t418) else (thresherlaw14_MergeAll.j0 k false)) else (thresherlaw14_MergeAll.j0 k false))))))))=some r:=H
 have A5:=Aside0.mk A50
 clear A50
 replace H:=Option.bind_eq_some_iff.mp H
 obtain ⟨t405,A60,H⟩:=H
 replace H : ((thresherref14_Rows.f k t395 t398 t399 t400 t402).bind fun t408=>((thresherref04_Rows.f k t405 t408).bind fun t411=>((merge_Folded.f k t395 t398 t399 t400 t402).bind fun t412=>((thresherref14_Folded.f k t395 t398 t399 t400 t402).bind fun t415=>((thresherref04_Rows.f k t412 t415).bind fun t418=>(if t394=true then (if t411=true then (thresherlaw14_MergeAll.j0 k t418) else (thresherlaw14_MergeAll.j0 k false)) else (thresherlaw14_MergeAll.j0 k false)))))))=some r:=H
 have A6:=Aside0.mk A60
 clear A60
 replace H:=Option.bind_eq_some_iff.mp H
 obtain ⟨t408,A70,H⟩:=H
 replace H : ((thresherref04_Rows.f k t405 t408).bind fun t411=>((merge_Folded.f k t395 t398 t399 t400 t402).bind fun t412=>((thresherref14_Folded.f k t395 t398 t399 t400 t402).bind fun t415=>((thresherref04_Rows.f k t412 t415).bind fun t418=>(if t394=true then (if t411=true then (thresherlaw14_MergeAll.j0 k t418) else (thresherlaw14_MergeAll.j0 k false)) else (thresherlaw14_MergeAll.j0 k false))))))=some r:=H
 have A7:=Aside0.mk A70
 clear A70
 replace H:=Option.bind_eq_some_iff.mp H
 obtain ⟨t411,A80,H⟩:=H
 replace H : ((merge_Folded.f k t395 t398 t399 t400 t402).bind fun t412=>((thresherref14_Folded.f k t395 t398 t399 t400 t402).bind fun t415=>((thresherref04_Rows.f k t412 t415).bind fun t418=>(if t394=true then (if t411=true then (thresherlaw14_MergeAll.j0 k t418) else (thresherlaw14_MergeAll.j0 k false)) else (thresherlaw14_MergeAll.j0 k false)))))=some r:=H
 have A8:=Aside0.mk A80
 clear A80
 replace H:=Option.bind_eq_some_iff.mp H
 obtain ⟨t412,A90,H⟩:=H
 replace H : ((thresherref14_Folded.f k t395 t398 t399 t400 t402).bind fun t415=>((thresherref04_Rows.f k t412 t415).bind fun t418=>(if t394=true then (if t411=true then (thresherlaw14_MergeAll.j0 k t418) else (thresherlaw14_MergeAll.j0 k false)) else (thresherlaw14_MergeAll.j0 k false))))=some r:=H
 have A9:=Aside0.mk A90
 clear A90
 replace H:=Option.bind_eq_some_iff.mp H
 obtain ⟨t415,A100,H⟩:=H
 replace H : ((thresherref04_Rows.f k t412 t415).bind fun t418=>(if t394=true then (if t411=true then (thresherlaw14_MergeAll.j0 k t418) else (thresherlaw14_MergeAll.j0 k false)) else (thresherlaw14_MergeAll.j0 k false)))=some r:=H
 have A10:=Aside0.mk A100
 clear A100
 replace H:=Option.bind_eq_some_iff.mp H
 obtain ⟨t418,A110,H⟩:=H
 replace H : (if t394=true then (if t411=true then (thresherlaw14_MergeAll.j0 k t418) else (thresherlaw14_MergeAll.j0 k false)) else (thresherlaw14_MergeAll.j0 k false))=some r:=H
 have A11:=Aside0.mk A110
 clear A110
 have HC12:=Aside0.mk H
 clear H
 go_enter Try.func4,Try.ntmps4
 try go_wp2_with (first|((with_reducible refine gate_dst (N:=2) rfl ?_);refine box_event ?hg (N:=2) ?hd (cs:=#[.int .u8 a0_0,.int .u8 a0_1,.int .u8 a0_2,.int .u8 a0_3,.int .u8 a0_4,.int .u8 a0_5,.int .u8 a0_6,.int .u8 a0_7,.int .u8 a0_8,.int .u8 a0_9,.int .u8 a0_10,.int .u8 a0_11]) (t:=38) ?hr ?_;(case hd=>rfl);(case hg=>rfl);(case hr=>first|(go_simp;done)|(go_simp;rfl));intro gb393 hg w13 hbox hb;have n0_:=Aside0.mk (below_step (below_up HB.out) hb);have n1_:=Aside0.mk (hbox);have n2_:=Aside0.mk ((by rw [hg];exact (below_size (below_up HB.out)) : w.heap.size≤gb393));have n3_:=Aside0.mk ((by rw [hg];exact (below_size (below_up HB.out)) : w.heap.size≤gb393));clear HB;have HB:=n0_;have BK393:=n1_;have GW393:=n2_;have GE393:=n3_;clear n0_ n1_ n2_ n3_;clear hb hbox hg)|((with_reducible refine gate_callee (f:=8) rfl ?_);refine goesL_ (some 10) rfl rfl Try.func8 (by kernel_rfl) rfl #[] rfl (by (try simp only [List.map_toArray,List.map_cons,List.map_nil]);first|done|rfl|(simp only [List.length_drop,List.length_take];rfl)) ?_;(with_reducible refine (thresherlaw14_shown.calls k  t394 _ A3.out).mono ?_);rintro e w14 ⟨rfl,hb⟩;refine ⟨_,rfl,?_⟩;have n0_:=Aside0.mk (blk_below (blk_up BK393.out) hb);have n1_:=Aside0.mk (below_step (below_go HB.out) hb);clear BK393;clear HB;have BK393:=n0_;have HB:=n1_;clear n0_ n1_;(try clear hb);(try clear hb2);(try clear hk);(try clear hi);have hcz15_0 : w14.cell? ⟨gb393,0,none⟩=some (.int .u8 a0_0):=(blk_cell BK393.out 0).trans rfl;have hcz15_1 : w14.cell? ⟨gb393,1,none⟩=some (.int .u8 a0_1):=(blk_cell BK393.out 1).trans rfl;have hcz15_2 : w14.cell? ⟨gb393,2,none⟩=some (.int .u8 a0_2):=(blk_cell BK393.out 2).trans rfl;have hcz15_3 : w14.cell? ⟨gb393,3,none⟩=some (.int .u8 a0_3):=(blk_cell BK393.out 3).trans rfl;have hcz15_4 : w14.cell? ⟨gb393,4,none⟩=some (.int .u8 a0_4):=(blk_cell BK393.out 4).trans rfl;have hcz15_5 : w14.cell? ⟨gb393,5,none⟩=some (.int .u8 a0_5):=(blk_cell BK393.out 5).trans rfl;have hcz15_6 : w14.cell? ⟨gb393,6,none⟩=some (.int .u8 a0_6):=(blk_cell BK393.out 6).trans rfl;have hcz15_7 : w14.cell? ⟨gb393,7,none⟩=some (.int .u8 a0_7):=(blk_cell BK393.out 7).trans rfl;have hcz15_8 : w14.cell? ⟨gb393,8,none⟩=some (.int .u8 a0_8):=(blk_cell BK393.out 8).trans rfl;have hcz15_9 : w14.cell? ⟨gb393,9,none⟩=some (.int .u8 a0_9):=(blk_cell BK393.out 9).trans rfl;have hcz15_10 : w14.cell? ⟨gb393,10,none⟩=some (.int .u8 a0_10):=(blk_cell BK393.out 10).trans rfl;have hcz15_11 : w14.cell? ⟨gb393,11,none⟩=some (.int .u8 a0_11):=(blk_cell BK393.out 11).trans rfl;have hfz15_0:=blk_frozen BK393.out 0;have hfz15_1:=blk_frozen BK393.out 1;have hfz15_2:=blk_frozen BK393.out 2;have hfz15_3:=blk_frozen BK393.out 3;have hfz15_4:=blk_frozen BK393.out 4;have hfz15_5:=blk_frozen BK393.out 5;have hfz15_6:=blk_frozen BK393.out 6;have hfz15_7:=blk_frozen BK393.out 7;have hfz15_8:=blk_frozen BK393.out 8;have hfz15_9:=blk_frozen BK393.out 9;have hfz15_10:=blk_frozen BK393.out 10;have hfz15_11:=blk_frozen BK393.out 11)|((with_reducible refine gate_callee (f:=10) rfl ?_);refine goesL_ (some 12) rfl rfl Try.func10 (by kernel_rfl) rfl #[.agg #[.int .u8 a0_0,.int .u8 a0_1,.int .u8 a0_2,.int .u8 a0_3,.int .u8 a0_4,.int .u8 a0_5,.int .u8 a0_6,.int .u8 a0_7,.int .u8 a0_8,.int .u8 a0_9,.int .u8 a0_10,.int .u8 a0_11]] rfl (by (try simp only [List.map_toArray,List.map_cons,List.map_nil]);first|done|rfl|(simp only [List.length_drop,List.length_take];rfl)) ?_;(with_reducible refine (thresherlaw14_made.calls k a0_0 a0_1 a0_2 a0_3 a0_4 a0_5 a0_6 a0_7 a0_8 a0_9 a0_10 a0_11 t395 t398 t399 t400 _ A4.out).mono ?_);rintro e w16 ⟨v396,rfl,ho0,hb⟩;refine ⟨_,rfl,?_⟩;have n0_:=Aside0.mk (Kd.R_lower ho0 (below_size (below_go HB.out)));have n1_:=Aside0.mk (blk_below (blk_up BK393.out) hb);have n2_:=Aside0.mk (below_step (below_go HB.out) hb);clear BK393;clear HB;have HO397:=n0_;have BK393:=n1_;have HB:=n2_;clear n0_ n1_ n2_;(try clear hb);(try clear hb2);(try clear hk);(try clear hi);(try clear ho0))|((with_reducible refine gate_dst (N:=6) rfl ?_);refine box_event ?hg (N:=6) ?hd (cs:=#[.slice none 0 0,.int .i64 0,.int .i64 0,.int .i64 0]) (t:=26) ?hr ?_;(case hd=>rfl);(case hg=>rfl);(case hr=>first|(go_simp;done)|(go_simp;rfl));intro gb401 hg w17 hbox hb;have n0_:=Aside0.mk (Kd.R_below (R_up HO397.out) hb);have n1_:=Aside0.mk (blk_below (blk_up BK393.out) hb);have n2_:=Aside0.mk (below_step (below_go HB.out) hb);have n3_:=Aside0.mk (hbox);have n4_:=Aside0.mk ((by rw [hg];exact (below_size (below_go HB.out)) : w.heap.size≤gb401));have n5_:=Aside0.mk ((by rw [hg];exact (below_size (below_go HB.out)) : w.heap.size≤gb401));have n6_:=Aside0.mk ((by rw [hg];exact Nat.ne_of_lt (blk_lt (blk_up BK393.out)) : gb393≠gb401));have n7_:=Aside0.mk ((by rw [hg];exact Nat.ne_of_gt (blk_lt (blk_up BK393.out)) : gb401≠gb393));clear HO397;clear BK393;clear HB;have HO397:=n0_;have BK393:=n1_;have HB:=n2_;have BK401:=n3_;have GW401:=n4_;have GE401:=n5_;have NB393_401:=n6_;have NB401_393:=n7_;clear n0_ n1_ n2_ n3_ n4_ n5_ n6_ n7_;clear hb hbox hg;obtain ⟨Ao18,co18,eo18⟩:=Kd.R_slice HO397.out;subst eo18;have hnb19:=NB401_393.out;have hnc19:=NB393_401.out;have hcz20_0 : w17.cell? ⟨gb401,0,none⟩=some (.slice none 0 0):=(blk_cell BK401.out 0).trans rfl;have hcz20_1 : w17.cell? ⟨gb401,1,none⟩=some (.int .i64 0):=(blk_cell BK401.out 1).trans rfl;have hcz20_2 : w17.cell? ⟨gb401,2,none⟩=some (.int .i64 0):=(blk_cell BK401.out 2).trans rfl;have hcz20_3 : w17.cell? ⟨gb401,3,none⟩=some (.int .i64 0):=(blk_cell BK401.out 3).trans rfl;have hfz20_0:=blk_frozen BK401.out 0;have hfz20_1:=blk_frozen BK401.out 1;have hfz20_2:=blk_frozen BK401.out 2;have hfz20_3:=blk_frozen BK401.out 3)|((with_reducible refine gate_callee (f:=11) rfl ?_);refine goesL_ (some 15) rfl rfl Try.func11 (by kernel_rfl) rfl #[.agg #[.slice Ao18 t395.length co18,.int .i64 t398,.int .i64 t399,.int .i64 t400],.slice A1 l1.length c1] rfl (by (try simp only [List.map_toArray,List.map_cons,List.map_nil]);first|done|rfl|(simp only [List.length_drop,List.length_take];rfl)) ?_;(with_reducible refine (thresherlaw14_parts.calls k _ _ t395 t398 t399 t400 _ _ l1 t402 _ ?side1 ?side2 ?side3 ?side4 A5.out).mono ?_);(case side1=>refine (Kd.R_reads' (e:=3) (base:=w.heap.size) (ok:=fun k_=>True) (n:=t395.length) (c:=co18) ?_).2.2;exact (by (with_reducible repeat (first|apply Kd.R_alloc|apply Kd.R_drewN|apply Kd.R_drew));exact (Kd.R_mono (Kd.R_far (p:=⟨gb401,3,none⟩) (Kd.R_far (p:=⟨gb401,2,none⟩) (Kd.R_far (p:=⟨gb401,1,none⟩) (Kd.R_far (p:=⟨gb401,0,none⟩) (Kd.R_types HO397.out BK401.out (by decide)) (fun _ hk=>hk.2) (.slice Ao18 t395.length co18)) (fun _ hk=>hk.2) (.int .i64 t398)) (fun _ hk=>hk.2) (.int .i64 t399)) (fun _ hk=>hk.2) (.int .i64 t400)) (fun _ h_=>h_.1))));(case side2=>exact (Kd.R_reads' HO397.out).2.1);(case side3=>exact Kd.C_below HR1.out (below_go HB.out));(case side4=>exact HC1.out);rintro e w21 ⟨v403,rfl,ho0,hb⟩;refine ⟨_,rfl,?_⟩;have n0_:=Aside0.mk (Kd.R_below (by (with_reducible repeat (first|apply Kd.R_alloc|apply Kd.R_drewN|apply Kd.R_drew));exact (Kd.R_mono (Kd.R_far (p:=⟨gb401,3,none⟩) (Kd.R_far (p:=⟨gb401,2,none⟩) (Kd.R_far (p:=⟨gb401,1,none⟩) (Kd.R_far (p:=⟨gb401,0,none⟩) (Kd.R_types HO397.out BK401.out (by decide)) (fun _ hk=>hk.2) (.slice Ao18 t395.length co18)) (fun _ hk=>hk.2) (.int .i64 t398)) (fun _ hk=>hk.2) (.int .i64 t399)) (fun _ hk=>hk.2) (.int .i64 t400)) (fun _ h_=>h_.1))) hb);have n1_:=Aside0.mk (Kd.N_lower (Kd.N_mono (ok':=fun k_=>some k_≠(.slice Ao18 t395.length co18 : Value).ownBlock∧k_≠gb393∧k_≠gb401) ho0 (fun k_ hk_=>⟨(Kd.fresh' (Kd.R_lt (by (with_reducible repeat (first|apply Kd.R_alloc|apply Kd.R_drewN|apply Kd.R_drew));exact (Kd.R_mono (Kd.R_far (p:=⟨gb401,3,none⟩) (Kd.R_far (p:=⟨gb401,2,none⟩) (Kd.R_far (p:=⟨gb401,1,none⟩) (Kd.R_far (p:=⟨gb401,0,none⟩) (Kd.R_types HO397.out BK401.out (by decide)) (fun _ hk=>hk.2) (.slice Ao18 t395.length co18)) (fun _ hk=>hk.2) (.int .i64 t398)) (fun _ hk=>hk.2) (.int .i64 t399)) (fun _ hk=>hk.2) (.int .i64 t400)) (fun _ h_=>h_.1)))) k_ hk_),(Kd.freshB (g:=gb393) (o:=.cells #[.int .u8 a0_0,.int .u8 a0_1,.int .u8 a0_2,.int .u8 a0_3,.int .u8 a0_4,.int .u8 a0_5,.int .u8 a0_6,.int .u8 a0_7,.int .u8 a0_8,.int .u8 a0_9,.int .u8 a0_10,.int .u8 a0_11] 38 (0,0)) (by (with_reducible repeat (first|refine blk_drewN ?_ _|refine blk_drew ?_|refine blk_alloc ?_ _));refine blk_far ?_ NB393_401.out _;(with_reducible repeat (first|refine blk_drewN ?_ _|refine blk_drew ?_|refine blk_alloc ?_ _));refine blk_far ?_ NB393_401.out _;(with_reducible repeat (first|refine blk_drewN ?_ _|refine blk_drew ?_|refine blk_alloc ?_ _));refine blk_far ?_ NB393_401.out _;(with_reducible repeat (first|refine blk_drewN ?_ _|refine blk_drew ?_|refine blk_alloc ?_ _));refine blk_far ?_ NB393_401.out _;(with_reducible repeat (first|refine blk_drewN ?_ _|refine blk_drew ?_|refine blk_alloc ?_ _));exact BK393.out) k_ hk_),(Kd.freshB (g:=gb401) (o:=.cells #[.slice Ao18 t395.length co18,.int .i64 t398,.int .i64 t399,.int .i64 t400] 26 (0,0)) (by (with_reducible repeat (first|refine blk_drewN ?_ _|refine blk_drew ?_|refine blk_alloc ?_ _));refine blk_put (cs:=#[.slice Ao18 t395.length co18,.int .i64 t398,.int .i64 t399,.int .i64 0]) ?_ 3 _ rfl;(with_reducible repeat (first|refine blk_drewN ?_ _|refine blk_drew ?_|refine blk_alloc ?_ _));refine blk_put (cs:=#[.slice Ao18 t395.length co18,.int .i64 t398,.int .i64 0,.int .i64 0]) ?_ 2 _ rfl;(with_reducible repeat (first|refine blk_drewN ?_ _|refine blk_drew ?_|refine blk_alloc ?_ _));refine blk_put (cs:=#[.slice Ao18 t395.length co18,.int .i64 0,.int .i64 0,.int .i64 0]) ?_ 1 _ rfl;(with_reducible repeat (first|refine blk_drewN ?_ _|refine blk_drew ?_|refine blk_alloc ?_ _));refine blk_put (cs:=#[.slice none 0 0,.int .i64 0,.int .i64 0,.int .i64 0]) ?_ 0 _ rfl;(with_reducible repeat (first|refine blk_drewN ?_ _|refine blk_drew ?_|refine blk_alloc ?_ _));exact BK401.out) k_ hk_)⟩)) (below_size (below_go HB.out)));have n2_:=Aside0.mk (blk_below (g:=gb393) (o:=.cells #[.int .u8 a0_0,.int .u8 a0_1,.int .u8 a0_2,.int .u8 a0_3,.int .u8 a0_4,.int .u8 a0_5,.int .u8 a0_6,.int .u8 a0_7,.int .u8 a0_8,.int .u8 a0_9,.int .u8 a0_10,.int .u8 a0_11] 38 (0,0)) (by (with_reducible repeat (first|refine blk_drewN ?_ _|refine blk_drew ?_|refine blk_alloc ?_ _));refine blk_far ?_ NB393_401.out _;(with_reducible repeat (first|refine blk_drewN ?_ _|refine blk_drew ?_|refine blk_alloc ?_ _));refine blk_far ?_ NB393_401.out _;(with_reducible repeat (first|refine blk_drewN ?_ _|refine blk_drew ?_|refine blk_alloc ?_ _));refine blk_far ?_ NB393_401.out _;(with_reducible repeat (first|refine blk_drewN ?_ _|refine blk_drew ?_|refine blk_alloc ?_ _));refine blk_far ?_ NB393_401.out _;(with_reducible repeat (first|refine blk_drewN ?_ _|refine blk_drew ?_|refine blk_alloc ?_ _));exact BK393.out) hb);have n3_:=Aside0.mk (blk_below (g:=gb401) (o:=.cells #[.slice Ao18 t395.length co18,.int .i64 t398,.int .i64 t399,.int .i64 t400] 26 (0,0)) (by (with_reducible repeat (first|refine blk_drewN ?_ _|refine blk_drew ?_|refine blk_alloc ?_ _));refine blk_put (cs:=#[.slice Ao18 t395.length co18,.int .i64 t398,.int .i64 t399,.int .i64 0]) ?_ 3 _ rfl;(with_reducible repeat (first|refine blk_drewN ?_ _|refine blk_drew ?_|refine blk_alloc ?_ _));refine blk_put (cs:=#[.slice Ao18 t395.length co18,.int .i64 t398,.int .i64 0,.int .i64 0]) ?_ 2 _ rfl;(with_reducible repeat (first|refine blk_drewN ?_ _|refine blk_drew ?_|refine blk_alloc ?_ _));refine blk_put (cs:=#[.slice Ao18 t395.length co18,.int .i64 0,.int .i64 0,.int .i64 0]) ?_ 1 _ rfl;(with_reducible repeat (first|refine blk_drewN ?_ _|refine blk_drew ?_|refine blk_alloc ?_ _));refine blk_put (cs:=#[.slice none 0 0,.int .i64 0,.int .i64 0,.int .i64 0]) ?_ 0 _ rfl;(with_reducible repeat (first|refine blk_drewN ?_ _|refine blk_drew ?_|refine blk_alloc ?_ _));exact BK401.out) hb);have n4_:=Aside0.mk (below_step (below_go HB.out) hb);clear HO397;clear BK393;clear BK401;clear HB;have HO397:=n0_;have HO404:=n1_;have BK393:=n2_;have BK401:=n3_;have HB:=n4_;clear n0_ n1_ n2_ n3_ n4_;(try clear hb);(try clear hb2);(try clear hk);(try clear hi);(try clear ho0)))
 have n0_:=Aside0.mk (Kd.R_drew HO397.out)
 have n1_:=Aside0.mk (Kd.N_drew HO404.out)
 have n2_:=Aside0.mk (blk_drew BK393.out)
 have n3_:=Aside0.mk (blk_drew BK401.out)
 have n4_:=Aside0.mk (below_drew1 HB.out)
 clear HO397
 clear HO404
 clear BK393
 clear BK401
 clear HB
 have HO397:=n0_
 have HO404:=n1_
 have BK393:=n2_
 have BK401:=n3_
 have HB:=n4_
 clear n0_ n1_ n2_ n3_ n4_
 obtain ⟨Ao23,co23,eo23⟩:=Kd.N_slice HO404.out
 (first|subst eo23|(injection eo23 with f1_ f2_ f3_;have f4_:=f1_.symm;have f5_:=f3_.symm;clear f1_ f2_ f3_;subst f4_;subst f5_))
 refine start_ (n:=8) (S:=fun w'=>w'.cell? ⟨gb401,0,none⟩=some (.slice Ao18 t395.length co18)∧w'.cell? ⟨gb401,1,none⟩=some (.int .i64 t398)∧w'.cell? ⟨gb401,2,none⟩=some (.int .i64 t399)∧w'.cell? ⟨gb401,3,none⟩=some (.int .i64 t400)) (ds:=[]) #[false,false,false,false,false,false,false,false] (by kernel_rfl) rfl rfl ⟨(blk_cell BK401.out 0).trans rfl,(blk_cell BK401.out 1).trans rfl,(blk_cell BK401.out 2).trans rfl,(blk_cell BK401.out 3).trans rfl⟩ (fun hHeld=>?_);refine with_tabW thresherlaw14_MergeAll.tab4 thresherlaw14_MergeAll.bits4 (fun HT_ HW_=>?_)
 generalize w21.drew=w22 at HO397 HO404 BK393 BK401 HB hHeld ⊢
 refine pure_ (i:=1) (N:=some 17) (v:=?_) (a':=?_) #[false,true,false,false,false,false,false,false] rfl rfl (any_of HT_.out (by kernel_rfl)) (fun _ _ _ h=>h) (Or.inl ⟨by rfl,?_⟩) ?_ ?_
 rotate_left;(intro w';go_simp;with_reducible rfl);rotate_left;(simp only [Act.put,List.setIfInBounds_toArray,List.set_cons_zero,List.set_cons_succ,i64_w,i32_w];rfl)
 refine pure_ (i:=4) (N:=some 20) (v:=?_) (a':=?_) #[false,true,false,false,true,false,false,false] rfl rfl (any_of HT_.out (by kernel_rfl)) (fun _ _ _ h=>h) (Or.inl ⟨by rfl,?_⟩) ?_ ?_
 rotate_left;(intro w';go_simp;with_reducible rfl);rotate_left;(simp only [Act.put,List.setIfInBounds_toArray,List.set_cons_zero,List.set_cons_succ,i64_w,i32_w];rfl)
 refine take_ (i:=0) (N:=some 16) (v:=?_) (a':=?_) #[true,true,false,false,true,false,false,false] rfl rfl (take_ofW HT_.out HW_.out (by kernel_rfl)) (fun _ _ _ h=>h) (Or.inl ⟨by rfl,?_⟩) hHeld ?_ ?_
 rotate_left;(rintro w' ⟨s0,s1,s2,s3⟩;go_simp;with_reducible rfl);rotate_left;(simp only [Act.put,List.setIfInBounds_toArray,List.set_cons_zero,List.set_cons_succ,i64_w,i32_w];rfl)
 refine take_ (i:=3) (N:=some 19) (v:=?_) (a':=?_) #[true,true,false,true,true,false,false,false] rfl rfl (take_ofW HT_.out HW_.out (by kernel_rfl)) (fun _ _ _ h=>h) (Or.inl ⟨by rfl,?_⟩) hHeld ?_ ?_
 rotate_left;(rintro w' ⟨s0,s1,s2,s3⟩;go_simp;with_reducible rfl);rotate_left;(simp only [Act.put,List.setIfInBounds_toArray,List.set_cons_zero,List.set_cons_succ,i64_w,i32_w];rfl)
 refine one_ (i:=2) (N:=some 18) #[true,true,true,true,true,false,false,false] rfl rfl (one_of HT_.out (by kernel_rfl)) (by decide) (fun K hK=>?_)
 refine goes_ Try.func9 (by kernel_rfl) rfl #[.agg #[.slice Ao18 t395.length co18,.int .i64 t398,.int .i64 t399,.int .i64 t400],.slice Ao23 t402.length co23] (by rfl) rfl rfl (by (try simp only [List.map_toArray,List.map_cons,List.map_nil]);first|done|rfl|(simp only [List.length_drop,List.length_take];rfl)) ?_
 with_reducible refine (merge_Rows.calls k _ _ t395 t398 t399 t400 (fun k_=>(some k_≠(.slice Ao18 t395.length co18 : Value).ownBlock∧(k_≠gb393∧k_≠gb401))) _ _ t402 t405 _ ?side1 ?side2 ?side3 A6.out).mono ?_
 (case side1=>repeat (first|exact (Kd.R_reads' HO397.out).2.2|(with_reducible refine Kd.C_alloc ?_ _)|(with_reducible refine Kd.C_drewN ?_ _)|(with_reducible refine Kd.C_drew ?_)))
 (case side2=>exact (Kd.R_reads' HO397.out).2.1)
 (case side3=>first|exact Kd.N_V (HO404.out)|exact Kd.N_V (Kd.N_mono HO404.out (fun k_ hk_=>by simp_all)))
 rintro e w24 ⟨v406,rfl,ho0,hb⟩
 refine ⟨_,rfl,?_⟩
 have n0_:=Aside0.mk (Kd.R_below (R_up HO397.out) hb)
 have n1_:=Aside0.mk (Kd.N_elder' (N_up HO404.out) (by first|exact Kd.N_base ho0|exact Kd.S_base ho0) hb)
 have n2_:=Aside0.mk (Kd.N_lower (Kd.N_mono (ok':=fun k_=>some k_≠(.slice Ao18 t395.length co18 : Value).ownBlock∧k_≠gb393∧k_≠gb401) ho0 (fun k_ hk_=>⟨Or.elim hk_ (fun hs_=>hs_.1) (fun hn_=>(Kd.fresh' (Kd.R_lt (R_up HO397.out)) k_ hn_)),Or.elim hk_ (fun hs_=>hs_.2.1) (fun hn_=>(Kd.freshB (blk_up BK393.out) k_ hn_)),Or.elim hk_ (fun hs_=>hs_.2.2) (fun hn_=>(Kd.freshB (blk_up BK401.out) k_ hn_))⟩)) (below_size (below_go HB.out)))
 have n3_:=Aside0.mk (blk_below (blk_up BK393.out) hb)
 have n4_:=Aside0.mk (blk_below (blk_up BK401.out) hb)
 have n5_:=Aside0.mk (below_step (below_go HB.out) hb)
 clear HO397
 clear HO404
 clear BK393
 clear BK401
 clear HB
 have HO397:=n0_
 have HO404:=n1_
 have HO407:=n2_
 have BK393:=n3_
 have BK401:=n4_
 have HB:=n5_
 clear n0_ n1_ n2_ n3_ n4_ n5_
 (try clear hb)
 (try clear hb2)
 (try clear hk)
 (try clear hi)
 (try clear ho0)
 refine hK.out _ _ ⟨(blk_cell BK401.out 0).trans rfl,(blk_cell BK401.out 1).trans rfl,(blk_cell BK401.out 2).trans rfl,(blk_cell BK401.out 3).trans rfl⟩ (fun hHeld=>?_)
 clear hK K
 refine norm_ (a':=?_) ?_ ?_
 rotate_left
 ·show Act.put _ (some 18) _=_
  simp only [Act.put,List.setIfInBounds_toArray,List.set_cons_zero,List.set_cons_succ,i64_w,i32_w]
  rfl
 refine one_ (i:=5) (N:=some 21) #[true,true,true,true,true,true,false,false] rfl rfl (one_of HT_.out (by kernel_rfl)) (by decide) (fun K hK=>?_)
 refine goes_ Try.func13 (by kernel_rfl) rfl #[.agg #[.slice Ao18 t395.length co18,.int .i64 t398,.int .i64 t399,.int .i64 t400],.slice Ao23 t402.length co23] (by rfl) rfl rfl (by (try simp only [List.map_toArray,List.map_cons,List.map_nil]);first|done|rfl|(simp only [List.length_drop,List.length_take];rfl)) ?_
 with_reducible refine (thresherref14_Rows.calls k _ _ t395 t398 t399 t400 (fun k_=>((some k_≠(.slice Ao18 t395.length co18 : Value).ownBlock∧(k_≠gb393∧k_≠gb401))∧some k_≠(v406 : Value).ownBlock)) _ _ t402 t408 _ ?side1 ?side2 ?side3 A7.out).mono ?_
 (case side1=>repeat (first|exact (Kd.R_reads' HO397.out).2.2|(with_reducible refine Kd.C_alloc ?_ _)|(with_reducible refine Kd.C_drewN ?_ _)|(with_reducible refine Kd.C_drew ?_)))
 (case side2=>exact (Kd.R_reads' HO397.out).2.1)
 (case side3=>first|exact Kd.N_V (HO404.out)|exact Kd.N_V (Kd.N_mono HO404.out (fun k_ hk_=>by simp_all)))
 rintro e w25 ⟨v409,rfl,ho0,hb⟩
 refine ⟨_,rfl,?_⟩
 have n0_:=Aside0.mk (Kd.R_below (R_up HO397.out) hb)
 have n1_:=Aside0.mk (Kd.N_elder' (N_up HO404.out) (by first|exact Kd.N_base ho0|exact Kd.S_base ho0) hb)
 have n2_:=Aside0.mk (Kd.N_elder' (N_up HO407.out) (by first|exact Kd.N_base ho0|exact Kd.S_base ho0) hb)
 have n3_:=Aside0.mk (Kd.N_lower (Kd.N_mono (ok':=fun k_=>some k_≠(.slice Ao18 t395.length co18 : Value).ownBlock∧some k_≠(v406 : Value).ownBlock∧k_≠gb393∧k_≠gb401) ho0 (fun k_ hk_=>⟨Or.elim hk_ (fun hs_=>hs_.1.1) (fun hn_=>(Kd.fresh' (Kd.R_lt (R_up HO397.out)) k_ hn_)),Or.elim hk_ (fun hs_=>hs_.2) (fun hn_=>(Kd.fresh' (Kd.N_lt (N_up HO407.out)) k_ hn_)),Or.elim hk_ (fun hs_=>hs_.1.2.1) (fun hn_=>(Kd.freshB (blk_up BK393.out) k_ hn_)),Or.elim hk_ (fun hs_=>hs_.1.2.2) (fun hn_=>(Kd.freshB (blk_up BK401.out) k_ hn_))⟩)) (below_size (below_go HB.out)))
 have n4_:=Aside0.mk (blk_below (blk_up BK393.out) hb)
 have n5_:=Aside0.mk (blk_below (blk_up BK401.out) hb)
 have n6_:=Aside0.mk (below_step (below_go HB.out) hb)
 clear HO397
 clear HO404
 clear HO407
 clear BK393
 clear BK401
 clear HB
 have HO397:=n0_
 have HO404:=n1_
 have HO407:=n2_
 have HO410:=n3_
 have BK393:=n4_
 have BK401:=n5_
 have HB:=n6_
 clear n0_ n1_ n2_ n3_ n4_ n5_ n6_
 (try clear hb)
 (try clear hb2)
 (try clear hk)
 (try clear hi)
 (try clear ho0)
 obtain ⟨Ao26,co26,eo26⟩:=Kd.N_slice HO407.out
 (first|subst eo26|(injection eo26 with f1_ f2_ f3_;have f4_:=f1_.symm;have f5_:=f3_.symm;clear f1_ f2_ f3_;subst f4_;subst f5_))
 obtain ⟨Ao27,co27,eo27⟩:=Kd.N_slice HO410.out
 (first|subst eo27|(injection eo27 with f1_ f2_ f3_;have f4_:=f1_.symm;have f5_:=f3_.symm;clear f1_ f2_ f3_;subst f4_;subst f5_))
 refine hK.out _ _ ⟨(blk_cell BK401.out 0).trans rfl,(blk_cell BK401.out 1).trans rfl,(blk_cell BK401.out 2).trans rfl,(blk_cell BK401.out 3).trans rfl⟩ (fun hHeld=>?_)
 clear hK K
 refine norm_ (a':=?_) ?_ ?_
 rotate_left
 ·show Act.put _ (some 21) _=_
  simp only [Act.put,List.setIfInBounds_toArray,List.set_cons_zero,List.set_cons_succ,i64_w,i32_w]
  rfl
 refine one_ (i:=6) (N:=some 22) #[true,true,true,true,true,true,true,false] rfl rfl (one_of HT_.out (by kernel_rfl)) (by decide) (fun K hK=>?_)
 refine goes_ Try.func12 (by kernel_rfl) rfl #[.slice Ao26 t405.length co26,.slice Ao27 t408.length co27] (by rfl) rfl rfl (by (try simp only [List.map_toArray,List.map_cons,List.map_nil]);first|done|rfl|(simp only [List.length_drop,List.length_take];rfl)) ?_
 with_reducible refine (thresherref04_Rows.calls k _ _ t405 _ _ t408 t411 _ ?side1 ?side2 ?side3 ?side4 A8.out).mono ?_
 (case side1=>repeat (first|exact (Kd.N_reads' HO407.out).2.2|(with_reducible refine Kd.C_alloc ?_ _)|(with_reducible refine Kd.C_drewN ?_ _)|(with_reducible refine Kd.C_drew ?_)))
 (case side2=>exact (Kd.N_reads' HO407.out).2.1)
 (case side3=>repeat (first|exact (Kd.N_reads' HO410.out).2.2|(with_reducible refine Kd.C_alloc ?_ _)|(with_reducible refine Kd.C_drewN ?_ _)|(with_reducible refine Kd.C_drew ?_)))
 (case side4=>exact (Kd.N_reads' HO410.out).2.1)
 rintro e w' ⟨rfl,⟨nd,rfl⟩⟩
 refine ⟨_,rfl,?_⟩
 refine hK.out _ _ ⟨(blk_cell BK401.out 0).trans rfl,(blk_cell BK401.out 1).trans rfl,(blk_cell BK401.out 2).trans rfl,(blk_cell BK401.out 3).trans rfl⟩ (fun hHeld=>?_)
 clear hK K
 refine norm_ (a':=?_) ?_ ?_
 rotate_left
 ·show Act.put _ (some 22) _=_
  simp only [Act.put,List.setIfInBounds_toArray,List.set_cons_zero,List.set_cons_succ,i64_w,i32_w]
  rfl
 refine pure_ (i:=7) (N:=some 8) (v:=?_) (a':=?_) #[true,true,true,true,true,true,true,true] rfl rfl (any_of HT_.out (by kernel_rfl)) (fun _ _ _ h=>h) (Or.inl ⟨by rfl,?_⟩) ?_ ?_
 rotate_left;(intro w';go_simp;with_reducible rfl);rotate_left;(simp only [Act.put,List.setIfInBounds_toArray,List.set_cons_zero,List.set_cons_succ,i64_w,i32_w];rfl)
 refine done_ (done_of HT_.out (by kernel_rfl)) ?_
 (try clear hHeld)
 try go_wp2
 (try (rw [drewN_self w25];generalize hq_ : World.drewN w25 _=w25;have n0_ : Aside0 (Kd.R (Kd.int .i64) 3 w25 w.heap.size (fun _=>True) (.slice Ao18 t395.length co18) t395):=⟨by rw [← hq_];exact (R_up HO397.out)⟩;have n1_ : Aside0 (Kd.N (Kd.slice 33 (Kd.slice 31 k31)) 28 w25 w.heap.size (fun k_=>some k_≠(.slice Ao18 t395.length co18 : Value).ownBlock∧some k_≠(.slice Ao26 t405.length co26 : Value).ownBlock∧some k_≠(.slice Ao27 t408.length co27 : Value).ownBlock∧k_≠gb393∧k_≠gb401) (.slice Ao23 t402.length co23) t402):=⟨by rw [← hq_];exact (N_upm HO404.out (fun _ hk=>⟨hk.1.1.1,⟨hk.1.2,⟨hk.2,⟨hk.1.1.2.1,hk.1.1.2.2⟩⟩⟩⟩))⟩;have n2_ : Aside0 (Kd.N (Kd.slice 31 k31) 33 w25 w.heap.size (fun k_=>some k_≠(.slice Ao18 t395.length co18 : Value).ownBlock∧some k_≠(.slice Ao27 t408.length co27 : Value).ownBlock∧k_≠gb393∧k_≠gb401) (.slice Ao26 t405.length co26) t405):=⟨by rw [← hq_];exact (N_upm HO407.out (fun _ hk=>⟨hk.1.1,⟨hk.2,⟨hk.1.2.1,hk.1.2.2⟩⟩⟩))⟩;have n3_ : Aside0 (Kd.N (Kd.slice 31 k31) 33 w25 w.heap.size (fun k_=>some k_≠(.slice Ao18 t395.length co18 : Value).ownBlock∧some k_≠(.slice Ao26 t405.length co26 : Value).ownBlock∧k_≠gb393∧k_≠gb401) (.slice Ao27 t408.length co27) t408):=⟨by rw [← hq_];exact (N_up HO410.out)⟩;have n4_ : Aside0 (w25.heap[gb393]?=some (.cells #[.int .u8 a0_0,.int .u8 a0_1,.int .u8 a0_2,.int .u8 a0_3,.int .u8 a0_4,.int .u8 a0_5,.int .u8 a0_6,.int .u8 a0_7,.int .u8 a0_8,.int .u8 a0_9,.int .u8 a0_10,.int .u8 a0_11] 38 (0,0))):=⟨by rw [← hq_];exact (blk_up BK393.out)⟩;have n5_ : Aside0 (w25.heap[gb401]?=some (.cells #[.slice Ao18 t395.length co18,.int .i64 t398,.int .i64 t399,.int .i64 t400] 26 (0,0))):=⟨by rw [← hq_];exact (blk_up BK401.out)⟩;have n6_ : Aside0 (Below w.heap.size w w25):=⟨by rw [← hq_];exact (below_go HB.out)⟩;clear HO397 HO404 HO407 HO410 BK393 BK401 HB hq_;have HO397:=n0_;have HO404:=n1_;have HO407:=n2_;have HO410:=n3_;have BK393:=n4_;have BK401:=n5_;have HB:=n6_;clear n0_ n1_ n2_ n3_ n4_ n5_ n6_))
 have n0_:=Aside0.mk (Kd.R_drew HO397.out)
 have n1_:=Aside0.mk (Kd.N_drew HO404.out)
 have n2_:=Aside0.mk (Kd.N_drew HO407.out)
 have n3_:=Aside0.mk (Kd.N_drew HO410.out)
 have n4_:=Aside0.mk (blk_drew BK393.out)
 have n5_:=Aside0.mk (blk_drew BK401.out)
 have n6_:=Aside0.mk (below_drew1 HB.out)
 clear HO397
 clear HO404
 clear HO407
 clear HO410
 clear BK393
 clear BK401
 clear HB
 have HO397:=n0_
 have HO404:=n1_
 have HO407:=n2_
 have HO410:=n3_
 have BK393:=n4_
 have BK401:=n5_
 have HB:=n6_
 clear n0_ n1_ n2_ n3_ n4_ n5_ n6_
 refine start_ (n:=8) (S:=fun w'=>w'.cell? ⟨gb401,0,none⟩=some (.slice Ao18 t395.length co18)∧w'.cell? ⟨gb401,1,none⟩=some (.int .i64 t398)∧w'.cell? ⟨gb401,2,none⟩=some (.int .i64 t399)∧w'.cell? ⟨gb401,3,none⟩=some (.int .i64 t400)) (ds:=[]) #[false,false,false,false,false,false,false,false] (by kernel_rfl) rfl rfl ⟨(blk_cell BK401.out 0).trans rfl,(blk_cell BK401.out 1).trans rfl,(blk_cell BK401.out 2).trans rfl,(blk_cell BK401.out 3).trans rfl⟩ (fun hHeld=>?_);refine with_tabW thresherlaw14_MergeAll.tab5 thresherlaw14_MergeAll.bits5 (fun HT_ HW_=>?_)
 generalize w25.drew=w28 at HO397 HO404 HO407 HO410 BK393 BK401 HB hHeld ⊢
 refine pure_ (i:=1) (N:=some 24) (v:=?_) (a':=?_) #[false,true,false,false,false,false,false,false] rfl rfl (any_of HT_.out (by kernel_rfl)) (fun _ _ _ h=>h) (Or.inl ⟨by rfl,?_⟩) ?_ ?_
 rotate_left;(intro w';go_simp;with_reducible rfl);rotate_left;(simp only [Act.put,List.setIfInBounds_toArray,List.set_cons_zero,List.set_cons_succ,i64_w,i32_w];rfl)
 refine pure_ (i:=4) (N:=some 27) (v:=?_) (a':=?_) #[false,true,false,false,true,false,false,false] rfl rfl (any_of HT_.out (by kernel_rfl)) (fun _ _ _ h=>h) (Or.inl ⟨by rfl,?_⟩) ?_ ?_
 rotate_left;(intro w';go_simp;with_reducible rfl);rotate_left;(simp only [Act.put,List.setIfInBounds_toArray,List.set_cons_zero,List.set_cons_succ,i64_w,i32_w];rfl)
 refine take_ (i:=0) (N:=some 23) (v:=?_) (a':=?_) #[true,true,false,false,true,false,false,false] rfl rfl (take_ofW HT_.out HW_.out (by kernel_rfl)) (fun _ _ _ h=>h) (Or.inl ⟨by rfl,?_⟩) hHeld ?_ ?_
 rotate_left;(rintro w' ⟨s0,s1,s2,s3⟩;go_simp;with_reducible rfl);rotate_left;(simp only [Act.put,List.setIfInBounds_toArray,List.set_cons_zero,List.set_cons_succ,i64_w,i32_w];rfl)
 refine take_ (i:=3) (N:=some 26) (v:=?_) (a':=?_) #[true,true,false,true,true,false,false,false] rfl rfl (take_ofW HT_.out HW_.out (by kernel_rfl)) (fun _ _ _ h=>h) (Or.inl ⟨by rfl,?_⟩) hHeld ?_ ?_
 rotate_left;(rintro w' ⟨s0,s1,s2,s3⟩;go_simp;with_reducible rfl);rotate_left;(simp only [Act.put,List.setIfInBounds_toArray,List.set_cons_zero,List.set_cons_succ,i64_w,i32_w];rfl)
 refine one_ (i:=2) (N:=some 25) #[true,true,true,true,true,false,false,false] rfl rfl (one_of HT_.out (by kernel_rfl)) (by decide) (fun K hK=>?_)
 refine goes_ Try.func14 (by kernel_rfl) rfl #[.agg #[.slice Ao18 t395.length co18,.int .i64 t398,.int .i64 t399,.int .i64 t400],.slice Ao23 t402.length co23] (by rfl) rfl rfl (by (try simp only [List.map_toArray,List.map_cons,List.map_nil]);first|done|rfl|(simp only [List.length_drop,List.length_take];rfl)) ?_
 with_reducible refine (merge_Folded.calls k _ _ t395 t398 t399 t400 (fun k_=>(((some k_≠(.slice Ao18 t395.length co18 : Value).ownBlock∧(k_≠gb393∧k_≠gb401))∧some k_≠(.slice Ao26 t405.length co26 : Value).ownBlock)∧some k_≠(.slice Ao27 t408.length co27 : Value).ownBlock)) _ _ t402 t412 _ ?side1 ?side2 ?side3 A9.out).mono ?_
 (case side1=>repeat (first|exact (Kd.R_reads' HO397.out).2.2|(with_reducible refine Kd.C_alloc ?_ _)|(with_reducible refine Kd.C_drewN ?_ _)|(with_reducible refine Kd.C_drew ?_)))
 (case side2=>exact (Kd.R_reads' HO397.out).2.1)
 (case side3=>first|exact Kd.N_V (HO404.out)|exact Kd.N_V (Kd.N_mono HO404.out (fun k_ hk_=>by simp_all)))
 rintro e w29 ⟨v413,rfl,ho0,hb⟩
 refine ⟨_,rfl,?_⟩
 have n0_:=Aside0.mk (Kd.R_below (R_up HO397.out) hb)
 have n1_:=Aside0.mk (Kd.N_elder' (N_up HO404.out) (by first|exact Kd.N_base ho0|exact Kd.S_base ho0) hb)
 have n2_:=Aside0.mk (Kd.N_elder' (N_up HO407.out) (by first|exact Kd.N_base ho0|exact Kd.S_base ho0) hb)
 have n3_:=Aside0.mk (Kd.N_elder' (N_up HO410.out) (by first|exact Kd.N_base ho0|exact Kd.S_base ho0) hb)
 have n4_:=Aside0.mk (Kd.N_lower (Kd.N_mono (ok':=fun k_=>some k_≠(.slice Ao18 t395.length co18 : Value).ownBlock∧some k_≠(.slice Ao26 t405.length co26 : Value).ownBlock∧some k_≠(.slice Ao27 t408.length co27 : Value).ownBlock∧k_≠gb393∧k_≠gb401) ho0 (fun k_ hk_=>⟨Or.elim hk_ (fun hs_=>hs_.1.1.1) (fun hn_=>(Kd.fresh' (Kd.R_lt (R_up HO397.out)) k_ hn_)),Or.elim hk_ (fun hs_=>hs_.1.2) (fun hn_=>(Kd.fresh' (Kd.N_lt (N_up HO407.out)) k_ hn_)),Or.elim hk_ (fun hs_=>hs_.2) (fun hn_=>(Kd.fresh' (Kd.N_lt (N_up HO410.out)) k_ hn_)),Or.elim hk_ (fun hs_=>hs_.1.1.2.1) (fun hn_=>(Kd.freshB (blk_up BK393.out) k_ hn_)),Or.elim hk_ (fun hs_=>hs_.1.1.2.2) (fun hn_=>(Kd.freshB (blk_up BK401.out) k_ hn_))⟩)) (below_size (below_go HB.out)))
 have n5_:=Aside0.mk (blk_below (blk_up BK393.out) hb)
 have n6_:=Aside0.mk (blk_below (blk_up BK401.out) hb)
 have n7_:=Aside0.mk (below_step (below_go HB.out) hb)
 clear HO397
 clear HO404
 clear HO407
 clear HO410
 clear BK393
 clear BK401
 clear HB
 have HO397:=n0_
 have HO404:=n1_
 have HO407:=n2_
 have HO410:=n3_
 have HO414:=n4_
 have BK393:=n5_
 have BK401:=n6_
 have HB:=n7_
 clear n0_ n1_ n2_ n3_ n4_ n5_ n6_ n7_
 (try clear hb)
 (try clear hb2)
 (try clear hk)
 (try clear hi)
 (try clear ho0)
 refine hK.out _ _ ⟨(blk_cell BK401.out 0).trans rfl,(blk_cell BK401.out 1).trans rfl,(blk_cell BK401.out 2).trans rfl,(blk_cell BK401.out 3).trans rfl⟩ (fun hHeld=>?_)
 clear hK K
 refine norm_ (a':=?_) ?_ ?_
 rotate_left
 ·show Act.put _ (some 25) _=_
  simp only [Act.put,List.setIfInBounds_toArray,List.set_cons_zero,List.set_cons_succ,i64_w,i32_w]
  rfl
 refine one_ (i:=5) (N:=some 28) #[true,true,true,true,true,true,false,false] rfl rfl (one_of HT_.out (by kernel_rfl)) (by decide) (fun K hK=>?_)
 refine goes_ Try.func15 (by kernel_rfl) rfl #[.agg #[.slice Ao18 t395.length co18,.int .i64 t398,.int .i64 t399,.int .i64 t400],.slice Ao23 t402.length co23] (by rfl) rfl rfl (by (try simp only [List.map_toArray,List.map_cons,List.map_nil]);first|done|rfl|(simp only [List.length_drop,List.length_take];rfl)) ?_
 with_reducible refine (thresherref14_Folded.calls k _ _ t395 t398 t399 t400 (fun k_=>((((some k_≠(.slice Ao18 t395.length co18 : Value).ownBlock∧(k_≠gb393∧k_≠gb401))∧some k_≠(.slice Ao26 t405.length co26 : Value).ownBlock)∧some k_≠(.slice Ao27 t408.length co27 : Value).ownBlock)∧some k_≠(v413 : Value).ownBlock)) _ _ t402 t415 _ ?side1 ?side2 ?side3 A10.out).mono ?_
 (case side1=>repeat (first|exact (Kd.R_reads' HO397.out).2.2|(with_reducible refine Kd.C_alloc ?_ _)|(with_reducible refine Kd.C_drewN ?_ _)|(with_reducible refine Kd.C_drew ?_)))
 (case side2=>exact (Kd.R_reads' HO397.out).2.1)
 (case side3=>first|exact Kd.N_V (HO404.out)|exact Kd.N_V (Kd.N_mono HO404.out (fun k_ hk_=>by simp_all)))
 rintro e w30 ⟨v416,rfl,ho0,hb⟩
 refine ⟨_,rfl,?_⟩
 have n0_:=Aside0.mk (Kd.R_below (R_up HO397.out) hb)
 have n1_:=Aside0.mk (Kd.N_elder' (N_up HO404.out) (by first|exact Kd.N_base ho0|exact Kd.S_base ho0) hb)
 have n2_:=Aside0.mk (Kd.N_elder' (N_up HO407.out) (by first|exact Kd.N_base ho0|exact Kd.S_base ho0) hb)
 have n3_:=Aside0.mk (Kd.N_elder' (N_up HO410.out) (by first|exact Kd.N_base ho0|exact Kd.S_base ho0) hb)
 have n4_:=Aside0.mk (Kd.N_elder' (N_up HO414.out) (by first|exact Kd.N_base ho0|exact Kd.S_base ho0) hb)
 have n5_:=Aside0.mk (Kd.N_lower (Kd.N_mono (ok':=fun k_=>some k_≠(.slice Ao18 t395.length co18 : Value).ownBlock∧some k_≠(.slice Ao26 t405.length co26 : Value).ownBlock∧some k_≠(.slice Ao27 t408.length co27 : Value).ownBlock∧some k_≠(v413 : Value).ownBlock∧k_≠gb393∧k_≠gb401) ho0 (fun k_ hk_=>⟨Or.elim hk_ (fun hs_=>hs_.1.1.1.1) (fun hn_=>(Kd.fresh' (Kd.R_lt (R_up HO397.out)) k_ hn_)),Or.elim hk_ (fun hs_=>hs_.1.1.2) (fun hn_=>(Kd.fresh' (Kd.N_lt (N_up HO407.out)) k_ hn_)),Or.elim hk_ (fun hs_=>hs_.1.2) (fun hn_=>(Kd.fresh' (Kd.N_lt (N_up HO410.out)) k_ hn_)),Or.elim hk_ (fun hs_=>hs_.2) (fun hn_=>(Kd.fresh' (Kd.N_lt (N_up HO414.out)) k_ hn_)),Or.elim hk_ (fun hs_=>hs_.1.1.1.2.1) (fun hn_=>(Kd.freshB (blk_up BK393.out) k_ hn_)),Or.elim hk_ (fun hs_=>hs_.1.1.1.2.2) (fun hn_=>(Kd.freshB (blk_up BK401.out) k_ hn_))⟩)) (below_size (below_go HB.out)))
 have n6_:=Aside0.mk (blk_below (blk_up BK393.out) hb)
 have n7_:=Aside0.mk (blk_below (blk_up BK401.out) hb)
 have n8_:=Aside0.mk (below_step (below_go HB.out) hb)
 clear HO397
 clear HO404
 clear HO407
 clear HO410
 clear HO414
 clear BK393
 clear BK401
 clear HB
 have HO397:=n0_
 have HO404:=n1_
 have HO407:=n2_
 have HO410:=n3_
 have HO414:=n4_
 have HO417:=n5_
 have BK393:=n6_
 have BK401:=n7_
 have HB:=n8_
 clear n0_ n1_ n2_ n3_ n4_ n5_ n6_ n7_ n8_
 (try clear hb)
 (try clear hb2)
 (try clear hk)
 (try clear hi)
 (try clear ho0)
 obtain ⟨Ao31,co31,eo31⟩:=Kd.N_slice HO414.out
 (first|subst eo31|(injection eo31 with f1_ f2_ f3_;have f4_:=f1_.symm;have f5_:=f3_.symm;clear f1_ f2_ f3_;subst f4_;subst f5_))
 obtain ⟨Ao32,co32,eo32⟩:=Kd.N_slice HO417.out
 (first|subst eo32|(injection eo32 with f1_ f2_ f3_;have f4_:=f1_.symm;have f5_:=f3_.symm;clear f1_ f2_ f3_;subst f4_;subst f5_))
 refine hK.out _ _ ⟨(blk_cell BK401.out 0).trans rfl,(blk_cell BK401.out 1).trans rfl,(blk_cell BK401.out 2).trans rfl,(blk_cell BK401.out 3).trans rfl⟩ (fun hHeld=>?_)
 clear hK K
 refine norm_ (a':=?_) ?_ ?_
 rotate_left
 ·show Act.put _ (some 28) _=_
  simp only [Act.put,List.setIfInBounds_toArray,List.set_cons_zero,List.set_cons_succ,i64_w,i32_w]
  rfl
 refine one_ (i:=6) (N:=some 29) #[true,true,true,true,true,true,true,false] rfl rfl (one_of HT_.out (by kernel_rfl)) (by decide) (fun K hK=>?_)
 refine goes_ Try.func12 (by kernel_rfl) rfl #[.slice Ao31 t412.length co31,.slice Ao32 t415.length co32] (by rfl) rfl rfl (by (try simp only [List.map_toArray,List.map_cons,List.map_nil]);first|done|rfl|(simp only [List.length_drop,List.length_take];rfl)) ?_
 with_reducible refine (thresherref04_Rows.calls k _ _ t412 _ _ t415 t418 _ ?side1 ?side2 ?side3 ?side4 A11.out).mono ?_
 (case side1=>repeat (first|exact (Kd.N_reads' HO414.out).2.2|(with_reducible refine Kd.C_alloc ?_ _)|(with_reducible refine Kd.C_drewN ?_ _)|(with_reducible refine Kd.C_drew ?_)))
 (case side2=>exact (Kd.N_reads' HO414.out).2.1)
 (case side3=>repeat (first|exact (Kd.N_reads' HO417.out).2.2|(with_reducible refine Kd.C_alloc ?_ _)|(with_reducible refine Kd.C_drewN ?_ _)|(with_reducible refine Kd.C_drew ?_)))
 (case side4=>exact (Kd.N_reads' HO417.out).2.1)
 rintro e w' ⟨rfl,⟨nd,rfl⟩⟩
 refine ⟨_,rfl,?_⟩
 refine hK.out _ _ ⟨(blk_cell BK401.out 0).trans rfl,(blk_cell BK401.out 1).trans rfl,(blk_cell BK401.out 2).trans rfl,(blk_cell BK401.out 3).trans rfl⟩ (fun hHeld=>?_)
 clear hK K
 refine norm_ (a':=?_) ?_ ?_
 rotate_left
 ·show Act.put _ (some 29) _=_
  simp only [Act.put,List.setIfInBounds_toArray,List.set_cons_zero,List.set_cons_succ,i64_w,i32_w]
  rfl
 refine pure_ (i:=7) (N:=some 9) (v:=?_) (a':=?_) #[true,true,true,true,true,true,true,true] rfl rfl (any_of HT_.out (by kernel_rfl)) (fun _ _ _ h=>h) (Or.inl ⟨by rfl,?_⟩) ?_ ?_
 rotate_left;(intro w';go_simp;with_reducible rfl);rotate_left;(simp only [Act.put,List.setIfInBounds_toArray,List.set_cons_zero,List.set_cons_succ,i64_w,i32_w];rfl)
 refine done_ (done_of HT_.out (by kernel_rfl)) ?_
 (try clear hHeld)
 go_upto_region 6 with (fail)
 go_cut [4] (fun v4 wc=>∃ (kq : Nat) (x4_11 : Bool),v4=.bool x4_11∧Aside0 (thresherlaw14_MergeAll.j0 kq x4_11=some r)∧Aside0 (kq≤k)∧Aside0 (Kd.R (Kd.int .i64) 3 wc w.heap.size (fun _=>True) (.slice Ao18 t395.length co18) t395)∧Aside0 (wc.heap[gb393]?=some (.cells #[.int .u8 a0_0,.int .u8 a0_1,.int .u8 a0_2,.int .u8 a0_3,.int .u8 a0_4,.int .u8 a0_5,.int .u8 a0_6,.int .u8 a0_7,.int .u8 a0_8,.int .u8 a0_9,.int .u8 a0_10,.int .u8 a0_11] 38 (0,0)))∧Aside0 (wc.heap[gb401]?=some (.cells #[(.slice Ao18 t395.length co18),.int .i64 t398,.int .i64 t399,.int .i64 t400] 26 (0,0)))∧Aside0 (Below w.heap.size w wc))
 case first =>
  have H:=HC12.out
  clear HC12
  by_cases c33 : t394=true
  ·subst c33
   have H1 : (if t411=true then (thresherlaw14_MergeAll.j0 k t418) else (thresherlaw14_MergeAll.j0 k false))=some r:=by rw [if_pos rfl] at H;exact H
   clear H
   have H:=H1
   clear H1
   by_cases c34 : t411=true
   ·subst c34
    have H1 : (thresherlaw14_MergeAll.j0 k t418)=some r:=by rw [if_pos rfl] at H;exact H
    clear H
    have H:=H1
    clear H1
    have H':=Aside0.mk H
    clear H
    go_wp2
    go_meet
    case rel=>exact ⟨_,(t418),(by first|rfl|(simp;done)|(simp [*];done)),(by first|exact H'|(subst_vars;exact H')),⟨by first|omega|exact Nat.le_refl _⟩,⟨by (with_reducible repeat (first|apply Kd.R_alloc|apply Kd.R_drewN|apply Kd.R_drew));exact HO397.out⟩,⟨by (with_reducible repeat (first|refine blk_drewN ?_ _|refine blk_drew ?_|refine blk_alloc ?_ _));exact BK393.out⟩,⟨by (with_reducible repeat (first|refine blk_drewN ?_ _|refine blk_drew ?_|refine blk_alloc ?_ _));exact BK401.out⟩,⟨by repeat (first|(with_reducible first|exact HB.out|apply below_alloc|apply pw_below_drewN|apply below_drew1|refine below_set ?_ GE393.out|refine below_set ?_ GE401.out)|exact HB.out)⟩⟩
   ·replace c34:=Bool.eq_false_iff.mpr c34
    subst c34
    have H1 : (thresherlaw14_MergeAll.j0 k false)=some r:=by rw [if_neg (show ¬ (false=true) by decide)] at H;exact H
    clear H
    have H:=H1
    clear H1
    have H':=Aside0.mk H
    clear H
    go_wp2
    go_meet
    case rel=>exact ⟨_,(false),(by first|rfl|(simp;done)|(simp [*];done)),(by first|exact H'|(subst_vars;exact H')),⟨by first|omega|exact Nat.le_refl _⟩,⟨by (with_reducible repeat (first|apply Kd.R_alloc|apply Kd.R_drewN|apply Kd.R_drew));exact HO397.out⟩,⟨by (with_reducible repeat (first|refine blk_drewN ?_ _|refine blk_drew ?_|refine blk_alloc ?_ _));exact BK393.out⟩,⟨by (with_reducible repeat (first|refine blk_drewN ?_ _|refine blk_drew ?_|refine blk_alloc ?_ _));exact BK401.out⟩,⟨by repeat (first|(with_reducible first|exact HB.out|apply below_alloc|apply pw_below_drewN|apply below_drew1|refine below_set ?_ GE393.out|refine below_set ?_ GE401.out)|exact HB.out)⟩⟩
  ·replace c33:=Bool.eq_false_iff.mpr c33
   subst c33
   have H1 : (thresherlaw14_MergeAll.j0 k false)=some r:=by rw [if_neg (show ¬ (false=true) by decide)] at H;exact H
   clear H
   have H:=H1
   clear H1
   have H':=Aside0.mk H
   clear H
   go_wp2
   go_meet
   case rel=>exact ⟨_,(false),(by first|rfl|(simp;done)|(simp [*];done)),(by first|exact H'|(subst_vars;exact H')),⟨by first|omega|exact Nat.le_refl _⟩,⟨by (with_reducible repeat (first|apply Kd.R_alloc|apply Kd.R_drewN|apply Kd.R_drew));exact HO397.out⟩,⟨by (with_reducible repeat (first|refine blk_drewN ?_ _|refine blk_drew ?_|refine blk_alloc ?_ _));exact BK393.out⟩,⟨by (with_reducible repeat (first|refine blk_drewN ?_ _|refine blk_drew ?_|refine blk_alloc ?_ _));exact BK401.out⟩,⟨by repeat (first|(with_reducible first|exact HB.out|apply below_alloc|apply pw_below_drewN|apply below_drew1|refine below_set ?_ GE393.out|refine below_set ?_ GE401.out)|exact HB.out)⟩⟩
 case rest =>
  clear HC12
  try clear c1
  try clear p2
  try clear c3
  try clear c4
  try clear c8
  try clear c9
  try clear c10
  try clear c11
  try clear c12
  try clear c13
  try clear c14
  try clear c15
  try clear c19
  try clear c33
  try clear c34
  try clear hcz15_0
  try clear hcz15_1
  try clear hcz15_10
  try clear hcz15_11
  try clear hcz15_2
  try clear hcz15_3
  try clear hcz15_4
  try clear hcz15_5
  try clear hcz15_6
  try clear hcz15_7
  try clear hcz15_8
  try clear hcz15_9
  try clear hcz20_0
  try clear hcz20_1
  try clear hcz20_2
  try clear hcz20_3
  try clear hfz15_0
  try clear hfz15_1
  try clear hfz15_10
  try clear hfz15_11
  try clear hfz15_2
  try clear hfz15_3
  try clear hfz15_4
  try clear hfz15_5
  try clear hfz15_6
  try clear hfz15_7
  try clear hfz15_8
  try clear hfz15_9
  try clear hfz20_0
  try clear hfz20_1
  try clear hfz20_2
  try clear hfz20_3
  obtain ⟨kq,x4_11,rfl,HA,HJ11,HO_402000,BK393,BK401,HB⟩:=hcut
  cases kq with
  | zero=>exact absurd HA.out (by simp [thresherlaw14_MergeAll.j0])
  | succ kj11 =>
   have H:=HA.out
   clear HA
   simp only [thresherlaw14_MergeAll.j0] at H
   obtain rfl:=Option.some.inj H
   go_wp2
   go_ret
   exact ⟨by first|rfl|(simp [errW_none,errW_some] <;> rfl)|(simp [*,errW_none,errW_some] <;> rfl),by repeat (first|(with_reducible first|exact HB.out|apply below_alloc|apply pw_below_drewN|apply below_drew1|refine below_set ?_ GE393.out|refine below_set ?_ GE401.out)|exact HB.out)⟩
end Go.Proofs.Ytfiandejapgkoaa.P

