/- Texts of MergeCounts. Merged: Px20. -/
import Derived.Test.YtfiandejapgkoaaQMergeCountsPx0
import Derived.Test.YtfiandejapgkoaaQMergeCountsPx3
import Derived.Test.YtfiandejapgkoaaQMergeCountsPx5
import Derived.Test.YtfiandejapgkoaaQMergeCountsPx10
import Derived.Test.YtfiandejapgkoaaQMergeCountsPx14
import Derived.Test.YtfiandejapgkoaaQMergeCountsPx19
import Derived.Test.YtfiandejapgkoaaMMergeCounts1
namespace Go.Proofs.Ytfiandejapgkoaa.P
open Go.RowKit Go.Proofs.YtfiandejapgkoaaW.PrintWords Go.Proofs.YtfiandejapgkoaaW.PrintLast Go.Proofs.YtfiandejapgkoaaW.PrintMore
attribute [local go_sem] max2_int min2_int max_two min_two max_three min_three max_four min_four   -- for this text's walks alone
set_option linter.unusedVariables false
set_option linter.unusedSimpArgs false
mutual
def thresherlaw14_MergeCounts.l0 : Nat→Bool→List (List (List (S31)))→Int→List (List (List (S31)))→Int→List Int→Int→Int→Int→Option (Bool)
 | 0,_,_,_,_,_,_,_,_,_=>none
 | k + 1,x5,x7,x8,x9,x10,x519000,x519001,x519002,x519003=>if x10 < (x7.length : Int) then (if 0≤x10 then ((some (([] : List (List (S31))) : List (List (S31)))).bind fun y526=>(if y526.length + (rd_L4 x7 x10).length < 5864062014805 then (if x9.length < 5864062014805 then (thresherlaw14_MergeCounts.l0 k x5 x7 (wrap64 (x8 + ((rd_L4 x7 x10).length : Int))) (x9 ++ [(y526 ++ (rd_L4 x7 x10))]) (wrap64 (x10 + 1)) x519000 x519001 x519002 x519003) else (none)) else (none))) else (none)) else ((merge_Rows.f k x519000 x519001 x519002 x519003 x7).bind fun t536=>(thresherlaw14_MergeCounts.l1 k x5 x7 x8 x9 t536 0 x519000 x519001 x519002 x519003))
def thresherlaw14_MergeCounts.l1 : Nat→Bool→List (List (List (S31)))→Int→List (List (List (S31)))→List (List (S31))→Int→List Int→Int→Int→Int→Option (Bool)
 | 0,_,_,_,_,_,_,_,_,_,_=>none
 | k + 1,x5,x7,x8,x9,x11,x12,x519000,x519001,x519002,x519003=>if x12 < (x7.length : Int) then (if 0≤x12 then (if x12 < (x9.length : Int) then ((thresherref04_Rows.f k (rd_L4 x7 x12) (rd_L4 x9 x12)).bind fun t541=>(if x12≤(wrap64 (x12 + 1)) then (if (wrap64 (x12 + 1))≤(x7.length : Int) then ((merge_Rows.f k x519000 x519001 x519002 x519003 ((x7.take ((wrap64 (x12 + 1)) : Int).toNat).drop (x12 : Int).toNat)).bind fun t547=>((thresherref04_Rows.f k t547 (rd_L4 x7 x12)).bind fun t551=>(if t541=true then (if t551=true then (thresherlaw14_MergeCounts.l1 k x5 x7 x8 x9 x11 (wrap64 (x12 + 1)) x519000 x519001 x519002 x519003) else (some false)) else (some false)))) else (none)) else (none))) else (none)) else (none)) else ((thresherref09_Sorted.f k x519000 x519001 x519002 x519003 x11).bind fun t552=>(if x5=true then (if (x11.length : Int)=x8 then (if t552=true then ((merge_Rows.f k x519000 x519001 x519002 x519003 ([] : List (List (List (S31))))).bind fun t553=>(if (t553.length : Int)=0 then ((merge_Folded.f k x519000 x519001 x519002 x519003 (([(([] : List (List (S31)))),(([] : List (List (S31))))] : List (List (List (S31)))))).bind fun t565=>(thresherlaw14_MergeCounts.j2 k ((t565.length : Int) == 0))) else (thresherlaw14_MergeCounts.j2 k false))) else (thresherlaw14_MergeCounts.j2 k false)) else (thresherlaw14_MergeCounts.j2 k false)) else (thresherlaw14_MergeCounts.j2 k false)))
def thresherlaw14_MergeCounts.j2 : Nat→Bool→Option (Bool)
 | 0,_=>none
 | k + 1,x4=>some x4
end
def thresherlaw14_MergeCounts.f (k : Nat) (a0_0 : Int) (a0_1 : Int) (a0_2 : Int) (a0_3 : Int) (a0_4 : Int) (a0_5 : Int) (a0_6 : Int) (a0_7 : Int) (a0_8 : Int) (a0_9 : Int) (a0_10 : Int) (a0_11 : Int) (l1 : List (List (List (S31)))) : Option (Bool):=(thresherlaw14_shown.f k).bind fun t511=>((thresherlaw14_made.f k a0_0 a0_1 a0_2 a0_3 a0_4 a0_5 a0_6 a0_7 a0_8 a0_9 a0_10 a0_11).bind fun bt512=>((thresherlaw14_parts.f k bt512.1 bt512.2.1 bt512.2.2.1 bt512.2.2.2 l1).bind fun t519=>(thresherlaw14_MergeCounts.l0 k t511 t519 0 (([] : List (List (List (S31))))) 0 bt512.1 bt512.2.1 bt512.2.2.1 bt512.2.2.2)))
theorem thresherlaw14_MergeCounts.mono_l : ∀ k,(∀ y0 y1 y2 y3 y4 y5 y6 y7 y8,LeO (thresherlaw14_MergeCounts.l0 k y0 y1 y2 y3 y4 y5 y6 y7 y8) (thresherlaw14_MergeCounts.l0 (k + 1) y0 y1 y2 y3 y4 y5 y6 y7 y8))∧(∀ y0 y1 y2 y3 y4 y5 y6 y7 y8 y9,LeO (thresherlaw14_MergeCounts.l1 k y0 y1 y2 y3 y4 y5 y6 y7 y8 y9) (thresherlaw14_MergeCounts.l1 (k + 1) y0 y1 y2 y3 y4 y5 y6 y7 y8 y9))∧(∀ y0,LeO (thresherlaw14_MergeCounts.j2 k y0) (thresherlaw14_MergeCounts.j2 (k + 1) y0))
 | 0=>⟨fun _ _ _ _ _ _ _ _ _ r h=>by simp [thresherlaw14_MergeCounts.l0] at h,fun _ _ _ _ _ _ _ _ _ _ r h=>by simp [thresherlaw14_MergeCounts.l1] at h,fun _ r h=>by simp [thresherlaw14_MergeCounts.j2] at h⟩
 | k + 1=>by
  obtain ⟨ih0,ih1,ih2⟩:=thresherlaw14_MergeCounts.mono_l k
  refine ⟨?_,?_,?_⟩
  ·intro y0 y1 y2 y3 y4 y5 y6 y7 y8
   unfold thresherlaw14_MergeCounts.l0
   repeat' first
   | (with_reducible exact ih0 _ _ _ _ _ _ _ _ _)
   | (with_reducible exact ih1 _ _ _ _ _ _ _ _ _ _)
   | (with_reducible exact ih2 _)
   | (with_reducible exact merge_Folded.mono _ _ _ _ _ _)
   | (with_reducible exact merge_Rows.mono _ _ _ _ _ _)
   | (with_reducible exact thresherlaw14_made.mono _ _ _ _ _ _ _ _ _ _ _ _ _)
   | (with_reducible exact thresherlaw14_parts.mono _ _ _ _ _ _)
   | (with_reducible exact thresherlaw14_shown.mono _)
   | (with_reducible exact thresherref04_Rows.mono _ _ _)
   | (with_reducible exact thresherref09_Sorted.mono _ _ _ _ _ _)
   | (with_reducible exact LeO.refl _)
   | (with_reducible exact LeO.none _)
   | (with_reducible refine LeO.ite ?_ ?_)
   | (with_reducible refine LeO.bind ?_ (fun _=>?_))
   | exact ih0 _ _ _ _ _ _ _ _ _
   | exact ih1 _ _ _ _ _ _ _ _ _ _
   | exact ih2 _
   | exact merge_Folded.mono _ _ _ _ _ _
   | exact merge_Rows.mono _ _ _ _ _ _
   | exact thresherlaw14_made.mono _ _ _ _ _ _ _ _ _ _ _ _ _
   | exact thresherlaw14_parts.mono _ _ _ _ _ _
   | exact thresherlaw14_shown.mono _
   | exact thresherref04_Rows.mono _ _ _
   | exact thresherref09_Sorted.mono _ _ _ _ _ _
   | exact LeO.none _
   | refine LeO.ite ?_ ?_
   | refine LeO.bind ?_ (fun _=>?_)
  ·intro y0 y1 y2 y3 y4 y5 y6 y7 y8 y9
   unfold thresherlaw14_MergeCounts.l1
   repeat' first
   | (with_reducible exact ih0 _ _ _ _ _ _ _ _ _)
   | (with_reducible exact ih1 _ _ _ _ _ _ _ _ _ _)
   | (with_reducible exact ih2 _)
   | (with_reducible exact merge_Folded.mono _ _ _ _ _ _)
   | (with_reducible exact merge_Rows.mono _ _ _ _ _ _)
   | (with_reducible exact thresherlaw14_made.mono _ _ _ _ _ _ _ _ _ _ _ _ _)
   | (with_reducible exact thresherlaw14_parts.mono _ _ _ _ _ _)
   | (with_reducible exact thresherlaw14_shown.mono _)
   | (with_reducible exact thresherref04_Rows.mono _ _ _)
   | (with_reducible exact thresherref09_Sorted.mono _ _ _ _ _ _)
   | (with_reducible exact LeO.refl _)
   | (with_reducible exact LeO.none _)
   | (with_reducible refine LeO.ite ?_ ?_)
   | (with_reducible refine LeO.bind ?_ (fun _=>?_))
   | exact ih0 _ _ _ _ _ _ _ _ _
   | exact ih1 _ _ _ _ _ _ _ _ _ _
   | exact ih2 _
   | exact merge_Folded.mono _ _ _ _ _ _
   | exact merge_Rows.mono _ _ _ _ _ _
   | exact thresherlaw14_made.mono _ _ _ _ _ _ _ _ _ _ _ _ _
   | exact thresherlaw14_parts.mono _ _ _ _ _ _
   | exact thresherlaw14_shown.mono _
   | exact thresherref04_Rows.mono _ _ _
   | exact thresherref09_Sorted.mono _ _ _ _ _ _
   | exact LeO.none _
   | refine LeO.ite ?_ ?_
   | refine LeO.bind ?_ (fun _=>?_)
  ·intro y0
   unfold thresherlaw14_MergeCounts.j2
   repeat' first
   | (with_reducible exact ih0 _ _ _ _ _ _ _ _ _)
   | (with_reducible exact ih1 _ _ _ _ _ _ _ _ _ _)
   | (with_reducible exact ih2 _)
   | (with_reducible exact merge_Folded.mono _ _ _ _ _ _)
   | (with_reducible exact merge_Rows.mono _ _ _ _ _ _)
   | (with_reducible exact thresherlaw14_made.mono _ _ _ _ _ _ _ _ _ _ _ _ _)
   | (with_reducible exact thresherlaw14_parts.mono _ _ _ _ _ _)
   | (with_reducible exact thresherlaw14_shown.mono _)
   | (with_reducible exact thresherref04_Rows.mono _ _ _)
   | (with_reducible exact thresherref09_Sorted.mono _ _ _ _ _ _)
   | (with_reducible exact LeO.refl _)
   | (with_reducible exact LeO.none _)
   | (with_reducible refine LeO.ite ?_ ?_)
   | (with_reducible refine LeO.bind ?_ (fun _=>?_))
   | exact ih0 _ _ _ _ _ _ _ _ _
   | exact ih1 _ _ _ _ _ _ _ _ _ _
   | exact ih2 _
   | exact merge_Folded.mono _ _ _ _ _ _
   | exact merge_Rows.mono _ _ _ _ _ _
   | exact thresherlaw14_made.mono _ _ _ _ _ _ _ _ _ _ _ _ _
   | exact thresherlaw14_parts.mono _ _ _ _ _ _
   | exact thresherlaw14_shown.mono _
   | exact thresherref04_Rows.mono _ _ _
   | exact thresherref09_Sorted.mono _ _ _ _ _ _
   | exact LeO.none _
   | refine LeO.ite ?_ ?_
   | refine LeO.bind ?_ (fun _=>?_)
theorem thresherlaw14_MergeCounts.mono : ∀ a0 a1 a2 a3 a4 a5 a6 a7 a8 a9 a10 a11 a12 k,LeO (thresherlaw14_MergeCounts.f k a0 a1 a2 a3 a4 a5 a6 a7 a8 a9 a10 a11 a12) (thresherlaw14_MergeCounts.f (k + 1) a0 a1 a2 a3 a4 a5 a6 a7 a8 a9 a10 a11 a12):=by
 intro a0 a1 a2 a3 a4 a5 a6 a7 a8 a9 a10 a11 a12 k
 obtain ⟨ih0,ih1,ih2⟩:=thresherlaw14_MergeCounts.mono_l k
 unfold thresherlaw14_MergeCounts.f
 repeat' first
   | (with_reducible exact ih0 _ _ _ _ _ _ _ _ _)
   | (with_reducible exact ih1 _ _ _ _ _ _ _ _ _ _)
   | (with_reducible exact ih2 _)
   | (with_reducible exact merge_Folded.mono _ _ _ _ _ _)
   | (with_reducible exact merge_Rows.mono _ _ _ _ _ _)
   | (with_reducible exact thresherlaw14_made.mono _ _ _ _ _ _ _ _ _ _ _ _ _)
   | (with_reducible exact thresherlaw14_parts.mono _ _ _ _ _ _)
   | (with_reducible exact thresherlaw14_shown.mono _)
   | (with_reducible exact thresherref04_Rows.mono _ _ _)
   | (with_reducible exact thresherref09_Sorted.mono _ _ _ _ _ _)
   | (with_reducible exact LeO.refl _)
   | (with_reducible exact LeO.none _)
   | (with_reducible refine LeO.ite ?_ ?_)
   | (with_reducible refine LeO.bind ?_ (fun _=>?_))
   | exact ih0 _ _ _ _ _ _ _ _ _
   | exact ih1 _ _ _ _ _ _ _ _ _ _
   | exact ih2 _
   | exact merge_Folded.mono _ _ _ _ _ _
   | exact merge_Rows.mono _ _ _ _ _ _
   | exact thresherlaw14_made.mono _ _ _ _ _ _ _ _ _ _ _ _ _
   | exact thresherlaw14_parts.mono _ _ _ _ _ _
   | exact thresherlaw14_shown.mono _
   | exact thresherref04_Rows.mono _ _ _
   | exact thresherref09_Sorted.mono _ _ _ _ _ _
   | exact LeO.none _
   | refine LeO.ite ?_ ?_
   | refine LeO.bind ?_ (fun _=>?_)
def thresherlaw14_MergeCounts.T15 : Bool × List (List Nat × List Nat):=(true,[([],[]),([],[]),([0,1],[0,1]),([2],[2]),([],[]),([],[]),([4,5],[4,5]),([6],[6]),([3,7],[3,7]),([8,8,0,1,2,3,4,5,6,7,8],[8])])
def thresherlaw14_MergeCounts.B15 : List Nat:=[0,0,3,7,0,0,48,112,255,511]
theorem thresherlaw14_MergeCounts.tab15 : rtab .any (opsOf Try.f6 15)=thresherlaw14_MergeCounts.T15:=by kernel_rfl
theorem thresherlaw14_MergeCounts.bits15 : waitsOk thresherlaw14_MergeCounts.T15.2 thresherlaw14_MergeCounts.B15=true:=by kernel_rfl
def thresherlaw14_MergeCounts.T16 : Bool × List (List Nat × List Nat):=(true,[([],[]),([],[]),([],[]),([],[]),([3],[3]),([1,2,4],[1,2,4]),([0,5],[0,5]),([],[]),([],[]),([7,8],[7,8]),([9],[9]),([6,10,6],[6,10]),([11,11,0,1,2,3,4,5,6,7,8,9,10,11],[11])])
def thresherlaw14_MergeCounts.B16 : List Nat:=[0,0,0,0,8,30,63,0,0,384,896,2047,4095]
theorem thresherlaw14_MergeCounts.tab16 : rtab .any (opsOf Try.f6 16)=thresherlaw14_MergeCounts.T16:=by kernel_rfl
theorem thresherlaw14_MergeCounts.bits16 : waitsOk thresherlaw14_MergeCounts.T16.2 thresherlaw14_MergeCounts.B16=true:=by kernel_rfl
set_option maxHeartbeats 8000000 in
set_option maxRecDepth 100000 in
theorem thresherlaw14_MergeCounts.calls (k : Nat) (a0_0 : Int) (a0_1 : Int) (a0_2 : Int) (a0_3 : Int) (a0_4 : Int) (a0_5 : Int) (a0_6 : Int) (a0_7 : Int) (a0_8 : Int) (a0_9 : Int) (a0_10 : Int) (a0_11 : Int) (A1 : Option Addr) (c1 : Nat) (l1 : List (List (List (S31)))) (r : Bool) (w : World) (hr1 : Kd.C (Kd.slice 33 (Kd.slice 31 k31)) w A1 l1.length l1) (hc1 : l1.length≤c1) (h : thresherlaw14_MergeCounts.f k a0_0 a0_1 a0_2 a0_3 a0_4 a0_5 a0_6 a0_7 a0_8 a0_9 a0_10 a0_11 l1=some r) :
  Calls Try.prog 6 #[.agg #[.int .u8 a0_0,.int .u8 a0_1,.int .u8 a0_2,.int .u8 a0_3,.int .u8 a0_4,.int .u8 a0_5,.int .u8 a0_6,.int .u8 a0_7,.int .u8 a0_8,.int .u8 a0_9,.int .u8 a0_10,.int .u8 a0_11],.slice A1 l1.length c1] w fun e w'=>e=.returned (.bool r)∧Below w.heap.size w w':=by
 have hu38:=Try.underlying38
 have hu26:=Try.underlying26
 have HR1:=Aside0.mk hr1
 have HC1:=Aside0.mk hc1
 clear hr1 hc1
 have HB:=Aside0.mk (Below.refl w.heap.size w)
 have H : ((thresherlaw14_shown.f k).bind fun t511=>((thresherlaw14_made.f k a0_0 a0_1 a0_2 a0_3 a0_4 a0_5 a0_6 a0_7 a0_8 a0_9 a0_10 a0_11).bind fun bt512=>((thresherlaw14_parts.f k bt512.1 bt512.2.1 bt512.2.2.1 bt512.2.2.2 l1).bind fun t519=>(thresherlaw14_MergeCounts.l0 k t511 t519 0 (([] : List (List (List (S31))))) 0 bt512.1 bt512.2.1 bt512.2.2.1 bt512.2.2.2))))=some r:=h
 clear h
 replace H:=Option.bind_eq_some_iff.mp H
 obtain ⟨t511,A30,H⟩:=H
 replace H : ((thresherlaw14_made.f k a0_0 a0_1 a0_2 a0_3 a0_4 a0_5 a0_6 a0_7 a0_8 a0_9 a0_10 a0_11).bind fun bt512=>((thresherlaw14_parts.f k bt512.1 bt512.2.1 bt512.2.2.1 bt512.2.2.2 l1).bind fun t519=>(thresherlaw14_MergeCounts.l0 k t511 t519 0 (([] : List (List (List (S31))))) 0 bt512.1 bt512.2.1 bt512.2.2.1 bt512.2.2.2)))=some r:=H
 have A3:=Aside0.mk A30
 clear A30
 replace H:=Option.bind_eq_some_iff.mp H
 obtain ⟨⟨t512,t515,t516,t517⟩,A40,H⟩:=H
 replace H : ((thresherlaw14_parts.f k t512 t515 t516 t517 l1).bind fun t519=>(thresherlaw14_MergeCounts.l0 k t511 t519 0 (([] : List (List (List (S31))))) 0 t512 t515 t516 t517))=some r:=H
 have A4:=Aside0.mk A40
 clear A40
 replace H:=Option.bind_eq_some_iff.mp H
 obtain ⟨t519,A50,H⟩:=H
 replace H : (thresherlaw14_MergeCounts.l0 k t511 t519 0 (([] : List (List (List (S31))))) 0 t512 t515 t516 t517)=some r:=H
 have A5:=Aside0.mk A50
 clear A50
 obtain ⟨y522,hy522⟩ : ∃ y_ : List (List (List (S31))),y_=(([] : List (List (List (S31))))):=⟨_,rfl⟩
 replace H : (thresherlaw14_MergeCounts.l0 k t511 t519 0 y522 0 t512 t515 t516 t517)=some r:=by first|(rw [hy522];with_reducible exact H)|(have H2_:=(Option.bind_some _ _).symm.trans H;rw [hy522];with_reducible exact H2_)|(have H2_:=(Option.bind_some _ _).symm.trans H;with_reducible exact H2_)|with_reducible exact H|(rw [hy522];exact H)|exact H
 have Ny522:=Aside0.mk hy522
 clear hy522
 have H':=Aside0.mk H
 clear H
 go_enter Try.func6,Try.ntmps6
 go_wp2_with (first|((with_reducible refine gate_dst (N:=2) rfl ?_);(try (refine gate_guard (by rfl) ?_;dsimp only));refine box_event ?hg (N:=2) ?hd (cs:=#[.int .u8 a0_0,.int .u8 a0_1,.int .u8 a0_2,.int .u8 a0_3,.int .u8 a0_4,.int .u8 a0_5,.int .u8 a0_6,.int .u8 a0_7,.int .u8 a0_8,.int .u8 a0_9,.int .u8 a0_10,.int .u8 a0_11]) (t:=38) ?hr ?_;(case hd=>rfl);(case hg=>rfl);(case hr=>first|(go_simp;done)|(go_simp;rfl));intro gb510 hg w6 hbox hb;have n0_:=Aside0.mk (below_step (below_up HB.out) hb);have n1_:=Aside0.mk (hbox);have n2_:=Aside0.mk ((by rw [hg];exact (below_size (below_up HB.out)) : w.heap.size≤gb510));have n3_:=Aside0.mk ((by rw [hg];exact (below_size (below_up HB.out)) : w.heap.size≤gb510));clear HB;have HB:=n0_;have BK510:=n1_;have GW510:=n2_;have GE510:=n3_;clear n0_ n1_ n2_ n3_;clear hb hbox hg)|((with_reducible refine gate_callee (f:=8) rfl ?_);refine goesL_ (some 16) rfl rfl Try.func8 (by kernel_rfl) rfl #[] rfl (by (try simp only [List.map_toArray,List.map_cons,List.map_nil]);first|done|rfl|(simp only [List.length_drop,List.length_take];rfl)) ?_;(with_reducible refine (thresherlaw14_shown.calls k  t511 _ A3.out).mono ?_);rintro e w7 ⟨rfl,hb⟩;refine ⟨_,rfl,?_⟩;have n0_:=Aside0.mk (blk_below (blk_up BK510.out) hb);have n1_:=Aside0.mk (below_step (below_go HB.out) hb);clear BK510;clear HB;have BK510:=n0_;have HB:=n1_;clear n0_ n1_;(try clear hb);(try clear hb2);(try clear hk);(try clear hi);have hcz8_0 : w7.cell? ⟨gb510,0,none⟩=some (.int .u8 a0_0):=(blk_cell BK510.out 0).trans rfl;have hcz8_1 : w7.cell? ⟨gb510,1,none⟩=some (.int .u8 a0_1):=(blk_cell BK510.out 1).trans rfl;have hcz8_2 : w7.cell? ⟨gb510,2,none⟩=some (.int .u8 a0_2):=(blk_cell BK510.out 2).trans rfl;have hcz8_3 : w7.cell? ⟨gb510,3,none⟩=some (.int .u8 a0_3):=(blk_cell BK510.out 3).trans rfl;have hcz8_4 : w7.cell? ⟨gb510,4,none⟩=some (.int .u8 a0_4):=(blk_cell BK510.out 4).trans rfl;have hcz8_5 : w7.cell? ⟨gb510,5,none⟩=some (.int .u8 a0_5):=(blk_cell BK510.out 5).trans rfl;have hcz8_6 : w7.cell? ⟨gb510,6,none⟩=some (.int .u8 a0_6):=(blk_cell BK510.out 6).trans rfl;have hcz8_7 : w7.cell? ⟨gb510,7,none⟩=some (.int .u8 a0_7):=(blk_cell BK510.out 7).trans rfl;have hcz8_8 : w7.cell? ⟨gb510,8,none⟩=some (.int .u8 a0_8):=(blk_cell BK510.out 8).trans rfl;have hcz8_9 : w7.cell? ⟨gb510,9,none⟩=some (.int .u8 a0_9):=(blk_cell BK510.out 9).trans rfl;have hcz8_10 : w7.cell? ⟨gb510,10,none⟩=some (.int .u8 a0_10):=(blk_cell BK510.out 10).trans rfl;have hcz8_11 : w7.cell? ⟨gb510,11,none⟩=some (.int .u8 a0_11):=(blk_cell BK510.out 11).trans rfl;have hfz8_0:=blk_frozen BK510.out 0;have hfz8_1:=blk_frozen BK510.out 1;have hfz8_2:=blk_frozen BK510.out 2;have hfz8_3:=blk_frozen BK510.out 3;have hfz8_4:=blk_frozen BK510.out 4;have hfz8_5:=blk_frozen BK510.out 5;have hfz8_6:=blk_frozen BK510.out 6;have hfz8_7:=blk_frozen BK510.out 7;have hfz8_8:=blk_frozen BK510.out 8;have hfz8_9:=blk_frozen BK510.out 9;have hfz8_10:=blk_frozen BK510.out 10;have hfz8_11:=blk_frozen BK510.out 11)|((with_reducible refine gate_callee (f:=10) rfl ?_);refine goesL_ (some 18) rfl rfl Try.func10 (by kernel_rfl) rfl #[.agg #[.int .u8 a0_0,.int .u8 a0_1,.int .u8 a0_2,.int .u8 a0_3,.int .u8 a0_4,.int .u8 a0_5,.int .u8 a0_6,.int .u8 a0_7,.int .u8 a0_8,.int .u8 a0_9,.int .u8 a0_10,.int .u8 a0_11]] rfl (by (try simp only [List.map_toArray,List.map_cons,List.map_nil]);first|done|rfl|(simp only [List.length_drop,List.length_take];rfl)) ?_;(with_reducible refine (thresherlaw14_made.calls k a0_0 a0_1 a0_2 a0_3 a0_4 a0_5 a0_6 a0_7 a0_8 a0_9 a0_10 a0_11 t512 t515 t516 t517 _ A4.out).mono ?_);rintro e w9 ⟨v513,rfl,ho0,hb⟩;refine ⟨_,rfl,?_⟩;have n0_:=Aside0.mk (Kd.R_lower ho0 (below_size (below_go HB.out)));have n1_:=Aside0.mk (blk_below (blk_up BK510.out) hb);have n2_:=Aside0.mk (below_step (below_go HB.out) hb);clear BK510;clear HB;have HO514:=n0_;have BK510:=n1_;have HB:=n2_;clear n0_ n1_ n2_;(try clear hb);(try clear hb2);(try clear hk);(try clear hi);(try clear ho0))|((with_reducible refine gate_dst (N:=6) rfl ?_);(try (refine gate_guard (by rfl) ?_;dsimp only));refine box_event ?hg (N:=6) ?hd (cs:=#[.slice none 0 0,.int .i64 0,.int .i64 0,.int .i64 0]) (t:=26) ?hr ?_;(case hd=>rfl);(case hg=>rfl);(case hr=>first|(go_simp;done)|(go_simp;rfl));intro gb518 hg w10 hbox hb;have n0_:=Aside0.mk (Kd.R_below (R_up HO514.out) hb);have n1_:=Aside0.mk (blk_below (blk_up BK510.out) hb);have n2_:=Aside0.mk (below_step (below_go HB.out) hb);have n3_:=Aside0.mk (hbox);have n4_:=Aside0.mk ((by rw [hg];exact (below_size (below_go HB.out)) : w.heap.size≤gb518));have n5_:=Aside0.mk ((by rw [hg];exact (below_size (below_go HB.out)) : w.heap.size≤gb518));have n6_:=Aside0.mk ((by rw [hg];exact Nat.ne_of_lt (blk_lt (blk_up BK510.out)) : gb510≠gb518));have n7_:=Aside0.mk ((by rw [hg];exact Nat.ne_of_gt (blk_lt (blk_up BK510.out)) : gb518≠gb510));clear HO514;clear BK510;clear HB;have HO514:=n0_;have BK510:=n1_;have HB:=n2_;have BK518:=n3_;have GW518:=n4_;have GE518:=n5_;have NB510_518:=n6_;have NB518_510:=n7_;clear n0_ n1_ n2_ n3_ n4_ n5_ n6_ n7_;clear hb hbox hg;obtain ⟨Ao11,co11,eo11⟩:=Kd.R_slice HO514.out;subst eo11;have hnb12:=NB518_510.out;have hnc12:=NB510_518.out;have hcz13_0 : w10.cell? ⟨gb518,0,none⟩=some (.slice none 0 0):=(blk_cell BK518.out 0).trans rfl;have hcz13_1 : w10.cell? ⟨gb518,1,none⟩=some (.int .i64 0):=(blk_cell BK518.out 1).trans rfl;have hcz13_2 : w10.cell? ⟨gb518,2,none⟩=some (.int .i64 0):=(blk_cell BK518.out 2).trans rfl;have hcz13_3 : w10.cell? ⟨gb518,3,none⟩=some (.int .i64 0):=(blk_cell BK518.out 3).trans rfl;have hfz13_0:=blk_frozen BK518.out 0;have hfz13_1:=blk_frozen BK518.out 1;have hfz13_2:=blk_frozen BK518.out 2;have hfz13_3:=blk_frozen BK518.out 3)|((with_reducible refine gate_callee (f:=11) rfl ?_);refine goesL_ (some 21) rfl rfl Try.func11 (by kernel_rfl) rfl #[.agg #[.slice Ao11 t512.length co11,.int .i64 t515,.int .i64 t516,.int .i64 t517],.slice A1 l1.length c1] rfl (by (try simp only [List.map_toArray,List.map_cons,List.map_nil]);first|done|rfl|(simp only [List.length_drop,List.length_take];rfl)) ?_;(with_reducible refine (thresherlaw14_parts.calls k _ _ t512 t515 t516 t517 _ _ l1 t519 _ ?side1 ?side2 ?side3 ?side4 A5.out).mono ?_);(case side1=>refine (Kd.R_reads' (e:=3) (base:=w.heap.size) (ok:=fun k_=>True) (n:=t512.length) (c:=co11) ?_).2.2;exact (by (with_reducible repeat (first|apply Kd.R_alloc|apply Kd.R_drewN|apply Kd.R_drew));exact (Kd.R_mono (Kd.R_far (p:=⟨gb518,3,none⟩) (Kd.R_far (p:=⟨gb518,2,none⟩) (Kd.R_far (p:=⟨gb518,1,none⟩) (Kd.R_far (p:=⟨gb518,0,none⟩) (Kd.R_types HO514.out BK518.out (by decide)) (fun _ hk=>hk.2) (.slice Ao11 t512.length co11)) (fun _ hk=>hk.2) (.int .i64 t515)) (fun _ hk=>hk.2) (.int .i64 t516)) (fun _ hk=>hk.2) (.int .i64 t517)) (fun _ h_=>h_.1))));(case side2=>exact (Kd.R_reads' HO514.out).2.1);(case side3=>exact Kd.C_below HR1.out (below_go HB.out));(case side4=>exact HC1.out);rintro e w14 ⟨v520,rfl,ho0,hb⟩;refine ⟨_,rfl,?_⟩;have n0_:=Aside0.mk (Kd.R_below (by (with_reducible repeat (first|apply Kd.R_alloc|apply Kd.R_drewN|apply Kd.R_drew));exact (Kd.R_mono (Kd.R_far (p:=⟨gb518,3,none⟩) (Kd.R_far (p:=⟨gb518,2,none⟩) (Kd.R_far (p:=⟨gb518,1,none⟩) (Kd.R_far (p:=⟨gb518,0,none⟩) (Kd.R_types HO514.out BK518.out (by decide)) (fun _ hk=>hk.2) (.slice Ao11 t512.length co11)) (fun _ hk=>hk.2) (.int .i64 t515)) (fun _ hk=>hk.2) (.int .i64 t516)) (fun _ hk=>hk.2) (.int .i64 t517)) (fun _ h_=>h_.1))) hb);have n1_:=Aside0.mk (Kd.N_lower (Kd.N_mono (ok':=fun k_=>some k_≠(.slice Ao11 t512.length co11 : Value).ownBlock∧k_≠gb510∧k_≠gb518) ho0 (fun k_ hk_=>⟨(Kd.fresh' (Kd.R_lt (by (with_reducible repeat (first|apply Kd.R_alloc|apply Kd.R_drewN|apply Kd.R_drew));exact (Kd.R_mono (Kd.R_far (p:=⟨gb518,3,none⟩) (Kd.R_far (p:=⟨gb518,2,none⟩) (Kd.R_far (p:=⟨gb518,1,none⟩) (Kd.R_far (p:=⟨gb518,0,none⟩) (Kd.R_types HO514.out BK518.out (by decide)) (fun _ hk=>hk.2) (.slice Ao11 t512.length co11)) (fun _ hk=>hk.2) (.int .i64 t515)) (fun _ hk=>hk.2) (.int .i64 t516)) (fun _ hk=>hk.2) (.int .i64 t517)) (fun _ h_=>h_.1)))) k_ hk_),(Kd.freshB (g:=gb510) (o:=.cells #[.int .u8 a0_0,.int .u8 a0_1,.int .u8 a0_2,.int .u8 a0_3,.int .u8 a0_4,.int .u8 a0_5,.int .u8 a0_6,.int .u8 a0_7,.int .u8 a0_8,.int .u8 a0_9,.int .u8 a0_10,.int .u8 a0_11] 38 (0,0)) (by (with_reducible repeat (first|refine blk_drewN ?_ _|refine blk_drew ?_|refine blk_alloc ?_ _));refine blk_far ?_ NB510_518.out _;(with_reducible repeat (first|refine blk_drewN ?_ _|refine blk_drew ?_|refine blk_alloc ?_ _));refine blk_far ?_ NB510_518.out _;(with_reducible repeat (first|refine blk_drewN ?_ _|refine blk_drew ?_|refine blk_alloc ?_ _));refine blk_far ?_ NB510_518.out _;(with_reducible repeat (first|refine blk_drewN ?_ _|refine blk_drew ?_|refine blk_alloc ?_ _));refine blk_far ?_ NB510_518.out _;(with_reducible repeat (first|refine blk_drewN ?_ _|refine blk_drew ?_|refine blk_alloc ?_ _));exact BK510.out) k_ hk_),(Kd.freshB (g:=gb518) (o:=.cells #[.slice Ao11 t512.length co11,.int .i64 t515,.int .i64 t516,.int .i64 t517] 26 (0,0)) (by (with_reducible repeat (first|refine blk_drewN ?_ _|refine blk_drew ?_|refine blk_alloc ?_ _));refine blk_put (cs:=#[.slice Ao11 t512.length co11,.int .i64 t515,.int .i64 t516,.int .i64 0]) ?_ 3 _ rfl;(with_reducible repeat (first|refine blk_drewN ?_ _|refine blk_drew ?_|refine blk_alloc ?_ _));refine blk_put (cs:=#[.slice Ao11 t512.length co11,.int .i64 t515,.int .i64 0,.int .i64 0]) ?_ 2 _ rfl;(with_reducible repeat (first|refine blk_drewN ?_ _|refine blk_drew ?_|refine blk_alloc ?_ _));refine blk_put (cs:=#[.slice Ao11 t512.length co11,.int .i64 0,.int .i64 0,.int .i64 0]) ?_ 1 _ rfl;(with_reducible repeat (first|refine blk_drewN ?_ _|refine blk_drew ?_|refine blk_alloc ?_ _));refine blk_put (cs:=#[.slice none 0 0,.int .i64 0,.int .i64 0,.int .i64 0]) ?_ 0 _ rfl;(with_reducible repeat (first|refine blk_drewN ?_ _|refine blk_drew ?_|refine blk_alloc ?_ _));exact BK518.out) k_ hk_)⟩)) (below_size (below_go HB.out)));have n2_:=Aside0.mk (blk_below (g:=gb510) (o:=.cells #[.int .u8 a0_0,.int .u8 a0_1,.int .u8 a0_2,.int .u8 a0_3,.int .u8 a0_4,.int .u8 a0_5,.int .u8 a0_6,.int .u8 a0_7,.int .u8 a0_8,.int .u8 a0_9,.int .u8 a0_10,.int .u8 a0_11] 38 (0,0)) (by (with_reducible repeat (first|refine blk_drewN ?_ _|refine blk_drew ?_|refine blk_alloc ?_ _));refine blk_far ?_ NB510_518.out _;(with_reducible repeat (first|refine blk_drewN ?_ _|refine blk_drew ?_|refine blk_alloc ?_ _));refine blk_far ?_ NB510_518.out _;(with_reducible repeat (first|refine blk_drewN ?_ _|refine blk_drew ?_|refine blk_alloc ?_ _));refine blk_far ?_ NB510_518.out _;(with_reducible repeat (first|refine blk_drewN ?_ _|refine blk_drew ?_|refine blk_alloc ?_ _));refine blk_far ?_ NB510_518.out _;(with_reducible repeat (first|refine blk_drewN ?_ _|refine blk_drew ?_|refine blk_alloc ?_ _));exact BK510.out) hb);have n3_:=Aside0.mk (blk_below (g:=gb518) (o:=.cells #[.slice Ao11 t512.length co11,.int .i64 t515,.int .i64 t516,.int .i64 t517] 26 (0,0)) (by (with_reducible repeat (first|refine blk_drewN ?_ _|refine blk_drew ?_|refine blk_alloc ?_ _));refine blk_put (cs:=#[.slice Ao11 t512.length co11,.int .i64 t515,.int .i64 t516,.int .i64 0]) ?_ 3 _ rfl;(with_reducible repeat (first|refine blk_drewN ?_ _|refine blk_drew ?_|refine blk_alloc ?_ _));refine blk_put (cs:=#[.slice Ao11 t512.length co11,.int .i64 t515,.int .i64 0,.int .i64 0]) ?_ 2 _ rfl;(with_reducible repeat (first|refine blk_drewN ?_ _|refine blk_drew ?_|refine blk_alloc ?_ _));refine blk_put (cs:=#[.slice Ao11 t512.length co11,.int .i64 0,.int .i64 0,.int .i64 0]) ?_ 1 _ rfl;(with_reducible repeat (first|refine blk_drewN ?_ _|refine blk_drew ?_|refine blk_alloc ?_ _));refine blk_put (cs:=#[.slice none 0 0,.int .i64 0,.int .i64 0,.int .i64 0]) ?_ 0 _ rfl;(with_reducible repeat (first|refine blk_drewN ?_ _|refine blk_drew ?_|refine blk_alloc ?_ _));exact BK518.out) hb);have n4_:=Aside0.mk (below_step (below_go HB.out) hb);clear HO514;clear BK510;clear BK518;clear HB;have HO514:=n0_;have HO521:=n1_;have BK510:=n2_;have BK518:=n3_;have HB:=n4_;clear n0_ n1_ n2_ n3_ n4_;(try clear hb);(try clear hb2);(try clear hk);(try clear hi);(try clear ho0))|((with_reducible refine gate_dst (N:=22) rfl ?_);(try (refine gate_guard (by rfl) ?_;dsimp only));refine Kd.N_lit (Kd.slice 33 (Kd.slice 31 k31)) _ 28 ?hg (N':=22) ?hd (xs:=([] : List (List (List (S31))))) (inner:=[]) (ok:=(fun k_=>some k_≠(.slice Ao11 t512.length co11 : Value).ownBlock∧some k_≠(v520 : Value).ownBlock∧k_≠gb510∧k_≠gb518)) (okp:=(fun k_=>some k_≠(.slice Ao11 t512.length co11 : Value).ownBlock∧some k_≠(v520 : Value).ownBlock∧k_≠gb510∧k_≠gb518)) ?hr ?hp (fun _ hk=>hk) ((show ∀ k_,w14.heap.size≤k_→(fun k_=>some k_≠(.slice Ao11 t512.length co11 : Value).ownBlock∧some k_≠(v520 : Value).ownBlock∧k_≠gb510∧k_≠gb518) k_ from fun k_ hk=>⟨Kd.fresh' (Kd.R_lt (R_up HO514.out)) k_ hk,Kd.fresh' (Kd.N_lt (N_up HO521.out)) k_ hk,Kd.freshB (blk_up BK510.out) k_ hk,Kd.freshB (blk_up BK518.out) k_ hk⟩) _ (Nat.le_refl _)) (Below.refl _ _) (Nat.le_refl _) (by simp) ?_;(case hd=>rfl);(case hg=>rfl);(case hr=>first|(go_simp;done)|(go_simp;rfl));(case hp=>exact (Reps.none _ _));intro v523 w15 ho16 hb hg_ hnew_;clear hg_ hnew_;(first|rw [← Ny522.out] at ho16|(simp only [Int.reduceToNat] at ho16;rw [← Ny522.out] at ho16));have n0_:=Aside0.mk (Kd.R_below (R_up HO514.out) hb);have n1_:=Aside0.mk (Kd.N_elder' (N_up HO521.out) (Kd.N_base ho16) hb);have n2_:=Aside0.mk (Kd.N_lower ho16 (below_size (below_go HB.out)));have n3_:=Aside0.mk (blk_below (blk_up BK510.out) hb);have n4_:=Aside0.mk (blk_below (blk_up BK518.out) hb);have n5_:=Aside0.mk (below_step (below_go HB.out) hb);clear HO514;clear HO521;clear BK510;clear BK518;clear HB;have HO514:=n0_;have HO521:=n1_;have HO524:=n2_;have BK510:=n3_;have BK518:=n4_;have HB:=n5_;clear n0_ n1_ n2_ n3_ n4_ n5_;clear hb ho16))
 go_loopg [8,9,10] k (fun kq v8 v9 v10 w'=>∃ (x8_1 : Int) (x9_1 : List (List (List (S31)))) (x10_1 : Int),v8=.int .i64 x8_1∧v10=.int .i64 x10_1∧Aside0 (thresherlaw14_MergeCounts.l0 kq t511 t519 x8_1 x9_1 x10_1 t512 t515 t516 t517=some r)∧Aside0 (kq≤k)∧Aside0 (Kd.N (Kd.slice 33 (Kd.slice 31 k31)) 28 w' w.heap.size (fun k_=>some k_≠(v9 : Value).ownBlock∧some k_≠((.slice Ao11 t512.length co11) : Value).ownBlock∧k_≠gb510∧k_≠gb518) v520 t519)∧Aside0 (Kd.N (Kd.slice 33 (Kd.slice 31 k31)) 28 w' w.heap.size (fun k_=>some k_≠(v520 : Value).ownBlock∧some k_≠((.slice Ao11 t512.length co11) : Value).ownBlock∧k_≠gb510∧k_≠gb518) v9 x9_1)∧Aside0 (Kd.R (Kd.int .i64) 3 w' w.heap.size (fun _=>True) (.slice Ao11 t512.length co11) t512)∧Aside0 (w'.heap[gb510]?=some (.cells #[.int .u8 a0_0,.int .u8 a0_1,.int .u8 a0_2,.int .u8 a0_3,.int .u8 a0_4,.int .u8 a0_5,.int .u8 a0_6,.int .u8 a0_7,.int .u8 a0_8,.int .u8 a0_9,.int .u8 a0_10,.int .u8 a0_11] 38 (0,0)))∧Aside0 (w'.heap[gb518]?=some (.cells #[(.slice Ao11 t512.length co11),.int .i64 t515,.int .i64 t516,.int .i64 t517] 26 (0,0)))∧Aside0 (Below w.heap.size w w'))
 case atStart=>exact ⟨(0),(y522),(0),(by first|rfl|(simp;done)|(simp [*];done)),(by first|rfl|(simp;done)|(simp [*];done)),H',⟨Nat.le_refl _⟩,⟨by (with_reducible repeat (first|apply Kd.N_alloc|apply Kd.N_drewN|apply Kd.N_drew));exact Kd.N_mono HO521.out (fun _ hk=>by first|exact ⟨hk.2,⟨hk.1.1,⟨hk.1.2.1,hk.1.2.2⟩⟩⟩|simp_all)⟩,⟨by (with_reducible repeat (first|apply Kd.N_alloc|apply Kd.N_drewN|apply Kd.N_drew));exact Kd.N_mono HO524.out (fun _ hk=>by first|exact ⟨hk.2.1,⟨hk.1,⟨hk.2.2.1,hk.2.2.2⟩⟩⟩|simp_all)⟩,⟨by (with_reducible repeat (first|apply Kd.R_alloc|apply Kd.R_drewN|apply Kd.R_drew));exact HO514.out⟩,⟨by (with_reducible repeat (first|refine blk_drewN ?_ _|refine blk_drew ?_|refine blk_alloc ?_ _));exact BK510.out⟩,⟨by (with_reducible repeat (first|refine blk_drewN ?_ _|refine blk_drew ?_|refine blk_alloc ?_ _));exact BK518.out⟩,⟨by repeat (first|(with_reducible first|exact HB.out|apply below_alloc|apply pw_below_drewN|apply below_drew1|refine below_set ?_ GE510.out|refine below_set ?_ GE518.out)|exact HB.out)⟩⟩
 case round =>
  clear H'
  try clear c1
  try clear p2
  try clear c6
  try clear c8
  try clear c10
  try clear c11
  try clear c12
  try clear hcz13_0
  try clear hcz13_1
  try clear hcz13_2
  try clear hcz13_3
  try clear hcz8_0
  try clear hcz8_1
  try clear hcz8_10
  try clear hcz8_11
  try clear hcz8_2
  try clear hcz8_3
  try clear hcz8_4
  try clear hcz8_5
  try clear hcz8_6
  try clear hcz8_7
  try clear hcz8_8
  try clear hcz8_9
  try clear hfz13_0
  try clear hfz13_1
  try clear hfz13_2
  try clear hfz13_3
  try clear hfz8_0
  try clear hfz8_1
  try clear hfz8_10
  try clear hfz8_11
  try clear hfz8_2
  try clear hfz8_3
  try clear hfz8_4
  try clear hfz8_5
  try clear hfz8_6
  try clear hfz8_7
  try clear hfz8_8
  try clear hfz8_9
  obtain ⟨x8_1,x9_1,x10_1,rfl,rfl,HA,HK1,HO_7,HO_9,HO_519000,BK510,BK518,HB⟩:=hrel
  cases gk with
  | zero=>exact absurd HA.out (by simp [thresherlaw14_MergeCounts.l0])
  | succ k1 =>
   have H:=HA.out
   clear HA
   simp only [thresherlaw14_MergeCounts.l0] at H
   by_cases c17 : x10_1 < (t519.length : Int)
   ·rw [if_pos c17] at H
    have c17b0 : decide (x10_1 < (t519.length : Int))=true:=decide_eq_true c17
    clear c17
    by_cases c18 : 0≤x10_1
    ·rw [if_pos c18] at H
     have c18b0 : decide (0≤x10_1)=true:=decide_eq_true c18
     clear c18
     obtain ⟨y526,hy526⟩ : ∃ y_ : List (List (S31)),y_=(([] : List (List (S31)))):=⟨_,rfl⟩
     replace H : (if y526.length + (rd_L4 t519 x10_1).length < 5864062014805 then (if x9_1.length < 5864062014805 then (thresherlaw14_MergeCounts.l0 k1 t511 t519 (wrap64 (x8_1 + ((rd_L4 t519 x10_1).length : Int))) (x9_1 ++ [(y526 ++ (rd_L4 t519 x10_1))]) (wrap64 (x10_1 + 1)) t512 t515 t516 t517) else (none)) else (none))=some r:=by first|(rw [hy526];with_reducible exact H)|(have H2_:=(Option.bind_some _ _).symm.trans H;rw [hy526];with_reducible exact H2_)|(have H2_:=(Option.bind_some _ _).symm.trans H;with_reducible exact H2_)|with_reducible exact H|(rw [hy526];exact H)|exact H
     have Ny526:=Aside0.mk hy526
     clear hy526
     by_cases c19 : y526.length + (rd_L4 t519 x10_1).length < 5864062014805
     ·rw [if_pos c19] at H
      have LMc19:=Aside0.mk c19
      clear c19
      obtain ⟨y530,hy530⟩ : ∃ y_ : List (List (S31)),y_=(y526 ++ (rd_L4 t519 x10_1)):=⟨_,rfl⟩
      replace H : (if x9_1.length < 5864062014805 then (thresherlaw14_MergeCounts.l0 k1 t511 t519 (wrap64 (x8_1 + ((rd_L4 t519 x10_1).length : Int))) (x9_1 ++ [y530]) (wrap64 (x10_1 + 1)) t512 t515 t516 t517) else (none))=some r:=by first|(rw [hy530];with_reducible exact H)|(have H2_:=(Option.bind_some _ _).symm.trans H;rw [hy530];with_reducible exact H2_)|(have H2_:=(Option.bind_some _ _).symm.trans H;with_reducible exact H2_)|with_reducible exact H|(rw [hy530];exact H)|exact H
      have Ny530:=Aside0.mk hy530
      clear hy530
      by_cases c20 : x9_1.length < 5864062014805
      ·rw [if_pos c20] at H
       have LMc20:=Aside0.mk c20
       clear c20
       obtain ⟨y533,hy533⟩ : ∃ y_ : List (List (List (S31))),y_=(x9_1 ++ [y530]):=⟨_,rfl⟩
       replace H : (thresherlaw14_MergeCounts.l0 k1 t511 t519 (wrap64 (x8_1 + ((rd_L4 t519 x10_1).length : Int))) y533 (wrap64 (x10_1 + 1)) t512 t515 t516 t517)=some r:=by first|(rw [hy533];with_reducible exact H)|(have H2_:=(Option.bind_some _ _).symm.trans H;rw [hy533];with_reducible exact H2_)|(have H2_:=(Option.bind_some _ _).symm.trans H;with_reducible exact H2_)|with_reducible exact H|(rw [hy533];exact H)|exact H
       have Ny533:=Aside0.mk hy533
       clear hy533
       have H':=Aside0.mk H
       clear H
       obtain ⟨Ao21,co21,eo21⟩:=Kd.N_slice HO_7.out
       subst eo21
       have p525 : 0≤(x10_1 : Int):=of_decide_eq_true (by first|(with_reducible assumption)|assumption)
       have q525 : x10_1 < (t519.length : Int):=of_decide_eq_true (by first|(with_reducible assumption)|assumption)
       obtain ⟨ad525,A525_0,c525_0,e525,hx525_0,hl525_0,hi525_0⟩:=at_L4 (Kd.N_reads' HO_7.out).2.2 x10_1 p525 q525
       cases e525
       obtain ⟨ce525,hce525,hMe525,hcc525⟩:=Kd.N_get HO_7.out [] x10_1 p525 (by first|exact q525|exact of_decide_eq_true (by first|(with_reducible assumption)|assumption)|(have e_:=(Kd.N_reads' HO_7.out).1;omega))
       obtain ⟨ua525_0,uc525_0,rfl,ul525_0,ge525_0⟩:=Kd.FK_slice_open hMe525
       have hv525_0:=hcc525 0 _ rfl
       rw [Nat.add_zero,show ((Kd.slice 33 (Kd.slice 31 k31))).sz=1 from rfl,Nat.mul_one] at hv525_0
       replace hv525_0:=Option.some.inj (hv525_0.symm.trans hx525_0)
       injection hv525_0 with hva_ hvn_ hvc_
       rw [hva_] at ge525_0
       rw [hvc_] at ul525_0
       have HL525_0:=Aside0.mk (show Kd.V (Kd.slice 31 k31) 33 _ w.heap.size _ _ (rd_L4 t519 x10_1) from Kd.V_mk ul525_0 ge525_0)
       clear hva_ hvn_ hvc_ ge525_0 ul525_0
       clear hcc525 hce525
       have HR525_0:=Aside0.mk hi525_0
       have HC525_0:=Aside0.mk hl525_0
       clear hi525_0 hl525_0
       replace p525:=eq_true p525
       replace q525:=eq_true q525
       go_wp2_with (first|((with_reducible refine gate_dst (N:=37) rfl ?_);(try (refine gate_guard (by rfl) ?_;dsimp only));refine Kd.N_lit (Kd.slice 31 k31) _ 33 ?hg (N':=37) ?hd (xs:=([] : List (List (S31)))) (inner:=[]) (ok:=(fun k_=>some k_≠(.slice (some ad525) t519.length co21 : Value).ownBlock∧some k_≠(u9 : Value).ownBlock∧some k_≠(.slice Ao11 t512.length co11 : Value).ownBlock∧k_≠gb510∧k_≠gb518)) (okp:=(fun k_=>some k_≠(.slice (some ad525) t519.length co21 : Value).ownBlock∧some k_≠(u9 : Value).ownBlock∧some k_≠(.slice Ao11 t512.length co11 : Value).ownBlock∧k_≠gb510∧k_≠gb518)) ?hr ?hp (fun _ hk=>hk) ((show ∀ k_,wr.heap.size≤k_→(fun k_=>some k_≠(.slice (some ad525) t519.length co21 : Value).ownBlock∧some k_≠(u9 : Value).ownBlock∧some k_≠(.slice Ao11 t512.length co11 : Value).ownBlock∧k_≠gb510∧k_≠gb518) k_ from fun k_ hk=>⟨Kd.fresh' (Kd.N_lt (N_up HO_7.out)) k_ hk,Kd.fresh' (Kd.N_lt (N_up HO_9.out)) k_ hk,Kd.fresh' (Kd.R_lt (R_up HO_519000.out)) k_ hk,Kd.freshB (blk_up BK510.out) k_ hk,Kd.freshB (blk_up BK518.out) k_ hk⟩) _ (Nat.le_refl _)) (Below.refl _ _) (Nat.le_refl _) (by simp) ?_;(case hd=>rfl);(case hg=>rfl);(case hr=>first|(go_simp;done)|(go_simp;rfl));(case hp=>exact (Reps.none _ _));intro v527 w22 ho23 hb hg_ hnew_;clear hg_ hnew_;(first|rw [← Ny526.out] at ho23|(simp only [Int.reduceToNat] at ho23;rw [← Ny526.out] at ho23));have n0_:=Aside0.mk (Kd.N_elder' (N_up HO_7.out) (Kd.N_base ho23) hb);have n1_:=Aside0.mk (Kd.N_elder' (N_up HO_9.out) (Kd.N_base ho23) hb);have n2_:=Aside0.mk (Kd.R_below (R_up HO_519000.out) hb);have n3_:=Aside0.mk (Kd.V_elder' (by (with_reducible repeat (first|apply Kd.V_alloc|apply Kd.V_drewN|apply Kd.V_drew));exact HL525_0.out) (Kd.N_base ho23) hb);have n4_:=Aside0.mk (Kd.N_lower ho23 (below_size (below_go HB.out)));have n5_:=Aside0.mk (blk_below (blk_up BK510.out) hb);have n6_:=Aside0.mk (blk_below (blk_up BK518.out) hb);have n7_:=Aside0.mk (Kd.C_below (by repeat (first|(with_reducible exact HR525_0.out)|(with_reducible refine Kd.C_alloc ?_ _)|(with_reducible refine Kd.C_drewN ?_ _)|(with_reducible refine Kd.C_drew ?_)|exact HR525_0.out)) hb);have n8_:=Aside0.mk (below_step (below_go HB.out) hb);clear HO_7;clear HO_9;clear HO_519000;clear HL525_0;clear BK510;clear BK518;clear HR525_0;clear HB;have HO_7:=n0_;have HO_9:=n1_;have HO_519000:=n2_;have HL525_0:=n3_;have HO528:=n4_;have BK510:=n5_;have BK518:=n6_;have HR525_0:=n7_;have HB:=n8_;clear n0_ n1_ n2_ n3_ n4_ n5_ n6_ n7_ n8_;clear hb ho23;have p529 : 0≤(x10_1 : Int):=of_decide_eq_true (by first|(with_reducible assumption)|assumption);have q529 : x10_1 < (t519.length : Int):=of_decide_eq_true (by first|(with_reducible assumption)|assumption);obtain ⟨ad529,A529_0,c529_0,e529,hx529_0,hl529_0,hi529_0⟩:=at_L4 (Kd.N_reads' HO_7.out).2.2 x10_1 p529 q529;obtain rfl : ad525=ad529:=(by injection e529);obtain ⟨ce529,hce529,hMe529,hcc529⟩:=Kd.N_get HO_7.out [] x10_1 p529 (by first|exact q529|exact of_decide_eq_true (by first|(with_reducible assumption)|assumption)|(have e_:=(Kd.N_reads' HO_7.out).1;omega));obtain ⟨ua529_0,uc529_0,rfl,ul529_0,ge529_0⟩:=Kd.FK_slice_open hMe529;have hv529_0:=hcc529 0 _ rfl;rw [Nat.add_zero,show ((Kd.slice 33 (Kd.slice 31 k31))).sz=1 from rfl,Nat.mul_one] at hv529_0;replace hv529_0:=Option.some.inj (hv529_0.symm.trans hx529_0);injection hv529_0 with hva_ hvn_ hvc_;rw [hva_] at ge529_0;rw [hvc_] at ul529_0;have HL529_0:=Aside0.mk (show Kd.V (Kd.slice 31 k31) 33 _ w.heap.size _ _ (rd_L4 t519 x10_1) from Kd.V_mk ul529_0 ge529_0);clear hva_ hvn_ hvc_ ge529_0 ul529_0;clear hcc529 hce529;have HR529_0:=Aside0.mk hi529_0;have HC529_0:=Aside0.mk hl529_0;clear hi529_0 hl529_0;replace p529:=eq_true p529;replace q529:=eq_true q529)|((with_reducible refine gate_builtin (b:=.append) (xs:=#[.tmp 37,.tmp 41]) rfl ?_);(try (refine gate_guard (by rfl) ?_;dsimp only));at_builtin;refine Kd.N_append_rows (Kd.slice 31 k31) (w0:=w) w.heap.size rfl (.tmp 37) (.tmp 41) 28 33 (.slice none 0 0) 24 rfl Try.underlying28 info33 rfl (by decide) (by omega) v527 y526 (rd_L4 t519 x10_1) _ _ _ (fun k_=>some k_≠(.slice (some ad525) t519.length co21 : Value).ownBlock∧some k_≠(u9 : Value).ownBlock∧some k_≠(.slice Ao11 t512.length co11 : Value).ownBlock∧k_≠gb510∧k_≠gb518) (fun k_=>((fun k_=>some k_≠(.slice (some ad525) t519.length co21 : Value).ownBlock∧some k_≠(u9 : Value).ownBlock∧some k_≠(.slice Ao11 t512.length co11 : Value).ownBlock∧k_≠gb510∧k_≠gb518)) k_∧some k_≠(v527 : Value).ownBlock) rfl rfl ?aO ?aR (fun _ hk=>hk) ?aF ?aB ?aS ?aL ?_;(case aR=>exact (by skip;exact Kd.V_F (Kd.V_mono (ok':=(fun k_=>((fun k_=>some k_≠(.slice (some ad525) t519.length co21 : Value).ownBlock∧some k_≠(u9 : Value).ownBlock∧some k_≠(.slice Ao11 t512.length co11 : Value).ownBlock∧k_≠gb510∧k_≠gb518)) k_∧some k_≠(v527 : Value).ownBlock)) (HL529_0.out) (fun k_ hk=>⟨⟨hk.2,⟨hk.1.1.1,⟨hk.1.1.2.1,⟨hk.1.1.2.2.1,hk.1.1.2.2.2⟩⟩⟩⟩,hk.1.2⟩))));(case aB=>exact (below_go HB.out));(case aF=>exact (fun k_ hk=>⟨Kd.fresh' (Kd.N_lt (N_up HO_7.out)) k_ hk,Kd.fresh' (Kd.N_lt (N_up HO_9.out)) k_ hk,Kd.fresh' (Kd.R_lt (R_up HO_519000.out)) k_ hk,Kd.freshB (blk_up BK510.out) k_ hk,Kd.freshB (blk_up BK518.out) k_ hk⟩));(case aO=>exact (N_up HO528.out));(case aS=>exact (below_size (below_go HB.out)));(case aL=>have:=LMc19.out;omega);intro v531 w24 ho hb hg hat;rw [← Ny530.out] at ho;have n0_:=Aside0.mk (Kd.N_afterv (ok:=(fun k_=>some k_≠(u9 : Value).ownBlock∧some k_≠(.slice Ao11 t512.length co11 : Value).ownBlock∧k_≠gb510∧k_≠gb518)) (N_up HO_7.out) hg hat);have n1_:=Aside0.mk (Kd.N_afterv (ok:=(fun k_=>some k_≠(.slice (some ad525) t519.length co21 : Value).ownBlock∧some k_≠(.slice Ao11 t512.length co11 : Value).ownBlock∧k_≠gb510∧k_≠gb518)) (N_up HO_9.out) hg hat);have n2_:=Aside0.mk (Kd.R_over' (R_up HO_519000.out) (Kd.N_typed (N_up HO528.out)) (by decide) hg);have n3_:=Aside0.mk (blk_grown (blk_up BK510.out) hg (Kd.N_ne HO528.out BK510.out (by decide)));have n4_:=Aside0.mk (blk_grown (blk_up BK518.out) hg (Kd.N_ne HO528.out BK518.out (by decide)));have n5_:=Aside0.mk (Kd.V_afterv (ok:=(fun k_=>some k_≠(.slice (some ad525) t519.length co21 : Value).ownBlock∧some k_≠(u9 : Value).ownBlock∧some k_≠(.slice Ao11 t512.length co11 : Value).ownBlock∧k_≠gb510∧k_≠gb518)) (by (with_reducible repeat (first|apply Kd.V_alloc|apply Kd.V_drewN|apply Kd.V_drew));exact Kd.V_mono HL525_0.out (fun _ hk=>by first|exact ⟨⟨hk.1.2,⟨hk.1.1.1,⟨hk.1.1.2.1,⟨hk.1.1.2.2.1,hk.1.1.2.2.2⟩⟩⟩⟩,hk.2⟩|simp_all)) hg hat);have n6_:=Aside0.mk (Kd.V_afterv (ok:=(fun k_=>some k_≠(.slice (some ad525) t519.length co21 : Value).ownBlock∧some k_≠(u9 : Value).ownBlock∧some k_≠(.slice Ao11 t512.length co11 : Value).ownBlock∧k_≠gb510∧k_≠gb518)) (by (with_reducible repeat (first|apply Kd.V_alloc|apply Kd.V_drewN|apply Kd.V_drew));exact Kd.V_mono HL529_0.out (fun _ hk=>by first|exact ⟨⟨hk.2,⟨hk.1.1.1,⟨hk.1.1.2.1,⟨hk.1.1.2.2.1,hk.1.1.2.2.2⟩⟩⟩⟩,hk.1.2⟩|simp_all)) hg hat);have n7_:=Aside0.mk (hb);have n8_:=Aside0.mk (ho);clear HO_7;clear HO_9;clear HO_519000;clear BK510;clear BK518;clear HL525_0;clear HL529_0;clear HB;clear HO528;have HO_7:=n0_;have HO_9:=n1_;have HO_519000:=n2_;have BK510:=n3_;have BK518:=n4_;have HL525_0:=n5_;have HL529_0:=n6_;have HB:=n7_;have HO532:=n8_;clear n0_ n1_ n2_ n3_ n4_ n5_ n6_ n7_ n8_;clear ho hb hg hat;obtain ⟨Ao26,co26,eo26⟩:=Kd.N_slice HO532.out;subst eo26)|((with_reducible refine gate_builtin (b:=.append) (xs:=#[.tmp 36,.tmp 43]) rfl ?_);(try (refine gate_guard (by rfl) ?_;dsimp only));at_builtin;refine Kd.N_append (Kd.slice 33 (Kd.slice 31 k31)) (w0:=w) w.heap.size rfl (.tmp 36) (.tmp 43) 27 28 (.slice none 0 0) 24 rfl Try.underlying27 info28 rfl (by decide) (by omega) u9 x9_1 y530 [.slice Ao26 y530.length co26] (fun k_=>some k_≠(.slice (some ad525) t519.length co21 : Value).ownBlock∧some k_≠(.slice Ao11 t512.length co11 : Value).ownBlock∧k_≠gb510∧k_≠gb518) (fun k_=>((fun k_=>some k_≠(.slice (some ad525) t519.length co21 : Value).ownBlock∧some k_≠(.slice Ao11 t512.length co11 : Value).ownBlock∧k_≠gb510∧k_≠gb518)) k_∧some k_≠(u9 : Value).ownBlock) rfl rfl ?aP (fun _ hk=>hk) ?aF ?aO ?aB ?aS ?aL ?_;(case aP=>exact (Kd.FK_slice_mk (Kd.N_reads' (Kd.N_mono (ok':=(fun k_=>((fun k_=>some k_≠(.slice (some ad525) t519.length co21 : Value).ownBlock∧some k_≠(.slice Ao11 t512.length co11 : Value).ownBlock∧k_≠gb510∧k_≠gb518)) k_∧some k_≠(u9 : Value).ownBlock)) (HO532.out) (fun k_ hk=>⟨⟨hk.1,⟨hk.2.2.1,⟨hk.2.2.2.1,hk.2.2.2.2⟩⟩⟩,hk.2.1⟩))).2.1 (Kd.N_F (Kd.N_mono (ok':=(fun k_=>((fun k_=>some k_≠(.slice (some ad525) t519.length co21 : Value).ownBlock∧some k_≠(.slice Ao11 t512.length co11 : Value).ownBlock∧k_≠gb510∧k_≠gb518)) k_∧some k_≠(u9 : Value).ownBlock)) (HO532.out) (fun k_ hk=>⟨⟨hk.1,⟨hk.2.2.1,⟨hk.2.2.2.1,hk.2.2.2.2⟩⟩⟩,hk.2.1⟩)))));(case aB=>exact (below_go HB.out));(case aF=>exact (fun k_ hk=>⟨Kd.fresh' (Kd.N_lt (N_up HO_7.out)) k_ hk,Kd.fresh' (Kd.R_lt (R_up HO_519000.out)) k_ hk,Kd.freshB (blk_up BK510.out) k_ hk,Kd.freshB (blk_up BK518.out) k_ hk⟩));(case aO=>exact (by (with_reducible repeat (first|apply Kd.N_alloc|apply Kd.N_drewN|apply Kd.N_drew));exact Kd.N_mono HO_9.out (fun _ hk=>by first|exact ⟨hk.1.1,⟨hk.1.2.1,⟨hk.1.2.2.1,hk.1.2.2.2⟩⟩⟩|simp_all)));(case aS=>exact (below_size (below_go HB.out)));(case aL=>have:=LMc20.out;omega);intro v534 w25 ho hb hg hat;rw [← Ny533.out] at ho;have n0_:=Aside0.mk (Kd.N_afterv (ok:=(fun k_=>some k_≠(.slice Ao11 t512.length co11 : Value).ownBlock∧some k_≠(.slice Ao26 y530.length co26 : Value).ownBlock∧k_≠gb510∧k_≠gb518)) (by (with_reducible repeat (first|apply Kd.N_alloc|apply Kd.N_drewN|apply Kd.N_drew));exact Kd.N_mono HO_7.out (fun _ hk=>by first|exact ⟨⟨hk.1.2.1,⟨hk.2,⟨hk.1.2.2.1,hk.1.2.2.2⟩⟩⟩,hk.1.1⟩|simp_all)) hg hat);have n1_:=Aside0.mk (Kd.R_over' (R_up HO_519000.out) (Kd.N_typed (N_up HO_9.out)) (by decide) hg);have n2_:=Aside0.mk (blk_grown (blk_up BK510.out) hg (Kd.N_ne HO_9.out BK510.out (by decide)));have n3_:=Aside0.mk (blk_grown (blk_up BK518.out) hg (Kd.N_ne HO_9.out BK518.out (by decide)));have n4_:=Aside0.mk (Kd.V_afterv (ok:=(fun k_=>some k_≠(.slice (some ad525) t519.length co21 : Value).ownBlock∧some k_≠(.slice Ao11 t512.length co11 : Value).ownBlock∧some k_≠(.slice Ao26 y530.length co26 : Value).ownBlock∧k_≠gb510∧k_≠gb518)) (by (with_reducible repeat (first|apply Kd.V_alloc|apply Kd.V_drewN|apply Kd.V_drew));exact Kd.V_mono HL525_0.out (fun _ hk=>by first|exact ⟨⟨hk.1.1,⟨hk.1.2.2.1,⟨hk.2,⟨hk.1.2.2.2.1,hk.1.2.2.2.2⟩⟩⟩⟩,hk.1.2.1⟩|simp_all)) hg hat);have n5_:=Aside0.mk (Kd.V_afterv (ok:=(fun k_=>some k_≠(.slice (some ad525) t519.length co21 : Value).ownBlock∧some k_≠(.slice Ao11 t512.length co11 : Value).ownBlock∧some k_≠(.slice Ao26 y530.length co26 : Value).ownBlock∧k_≠gb510∧k_≠gb518)) (by (with_reducible repeat (first|apply Kd.V_alloc|apply Kd.V_drewN|apply Kd.V_drew));exact Kd.V_mono HL529_0.out (fun _ hk=>by first|exact ⟨⟨hk.1.1,⟨hk.1.2.2.1,⟨hk.2,⟨hk.1.2.2.2.1,hk.1.2.2.2.2⟩⟩⟩⟩,hk.1.2.1⟩|simp_all)) hg hat);have n6_:=Aside0.mk (hb);have n7_:=Aside0.mk (ho);clear HO_7;clear HO_519000;clear BK510;clear BK518;clear HL525_0;clear HL529_0;clear HB;clear HO_9;clear HO532;have HO_7:=n0_;have HO_519000:=n1_;have BK510:=n2_;have BK518:=n3_;have HL525_0:=n4_;have HL529_0:=n5_;have HB:=n6_;have HO535:=n7_;clear n0_ n1_ n2_ n3_ n4_ n5_ n6_ n7_;clear ho hb hg hat))
       go_roundg k1
       case measure=>have:=HK1.out;omega
       case rel=>exact ⟨(wrap64 (x8_1 + ((rd_L4 t519 x10_1).length : Int))),(y533),(wrap64 (x10_1 + 1)),(by first|rfl|(simp;done)|(simp [*];done)),(by first|rfl|(simp;done)|(simp [*];done)),(by first|exact H'|(subst_vars;exact H')),⟨by have:=HK1.out;omega⟩,⟨by (with_reducible repeat (first|apply Kd.N_alloc|apply Kd.N_drewN|apply Kd.N_drew));exact Kd.N_mono HO_7.out (fun _ hk=>by first|exact ⟨hk.2,⟨hk.1.1,⟨hk.1.2.2.1,hk.1.2.2.2⟩⟩⟩|simp_all)⟩,⟨by (with_reducible repeat (first|apply Kd.N_alloc|apply Kd.N_drewN|apply Kd.N_drew));exact HO535.out⟩,⟨by (with_reducible repeat (first|apply Kd.R_alloc|apply Kd.R_drewN|apply Kd.R_drew));exact HO_519000.out⟩,⟨by (with_reducible repeat (first|refine blk_drewN ?_ _|refine blk_drew ?_|refine blk_alloc ?_ _));exact BK510.out⟩,⟨by (with_reducible repeat (first|refine blk_drewN ?_ _|refine blk_drew ?_|refine blk_alloc ?_ _));exact BK518.out⟩,⟨by repeat (first|(with_reducible first|exact HB.out|apply below_alloc|apply pw_below_drewN|apply below_drew1|refine below_set ?_ GE510.out|refine below_set ?_ GE518.out)|exact HB.out)⟩⟩
      ·rw [if_neg c20] at H
       exact absurd H (by simp)
     ·rw [if_neg c19] at H
      exact absurd H (by simp)
    ·rw [if_neg c18] at H
     exact absurd H (by simp)
   ·rw [if_neg c17] at H
    have c17b0 : decide (x10_1 < (t519.length : Int))=false:=decide_eq_false c17
    clear c17
    replace H:=Option.bind_eq_some_iff.mp H
    obtain ⟨t536,A270,H⟩:=H
    replace H : (thresherlaw14_MergeCounts.l1 k1 t511 t519 x8_1 x9_1 t536 0 t512 t515 t516 t517)=some r:=H
    have A27:=Aside0.mk A270
    clear A270
    have H':=Aside0.mk H
    clear H
    obtain ⟨Ao28,co28,eo28⟩:=Kd.N_slice HO_7.out
    subst eo28
    have hnb29:=NB518_510.out
    have hnc29:=NB510_518.out
    have hcz30_0 : wr.cell? ⟨gb518,0,none⟩=some (.slice Ao11 t512.length co11):=(blk_cell BK518.out 0).trans rfl
    have hcz30_1 : wr.cell? ⟨gb518,1,none⟩=some (.int .i64 t515):=(blk_cell BK518.out 1).trans rfl
    have hcz30_2 : wr.cell? ⟨gb518,2,none⟩=some (.int .i64 t516):=(blk_cell BK518.out 2).trans rfl
    have hcz30_3 : wr.cell? ⟨gb518,3,none⟩=some (.int .i64 t517):=(blk_cell BK518.out 3).trans rfl
    have hfz30_0:=blk_frozen BK518.out 0
    have hfz30_1:=blk_frozen BK518.out 1
    have hfz30_2:=blk_frozen BK518.out 2
    have hfz30_3:=blk_frozen BK518.out 3
    go_wp2_with (first|((with_reducible refine gate_callee (f:=9) rfl ?_);refine goesL_ (some 47) rfl rfl Try.func9 (by kernel_rfl) rfl #[.agg #[.slice Ao11 t512.length co11,.int .i64 t515,.int .i64 t516,.int .i64 t517],.slice Ao28 t519.length co28] rfl (by (try simp only [List.map_toArray,List.map_cons,List.map_nil]);first|done|rfl|(simp only [List.length_drop,List.length_take];rfl)) ?_;(with_reducible refine (merge_Rows.calls k1 _ _ t512 t515 t516 t517 (fun k_=>(some k_≠(u9 : Value).ownBlock∧(some k_≠(.slice Ao11 t512.length co11 : Value).ownBlock∧(k_≠gb510∧k_≠gb518)))) _ _ t519 t536 _ ?side1 ?side2 ?side3 A27.out).mono ?_);(case side1=>repeat (first|exact (Kd.R_reads' HO_519000.out).2.2|(with_reducible refine Kd.C_alloc ?_ _)|(with_reducible refine Kd.C_drewN ?_ _)|(with_reducible refine Kd.C_drew ?_)));(case side2=>exact (Kd.R_reads' HO_519000.out).2.1);(case side3=>first|exact Kd.N_V (HO_7.out)|exact Kd.N_V (Kd.N_mono HO_7.out (fun k_ hk_=>by first|(simp only [and_comm,and_left_comm,and_assoc] at hk_ ⊢;exact hk_)|simp_all)));rintro e w31 ⟨v537,rfl,ho0,hb⟩;refine ⟨_,rfl,?_⟩;have n0_:=Aside0.mk (Kd.N_elder' (N_up HO_7.out) (by first|exact Kd.N_base ho0|exact Kd.S_base ho0) hb);have n1_:=Aside0.mk (Kd.N_elder' (N_up HO_9.out) (by first|exact Kd.N_base ho0|exact Kd.S_base ho0) hb);have n2_:=Aside0.mk (Kd.R_below (R_up HO_519000.out) hb);have n3_:=Aside0.mk (Kd.N_lower (Kd.N_mono (ok':=fun k_=>some k_≠(u9 : Value).ownBlock∧some k_≠(.slice Ao11 t512.length co11 : Value).ownBlock∧k_≠gb510∧k_≠gb518) ho0 (fun k_ hk_=>⟨Or.elim hk_ (fun hs_=>hs_.1) (fun hn_=>(Kd.fresh' (Kd.N_lt (N_up HO_9.out)) k_ hn_)),Or.elim hk_ (fun hs_=>hs_.2.1) (fun hn_=>(Kd.fresh' (Kd.R_lt (R_up HO_519000.out)) k_ hn_)),Or.elim hk_ (fun hs_=>hs_.2.2.1) (fun hn_=>(Kd.freshB (blk_up BK510.out) k_ hn_)),Or.elim hk_ (fun hs_=>hs_.2.2.2) (fun hn_=>(Kd.freshB (blk_up BK518.out) k_ hn_))⟩)) (below_size (below_go HB.out)));have n4_:=Aside0.mk (blk_below (blk_up BK510.out) hb);have n5_:=Aside0.mk (blk_below (blk_up BK518.out) hb);have n6_:=Aside0.mk (below_step (below_go HB.out) hb);clear HO_7;clear HO_9;clear HO_519000;clear BK510;clear BK518;clear HB;have HO_7:=n0_;have HO_9:=n1_;have HO_519000:=n2_;have HO538:=n3_;have BK510:=n4_;have BK518:=n5_;have HB:=n6_;clear n0_ n1_ n2_ n3_ n4_ n5_ n6_;(try clear hb);(try clear hb2);(try clear hk);(try clear hi);(try clear ho0)))
    go_loopg [12] k1 (fun kq v12 w'=>∃ (x12_2 : Int),v12=.int .i64 x12_2∧Aside0 (thresherlaw14_MergeCounts.l1 kq t511 t519 x8_1 x9_1 t536 x12_2 t512 t515 t516 t517=some r)∧Aside0 (kq≤k1)∧Aside0 (Kd.N (Kd.slice 33 (Kd.slice 31 k31)) 28 w' w.heap.size (fun k_=>some k_≠(u9 : Value).ownBlock∧some k_≠(v537 : Value).ownBlock∧some k_≠((.slice Ao11 t512.length co11) : Value).ownBlock∧k_≠gb510∧k_≠gb518) (.slice Ao28 t519.length co28) t519)∧Aside0 (Kd.N (Kd.slice 33 (Kd.slice 31 k31)) 28 w' w.heap.size (fun k_=>some k_≠((.slice Ao28 t519.length co28) : Value).ownBlock∧some k_≠(v537 : Value).ownBlock∧some k_≠((.slice Ao11 t512.length co11) : Value).ownBlock∧k_≠gb510∧k_≠gb518) u9 x9_1)∧Aside0 (Kd.N (Kd.slice 31 k31) 33 w' w.heap.size (fun k_=>some k_≠(u9 : Value).ownBlock∧some k_≠((.slice Ao11 t512.length co11) : Value).ownBlock∧k_≠gb510∧k_≠gb518) v537 t536)∧Aside0 (Kd.R (Kd.int .i64) 3 w' w.heap.size (fun _=>True) (.slice Ao11 t512.length co11) t512)∧Aside0 (w'.heap[gb510]?=some (.cells #[.int .u8 a0_0,.int .u8 a0_1,.int .u8 a0_2,.int .u8 a0_3,.int .u8 a0_4,.int .u8 a0_5,.int .u8 a0_6,.int .u8 a0_7,.int .u8 a0_8,.int .u8 a0_9,.int .u8 a0_10,.int .u8 a0_11] 38 (0,0)))∧Aside0 (w'.heap[gb518]?=some (.cells #[(.slice Ao11 t512.length co11),.int .i64 t515,.int .i64 t516,.int .i64 t517] 26 (0,0)))∧Aside0 (Below w.heap.size w w'))
    case atStart=>exact ⟨(0),(by first|rfl|(simp;done)|(simp [*];done)),H',⟨Nat.le_refl _⟩,⟨by (with_reducible repeat (first|apply Kd.N_alloc|apply Kd.N_drewN|apply Kd.N_drew));exact Kd.N_mono HO_7.out (fun _ hk=>by first|exact ⟨hk.1.1,⟨hk.2,⟨hk.1.2.1,⟨hk.1.2.2.1,hk.1.2.2.2⟩⟩⟩⟩|simp_all)⟩,⟨by (with_reducible repeat (first|apply Kd.N_alloc|apply Kd.N_drewN|apply Kd.N_drew));exact Kd.N_mono HO_9.out (fun _ hk=>by first|exact ⟨hk.1.1,⟨hk.2,⟨hk.1.2.1,⟨hk.1.2.2.1,hk.1.2.2.2⟩⟩⟩⟩|simp_all)⟩,⟨by (with_reducible repeat (first|apply Kd.N_alloc|apply Kd.N_drewN|apply Kd.N_drew));exact HO538.out⟩,⟨by (with_reducible repeat (first|apply Kd.R_alloc|apply Kd.R_drewN|apply Kd.R_drew));exact HO_519000.out⟩,⟨by (with_reducible repeat (first|refine blk_drewN ?_ _|refine blk_drew ?_|refine blk_alloc ?_ _));exact BK510.out⟩,⟨by (with_reducible repeat (first|refine blk_drewN ?_ _|refine blk_drew ?_|refine blk_alloc ?_ _));exact BK518.out⟩,⟨by repeat (first|(with_reducible first|exact HB.out|apply below_alloc|apply pw_below_drewN|apply below_drew1|refine below_set ?_ GE510.out|refine below_set ?_ GE518.out)|exact HB.out)⟩⟩
    case round =>
     clear H'
     try clear c1
     try clear c2
     try clear p2
     try clear c5
     try clear p5
     try clear q5
     try clear hx5
     try clear c6
     try clear p6
     try clear c8
     try clear c9
     try clear c10
     try clear c11
     try clear c12
     try clear c17
     try clear c17b0
     try clear c18
     try clear c18b0
     try clear c19
     try clear c20
     try clear c29
     try clear hcz13_0
     try clear hcz13_1
     try clear hcz13_2
     try clear hcz13_3
     try clear hcz30_0
     try clear hcz30_1
     try clear hcz30_2
     try clear hcz30_3
     try clear hcz8_0
     try clear hcz8_1
     try clear hcz8_10
     try clear hcz8_11
     try clear hcz8_2
     try clear hcz8_3
     try clear hcz8_4
     try clear hcz8_5
     try clear hcz8_6
     try clear hcz8_7
     try clear hcz8_8
     try clear hcz8_9
     try clear hfz13_0
     try clear hfz13_1
     try clear hfz13_2
     try clear hfz13_3
     try clear hfz30_0
     try clear hfz30_1
     try clear hfz30_2
     try clear hfz30_3
     try clear hfz8_0
     try clear hfz8_1
     try clear hfz8_10
     try clear hfz8_11
     try clear hfz8_2
     try clear hfz8_3
     try clear hfz8_4
     try clear hfz8_5
     try clear hfz8_6
     try clear hfz8_7
     try clear hfz8_8
     try clear hfz8_9
     try clear hx525_0
     try clear hx529_0
     try clear p2
     try clear p525
     try clear p529
     try clear q525
     try clear q529
     obtain ⟨x12_2,rfl,HA,HK2,HO_7,HO_9,HO_11,HO_519000,BK510,BK518,HB⟩:=hrel
     cases gk with
     | zero=>exact absurd HA.out (by simp [thresherlaw14_MergeCounts.l1])
     | succ k2 =>
      have H:=HA.out
      clear HA
      simp only [thresherlaw14_MergeCounts.l1] at H
      by_cases c32 : x12_2 < (t519.length : Int)
      ·rw [if_pos c32] at H
       have c32b0 : decide (x12_2 < (t519.length : Int))=true:=decide_eq_true c32
       clear c32
       by_cases c33 : 0≤x12_2
       ·rw [if_pos c33] at H
        have c33b0 : decide (0≤x12_2)=true:=decide_eq_true c33
        clear c33
        by_cases c34 : x12_2 < (x9_1.length : Int)
        ·rw [if_pos c34] at H
         have c34b0 : decide (x12_2 < (x9_1.length : Int))=true:=decide_eq_true c34
         clear c34
         replace H:=Option.bind_eq_some_iff.mp H
         obtain ⟨t541,A350,H⟩:=H
         replace H : (if x12_2≤(wrap64 (x12_2 + 1)) then (if (wrap64 (x12_2 + 1))≤(t519.length : Int) then ((merge_Rows.f k2 t512 t515 t516 t517 ((t519.take ((wrap64 (x12_2 + 1)) : Int).toNat).drop (x12_2 : Int).toNat)).bind fun t547=>((thresherref04_Rows.f k2 t547 (rd_L4 t519 x12_2)).bind fun t551=>(if t541=true then (if t551=true then (thresherlaw14_MergeCounts.l1 k2 t511 t519 x8_1 x9_1 t536 (wrap64 (x12_2 + 1)) t512 t515 t516 t517) else (some false)) else (some false)))) else (none)) else (none))=some r:=H
         have A35:=Aside0.mk A350
         clear A350
         have c36b0:=eq_true (of_decide_eq_true (by first|(with_reducible assumption)|assumption) : 0≤x12_2)
         by_cases c37 : x12_2≤(wrap64 (x12_2 + 1))
         ·rw [if_pos c37] at H
          have c37b0:=eq_true c37
          have c37b1 : decide (x12_2≤(wrap64 (x12_2 + 1)))=true:=decide_eq_true c37
          by_cases c38 : (wrap64 (x12_2 + 1))≤(t519.length : Int)
          ·rw [if_pos c38] at H
           have c38b0:=eq_true c38
           have c38b1 : decide ((wrap64 (x12_2 + 1))≤(t519.length : Int))=true:=decide_eq_true c38
           obtain ⟨y542,hy542⟩ : ∃ y_ : List (List (List (S31))),y_=((t519.take ((wrap64 (x12_2 + 1)) : Int).toNat).drop (x12_2 : Int).toNat):=⟨_,rfl⟩
           replace H : ((merge_Rows.f k2 t512 t515 t516 t517 y542).bind fun t547=>((thresherref04_Rows.f k2 t547 (rd_L4 t519 x12_2)).bind fun t551=>(if t541=true then (if t551=true then (thresherlaw14_MergeCounts.l1 k2 t511 t519 x8_1 x9_1 t536 (wrap64 (x12_2 + 1)) t512 t515 t516 t517) else (some false)) else (some false))))=some r:=by first|(rw [hy542];with_reducible exact H)|(have H2_:=(Option.bind_some _ _).symm.trans H;rw [hy542];with_reducible exact H2_)|(have H2_:=(Option.bind_some _ _).symm.trans H;with_reducible exact H2_)|with_reducible exact H|(rw [hy542];exact H)|exact H
           have Ny542:=Aside0.mk hy542
           clear hy542
           replace H:=Option.bind_eq_some_iff.mp H
           obtain ⟨t547,A390,H⟩:=H
           replace H : ((thresherref04_Rows.f k2 t547 (rd_L4 t519 x12_2)).bind fun t551=>(if t541=true then (if t551=true then (thresherlaw14_MergeCounts.l1 k2 t511 t519 x8_1 x9_1 t536 (wrap64 (x12_2 + 1)) t512 t515 t516 t517) else (some false)) else (some false)))=some r:=H
           have A39:=Aside0.mk A390
           clear A390
           replace H:=Option.bind_eq_some_iff.mp H
           obtain ⟨t551,A400,H⟩:=H
           replace H : (if t541=true then (if t551=true then (thresherlaw14_MergeCounts.l1 k2 t511 t519 x8_1 x9_1 t536 (wrap64 (x12_2 + 1)) t512 t515 t516 t517) else (some false)) else (some false))=some r:=H
           have A40:=Aside0.mk A400
           clear A400
           by_cases c41 : t541=true
           ·subst c41
            have H1 : (if t551=true then (thresherlaw14_MergeCounts.l1 k2 t511 t519 x8_1 x9_1 t536 (wrap64 (x12_2 + 1)) t512 t515 t516 t517) else (some false))=some r:=by rw [if_pos rfl] at H;exact H
            clear H
            have H:=H1
            clear H1
            by_cases c42 : t551=true
            ·subst c42
             have H1 : (thresherlaw14_MergeCounts.l1 k2 t511 t519 x8_1 x9_1 t536 (wrap64 (x12_2 + 1)) t512 t515 t516 t517)=some r:=by rw [if_pos rfl] at H;exact H
             clear H
             have H:=H1
             clear H1
             have H':=Aside0.mk H
             clear H
             try go_wp2
             have n0_:=Aside0.mk (Kd.N_drew HO_7.out)
             have n1_:=Aside0.mk (Kd.N_drew HO_9.out)
             have n2_:=Aside0.mk (Kd.N_drew HO_11.out)
             have n3_:=Aside0.mk (Kd.R_drew HO_519000.out)
             have n4_:=Aside0.mk (blk_drew BK510.out)
             have n5_:=Aside0.mk (blk_drew BK518.out)
             have n6_:=Aside0.mk (below_drew1 HB.out)
             clear HO_7
             clear HO_9
             clear HO_11
             clear HO_519000
             clear BK510
             clear BK518
             clear HB
             have HO_7:=n0_
             have HO_9:=n1_
             have HO_11:=n2_
             have HO_519000:=n3_
             have BK510:=n4_
             have BK518:=n5_
             have HB:=n6_
             clear n0_ n1_ n2_ n3_ n4_ n5_ n6_
             have p539 : 0≤(x12_2 : Int):=of_decide_eq_true (by first|(with_reducible assumption)|assumption)
             have q539 : x12_2 < (t519.length : Int):=of_decide_eq_true (by first|(with_reducible assumption)|assumption)
             obtain ⟨ad539,A539_0,c539_0,e539,hx539_0,hl539_0,hi539_0⟩:=at_L4 (Kd.N_reads' HO_7.out).2.2 x12_2 p539 q539
             cases e539
             obtain ⟨ce539,hce539,hMe539,hcc539⟩:=Kd.N_get HO_7.out [] x12_2 p539 (by first|exact q539|exact of_decide_eq_true (by first|(with_reducible assumption)|assumption)|(have e_:=(Kd.N_reads' HO_7.out).1;omega))
             obtain ⟨ua539_0,uc539_0,rfl,ul539_0,ge539_0⟩:=Kd.FK_slice_open hMe539
             have hv539_0:=hcc539 0 _ rfl
             rw [Nat.add_zero,show ((Kd.slice 33 (Kd.slice 31 k31))).sz=1 from rfl,Nat.mul_one] at hv539_0
             replace hv539_0:=Option.some.inj (hv539_0.symm.trans hx539_0)
             injection hv539_0 with hva_ hvn_ hvc_
             rw [hva_] at ge539_0
             rw [hvc_] at ul539_0
             have HL539_0:=Aside0.mk (show Kd.V (Kd.slice 31 k31) 33 _ w.heap.size _ _ (rd_L4 t519 x12_2) from Kd.V_mk ul539_0 ge539_0)
             clear hva_ hvn_ hvc_ ge539_0 ul539_0
             clear hcc539 hce539
             have HR539_0:=Aside0.mk hi539_0
             have HC539_0:=Aside0.mk hl539_0
             clear hi539_0 hl539_0
             replace p539:=eq_true p539
             replace q539:=eq_true q539
             obtain ⟨Ao44,co44,eo44⟩:=Kd.N_slice HO_9.out
             (first|subst eo44|(injection eo44 with f1_ f2_ f3_;have f4_:=f1_.symm;have f5_:=f3_.symm;clear f1_ f2_ f3_;subst f4_;subst f5_))
             have p540 : 0≤(x12_2 : Int):=of_decide_eq_true (by first|(with_reducible assumption)|assumption)
             have q540 : x12_2 < (x9_1.length : Int):=of_decide_eq_true (by first|(with_reducible assumption)|assumption)
             obtain ⟨ad540,A540_0,c540_0,e540,hx540_0,hl540_0,hi540_0⟩:=at_L4 (Kd.N_reads' HO_9.out).2.2 x12_2 p540 q540
             cases e540
             obtain ⟨ce540,hce540,hMe540,hcc540⟩:=Kd.N_get HO_9.out [] x12_2 p540 (by first|exact q540|exact of_decide_eq_true (by first|(with_reducible assumption)|assumption)|(have e_:=(Kd.N_reads' HO_9.out).1;omega))
             obtain ⟨ua540_0,uc540_0,rfl,ul540_0,ge540_0⟩:=Kd.FK_slice_open hMe540
             have hv540_0:=hcc540 0 _ rfl
             rw [Nat.add_zero,show ((Kd.slice 33 (Kd.slice 31 k31))).sz=1 from rfl,Nat.mul_one] at hv540_0
             replace hv540_0:=Option.some.inj (hv540_0.symm.trans hx540_0)
             injection hv540_0 with hva_ hvn_ hvc_
             rw [hva_] at ge540_0
             rw [hvc_] at ul540_0
             have HL540_0:=Aside0.mk (show Kd.V (Kd.slice 31 k31) 33 _ w.heap.size _ _ (rd_L4 x9_1 x12_2) from Kd.V_mk ul540_0 ge540_0)
             clear hva_ hvn_ hvc_ ge540_0 ul540_0
             clear hcc540 hce540
             have HR540_0:=Aside0.mk hi540_0
             have HC540_0:=Aside0.mk hl540_0
             clear hi540_0 hl540_0
             replace p540:=eq_true p540
             replace q540:=eq_true q540
             refine start_ (n:=10) (S:=fun w'=>w'.cell? (ad539.add (x12_2).toNat)=some (.slice A539_0 (rd_L4 t519 x12_2).length c539_0)∧w'.cell? (ad540.add (x12_2).toNat)=some (.slice A540_0 (rd_L4 x9_1 x12_2).length c540_0)) (ds:=[]) #[false,false,false,false,false,false,false,false,false,false] (by kernel_rfl) rfl rfl ⟨hx539_0,hx540_0⟩ (fun hHeld=>?_);refine with_tabW thresherlaw14_MergeCounts.tab15 thresherlaw14_MergeCounts.bits15 (fun HT_ HW_=>?_)
             generalize wr.drew=w43 at HO_7 HO_9 HO_11 HO_519000 BK510 BK518 HB HL539_0 HL540_0 HR539_0 HR540_0 hx539_0 hx540_0 hHeld ⊢
             refine pure_ (i:=0) (N:=some 54) (v:=?_) (a':=?_) #[true,false,false,false,false,false,false,false,false,false] rfl rfl (any_of HT_.out (by kernel_rfl)) (fun _ _ _ h=>h) (Or.inl ⟨by rfl,?_⟩) ?_ ?_
             rotate_left;(intro w';go_simp;with_reducible rfl);rotate_left;(simp only [Act.put,List.setIfInBounds_toArray,List.set_cons_zero,List.set_cons_succ,i64_w,i32_w];rfl)
             refine pure_ (i:=1) (N:=some 55) (v:=?_) (a':=?_) #[true,true,false,false,false,false,false,false,false,false] rfl rfl (any_of HT_.out (by kernel_rfl)) (fun _ _ _ h=>h) (Or.inl ⟨by rfl,?_⟩) ?_ ?_
             rotate_left;(intro w';go_simp;with_reducible rfl);rotate_left;(simp only [Act.put,List.setIfInBounds_toArray,List.set_cons_zero,List.set_cons_succ,i64_w,i32_w];rfl)
             refine pure_ (i:=2) (N:=some 56) (v:=?_) (a':=?_) #[true,true,true,false,false,false,false,false,false,false] rfl rfl (any_of HT_.out (by kernel_rfl)) (fun _ _ _ h=>h) (Or.inl ⟨by rfl,?_⟩) ?_ ?_
             rotate_left;(intro w';go_simp;with_reducible rfl);rotate_left;(simp only [Act.put,List.setIfInBounds_toArray,List.set_cons_zero,List.set_cons_succ,i64_w,i32_w];rfl)
             refine pure_ (i:=4) (N:=some 58) (v:=?_) (a':=?_) #[true,true,true,false,true,false,false,false,false,false] rfl rfl (any_of HT_.out (by kernel_rfl)) (fun _ _ _ h=>h) (Or.inl ⟨by rfl,?_⟩) ?_ ?_
             rotate_left;(intro w';go_simp;with_reducible rfl);rotate_left;(simp only [Act.put,List.setIfInBounds_toArray,List.set_cons_zero,List.set_cons_succ,i64_w,i32_w];rfl)
             refine pure_ (i:=5) (N:=some 59) (v:=?_) (a':=?_) #[true,true,true,false,true,true,false,false,false,false] rfl rfl (any_of HT_.out (by kernel_rfl)) (fun _ _ _ h=>h) (Or.inl ⟨by rfl,?_⟩) ?_ ?_
             rotate_left;(intro w';go_simp;with_reducible rfl);rotate_left;(simp only [Act.put,List.setIfInBounds_toArray,List.set_cons_zero,List.set_cons_succ,i64_w,i32_w];rfl)
             refine pure_ (i:=6) (N:=some 60) (v:=?_) (a':=?_) #[true,true,true,false,true,true,true,false,false,false] rfl rfl (any_of HT_.out (by kernel_rfl)) (fun _ _ _ h=>h) (Or.inl ⟨by rfl,?_⟩) ?_ ?_
             rotate_left;(intro w';go_simp;with_reducible rfl);rotate_left;(simp only [Act.put,List.setIfInBounds_toArray,List.set_cons_zero,List.set_cons_succ,i64_w,i32_w];rfl)
             refine take_ (i:=3) (N:=some 57) (v:=?_) (a':=?_) #[true,true,true,true,true,true,true,false,false,false] rfl rfl (take_ofW HT_.out HW_.out (by kernel_rfl)) (fun _ _ _ h=>h) (Or.inl ⟨by rfl,?_⟩) hHeld ?_ ?_
             rotate_left;(rintro w' ⟨s0,s1⟩;go_simp;with_reducible rfl);rotate_left;(simp only [Act.put,List.setIfInBounds_toArray,List.set_cons_zero,List.set_cons_succ,i64_w,i32_w];rfl)
             refine take_ (i:=7) (N:=some 61) (v:=?_) (a':=?_) #[true,true,true,true,true,true,true,true,false,false] rfl rfl (take_ofW HT_.out HW_.out (by kernel_rfl)) (fun _ _ _ h=>h) (Or.inl ⟨by rfl,?_⟩) hHeld ?_ ?_
             rotate_left;(rintro w' ⟨s0,s1⟩;go_simp;with_reducible rfl);rotate_left;(simp only [Act.put,List.setIfInBounds_toArray,List.set_cons_zero,List.set_cons_succ,i64_w,i32_w];rfl)
             refine one_ (i:=8) (N:=some 62) #[true,true,true,true,true,true,true,true,true,false] rfl rfl (one_of HT_.out (by kernel_rfl)) (by decide) (fun K hK=>?_)
             refine goes_ Try.func12 (by kernel_rfl) rfl #[.slice A539_0 (rd_L4 t519 x12_2).length c539_0,.slice A540_0 (rd_L4 x9_1 x12_2).length c540_0] (by rfl) rfl rfl (by (try simp only [List.map_toArray,List.map_cons,List.map_nil]);first|done|rfl|(simp only [List.length_drop,List.length_take];rfl)) ?_
             with_reducible refine (thresherref04_Rows.calls k2 _ _ (rd_L4 t519 x12_2) _ _ (rd_L4 x9_1 x12_2) true _ ?side1 ?side2 ?side3 ?side4 A35.out).mono ?_
             (case side1=>repeat (first|exact (by repeat (first|(with_reducible exact HR539_0.out)|(with_reducible refine Kd.C_alloc ?_ _)|(with_reducible refine Kd.C_drewN ?_ _)|(with_reducible refine Kd.C_drew ?_)|exact HR539_0.out))|(with_reducible refine Kd.C_alloc ?_ _)|(with_reducible refine Kd.C_drewN ?_ _)|(with_reducible refine Kd.C_drew ?_)))
             (case side2=>exact HC539_0.out)
             (case side3=>repeat (first|exact (by repeat (first|(with_reducible exact HR540_0.out)|(with_reducible refine Kd.C_alloc ?_ _)|(with_reducible refine Kd.C_drewN ?_ _)|(with_reducible refine Kd.C_drew ?_)|exact HR540_0.out))|(with_reducible refine Kd.C_alloc ?_ _)|(with_reducible refine Kd.C_drewN ?_ _)|(with_reducible refine Kd.C_drew ?_)))
             (case side4=>exact HC540_0.out)
             rintro e w' ⟨rfl,⟨nd,rfl⟩⟩
             refine ⟨_,rfl,?_⟩
             refine hK.out _ _ ⟨hHeld.1,hHeld.2⟩ (fun hHeld=>?_)
             clear hK K
             refine norm_ (a':=?_) ?_ ?_
             rotate_left
             ·show Act.put _ (some 62) _=_
              simp only [Act.put,List.setIfInBounds_toArray,List.set_cons_zero,List.set_cons_succ,i64_w,i32_w]
              rfl
             refine pure_ (i:=9) (N:=some 13) (v:=?_) (a':=?_) #[true,true,true,true,true,true,true,true,true,true] rfl rfl (any_of HT_.out (by kernel_rfl)) (fun _ _ _ h=>h) (Or.inl ⟨by rfl,?_⟩) ?_ ?_
             rotate_left;(intro w';go_simp;with_reducible rfl);rotate_left;(simp only [Act.put,List.setIfInBounds_toArray,List.set_cons_zero,List.set_cons_succ,i64_w,i32_w];rfl)
             refine done_ (done_of HT_.out (by kernel_rfl)) ?_
             (try clear hHeld)
             try go_wp2
             (try (rw [drewN_self w43];generalize hq_ : World.drewN w43 _=w43;have n0_ : Aside0 (Kd.V (Kd.slice 31 k31) 33 w43 w.heap.size (fun k_=>some k_≠(v537 : Value).ownBlock∧some k_≠(.slice Ao11 t512.length co11 : Value).ownBlock∧some k_≠(.slice (some ad539) t519.length co28 : Value).ownBlock∧some k_≠(.slice (some ad540) x9_1.length co44 : Value).ownBlock∧k_≠gb510∧k_≠gb518) (.slice A539_0 (rd_L4 t519 x12_2).length c539_0) (rd_L4 t519 x12_2)):=⟨by rw [← hq_];exact (by (with_reducible repeat (first|apply Kd.V_alloc|apply Kd.V_drewN|apply Kd.V_drew));exact Kd.V_mono HL539_0.out (fun _ hk=>by first|exact ⟨hk.1.2.1,⟨hk.1.2.2.1,⟨hk.2,⟨hk.1.1,⟨hk.1.2.2.2.1,hk.1.2.2.2.2⟩⟩⟩⟩⟩|simp_all))⟩;have n1_ : Aside0 (Kd.V (Kd.slice 31 k31) 33 w43 w.heap.size (fun k_=>some k_≠(v537 : Value).ownBlock∧some k_≠(.slice Ao11 t512.length co11 : Value).ownBlock∧some k_≠(.slice (some ad539) t519.length co28 : Value).ownBlock∧some k_≠(.slice (some ad540) x9_1.length co44 : Value).ownBlock∧k_≠gb510∧k_≠gb518) (.slice A540_0 (rd_L4 x9_1 x12_2).length c540_0) (rd_L4 x9_1 x12_2)):=⟨by rw [← hq_];exact (by (with_reducible repeat (first|apply Kd.V_alloc|apply Kd.V_drewN|apply Kd.V_drew));exact Kd.V_mono HL540_0.out (fun _ hk=>by first|exact ⟨hk.1.2.1,⟨hk.1.2.2.1,⟨hk.1.1,⟨hk.2,⟨hk.1.2.2.2.1,hk.1.2.2.2.2⟩⟩⟩⟩⟩|simp_all))⟩;have n2_ : Aside0 (Kd.N (Kd.slice 31 k31) 33 w43 w.heap.size (fun k_=>some k_≠(.slice Ao11 t512.length co11 : Value).ownBlock∧some k_≠(.slice (some ad540) x9_1.length co44 : Value).ownBlock∧k_≠gb510∧k_≠gb518) v537 t536):=⟨by rw [← hq_];exact (by (with_reducible repeat (first|apply Kd.N_alloc|apply Kd.N_drewN|apply Kd.N_drew));exact Kd.N_mono HO_11.out (fun _ hk=>by first|exact ⟨hk.2.1,⟨hk.1,⟨hk.2.2.1,hk.2.2.2⟩⟩⟩|simp_all))⟩;have n3_ : Aside0 (Kd.R (Kd.int .i64) 3 w43 w.heap.size (fun _=>True) (.slice Ao11 t512.length co11) t512):=⟨by rw [← hq_];exact (R_up HO_519000.out)⟩;have n4_ : Aside0 (Kd.N (Kd.slice 33 (Kd.slice 31 k31)) 28 w43 w.heap.size (fun k_=>some k_≠(v537 : Value).ownBlock∧some k_≠(.slice Ao11 t512.length co11 : Value).ownBlock∧some k_≠(.slice (some ad540) x9_1.length co44 : Value).ownBlock∧k_≠gb510∧k_≠gb518) (.slice (some ad539) t519.length co28) t519):=⟨by rw [← hq_];exact (by (with_reducible repeat (first|apply Kd.N_alloc|apply Kd.N_drewN|apply Kd.N_drew));exact Kd.N_mono HO_7.out (fun _ hk=>by first|exact ⟨hk.2.1,⟨hk.2.2.1,⟨hk.1,⟨hk.2.2.2.1,hk.2.2.2.2⟩⟩⟩⟩|simp_all))⟩;have n5_ : Aside0 (Kd.N (Kd.slice 33 (Kd.slice 31 k31)) 28 w43 w.heap.size (fun k_=>some k_≠(v537 : Value).ownBlock∧some k_≠(.slice Ao11 t512.length co11 : Value).ownBlock∧some k_≠(.slice (some ad539) t519.length co28 : Value).ownBlock∧k_≠gb510∧k_≠gb518) (.slice (some ad540) x9_1.length co44) x9_1):=⟨by rw [← hq_];exact (by (with_reducible repeat (first|apply Kd.N_alloc|apply Kd.N_drewN|apply Kd.N_drew));exact Kd.N_mono HO_9.out (fun _ hk=>by first|exact ⟨hk.2.1,⟨hk.2.2.1,⟨hk.1,⟨hk.2.2.2.1,hk.2.2.2.2⟩⟩⟩⟩|simp_all))⟩;have n6_ : Aside0 (w43.heap[gb510]?=some (.cells #[.int .u8 a0_0,.int .u8 a0_1,.int .u8 a0_2,.int .u8 a0_3,.int .u8 a0_4,.int .u8 a0_5,.int .u8 a0_6,.int .u8 a0_7,.int .u8 a0_8,.int .u8 a0_9,.int .u8 a0_10,.int .u8 a0_11] 38 (0,0))):=⟨by rw [← hq_];exact (blk_up BK510.out)⟩;have n7_ : Aside0 (w43.heap[gb518]?=some (.cells #[.slice Ao11 t512.length co11,.int .i64 t515,.int .i64 t516,.int .i64 t517] 26 (0,0))):=⟨by rw [← hq_];exact (blk_up BK518.out)⟩;have n8_ : Aside0 (Below w.heap.size w w43):=⟨by rw [← hq_];exact (below_go HB.out)⟩;have n9_ : Aside0 (Kd.C (Kd.slice 31 k31) w43 A539_0 (rd_L4 t519 x12_2).length (rd_L4 t519 x12_2)):=⟨by rw [← hq_];exact (by repeat (first|(with_reducible exact HR539_0.out)|(with_reducible refine Kd.C_alloc ?_ _)|(with_reducible refine Kd.C_drewN ?_ _)|(with_reducible refine Kd.C_drew ?_)|exact HR539_0.out))⟩;have n10_ : Aside0 (Kd.C (Kd.slice 31 k31) w43 A540_0 (rd_L4 x9_1 x12_2).length (rd_L4 x9_1 x12_2)):=⟨by rw [← hq_];exact (by repeat (first|(with_reducible exact HR540_0.out)|(with_reducible refine Kd.C_alloc ?_ _)|(with_reducible refine Kd.C_drewN ?_ _)|(with_reducible refine Kd.C_drew ?_)|exact HR540_0.out))⟩;clear HL539_0 HL540_0 HO_11 HO_519000 HO_7 HO_9 BK510 BK518 HB HR539_0 HR540_0 hq_;have HL539_0:=n0_;have HL540_0:=n1_;have HO_11:=n2_;have HO_519000:=n3_;have HO_7:=n4_;have HO_9:=n5_;have BK510:=n6_;have BK518:=n7_;have HB:=n8_;have HR539_0:=n9_;have HR540_0:=n10_;clear n0_ n1_ n2_ n3_ n4_ n5_ n6_ n7_ n8_ n9_ n10_))
             have n0_:=Aside0.mk (Kd.N_drew HO_7.out)
             have n1_:=Aside0.mk (Kd.N_drew HO_9.out)
             have n2_:=Aside0.mk (Kd.N_drew HO_11.out)
             have n3_:=Aside0.mk (Kd.R_drew HO_519000.out)
             have n4_:=Aside0.mk (Kd.V_drew HL539_0.out)
             have n5_:=Aside0.mk (Kd.V_drew HL540_0.out)
             have n6_:=Aside0.mk (blk_drew BK510.out)
             have n7_:=Aside0.mk (blk_drew BK518.out)
             have n8_:=Aside0.mk (Kd.C_drew HR539_0.out)
             have n9_:=Aside0.mk (Kd.C_drew HR540_0.out)
             have n10_:=Aside0.mk (below_drew1 HB.out)
             clear HO_7
             clear HO_9
             clear HO_11
             clear HO_519000
             clear HL539_0
             clear HL540_0
             clear BK510
             clear BK518
             clear HR539_0
             clear HR540_0
             clear HB
             have HO_7:=n0_
             have HO_9:=n1_
             have HO_11:=n2_
             have HO_519000:=n3_
             have HL539_0:=n4_
             have HL540_0:=n5_
             have BK510:=n6_
             have BK518:=n7_
             have HR539_0:=n8_
             have HR540_0:=n9_
             have HB:=n10_
             clear n0_ n1_ n2_ n3_ n4_ n5_ n6_ n7_ n8_ n9_ n10_
             have q46 : ((wrap64 (x12_2 + 1)) : Int)≤((t519.length : Int) : Int):=of_decide_eq_true (by first|(with_reducible assumption)|assumption)
             obtain ⟨i046,hi046,_,hsz46,_⟩:=info_parts info28
             have hroom46 : t519.length≤co28:=(Kd.N_reads' HO_7.out).2.1
             have hC46 : Kd.F (Kd.slice 33 (Kd.slice 31 k31)) _ _ (some ad539) t519.length t519:=(Kd.V_at (base:=w.heap.size) (Kd.N_V HO_7.out)).2.2
             have ql46 : (x12_2 : Int)≤((wrap64 (x12_2 + 1)) : Int):=of_decide_eq_true (by first|(with_reducible assumption)|assumption)
             have q046 : (0 : Int)≤(x12_2 : Int):=of_decide_eq_true (by first|(with_reducible assumption)|assumption)
             have hcut46:=cut_mid (P:=Try.prog) 27 28 .i64 .i64 Try.underlying27 hi046 1 hsz46 (some ad539) t519.length co28 x12_2 (wrap64 (x12_2 + 1)) q046 ql46 q46 hroom46
             have hr46:=Kd.F_mid (lo:=(x12_2 : Int).toNat) (hi:=((wrap64 (x12_2 + 1)) : Int).toNat) (c:=co28) hC46 (by omega) (by omega) hroom46
             obtain ⟨A46,hA46⟩ : ∃ Z_,Z_=(if co28=(x12_2 : Int).toNat then (some ad539) else ((some ad539) : Option Addr).map (·.add ((x12_2 : Int).toNat * 1))):=⟨_,rfl⟩
             obtain ⟨c46,hc46⟩ : ∃ z_,z_=co28 - (x12_2 : Int).toNat:=⟨_,rfl⟩
             have hy46 : y542.length=((wrap64 (x12_2 + 1)) : Int).toNat - (x12_2 : Int).toNat:=(by rw [Ny542.out,List.length_drop,List.length_take] <;> omega)
             rw [show ((t519).take ((wrap64 (x12_2 + 1)) : Int).toNat).drop (x12_2 : Int).toNat=y542 from Ny542.out.symm] at hr46
             replace hr46 : Kd.F (Kd.slice 33 (Kd.slice 31 k31)) _ _ A46 y542.length y542:=(by rw [hA46];exact hr46)
             rw [← hy46,← hA46,← hc46] at hcut46
             have HO546:=Aside0.mk (show Kd.V (Kd.slice 33 (Kd.slice 31 k31)) 28 _ w.heap.size _ (.slice A46 y542.length c46) y542 from Kd.V_mk (by rw [hy46,hc46];exact Nat.sub_le_sub_right (Nat.le_trans (by omega) hroom46) _) hr46)
             have HC546:=Aside0.mk (show y542.length≤c46 from by rw [hy46,hc46];exact Nat.sub_le_sub_right (Nat.le_trans (by omega) hroom46) _)
             clear hr46 hC46 hroom46 hi046 hsz46 hc46
             have KY46:=Aside0.mk hy46
             have KA46:=Aside0.mk hA46
             clear hy46 hA46
             replace q46:=eq_true q46
             have p550 : 0≤(x12_2 : Int):=of_decide_eq_true (by first|(with_reducible assumption)|assumption)
             have q550 : x12_2 < (t519.length : Int):=of_decide_eq_true (by first|(with_reducible assumption)|assumption)
             obtain ⟨ad550,A550_0,c550_0,e550,hx550_0,hl550_0,hi550_0⟩:=at_L4 (Kd.N_reads' HO_7.out).2.2 x12_2 p550 q550
             obtain rfl : ad539=ad550:=(by injection e550)
             obtain ⟨ce550,hce550,hMe550,hcc550⟩:=Kd.N_get HO_7.out [] x12_2 p550 (by first|exact q550|exact of_decide_eq_true (by first|(with_reducible assumption)|assumption)|(have e_:=(Kd.N_reads' HO_7.out).1;omega))
             obtain ⟨ua550_0,uc550_0,rfl,ul550_0,ge550_0⟩:=Kd.FK_slice_open hMe550
             have hv550_0:=hcc550 0 _ rfl
             rw [Nat.add_zero,show ((Kd.slice 33 (Kd.slice 31 k31))).sz=1 from rfl,Nat.mul_one] at hv550_0
             replace hv550_0:=Option.some.inj (hv550_0.symm.trans hx550_0)
             injection hv550_0 with hva_ hvn_ hvc_
             rw [hva_] at ge550_0
             rw [hvc_] at ul550_0
             have HL550_0:=Aside0.mk (show Kd.V (Kd.slice 31 k31) 33 _ w.heap.size _ _ (rd_L4 t519 x12_2) from Kd.V_mk ul550_0 ge550_0)
             clear hva_ hvn_ hvc_ ge550_0 ul550_0
             clear hcc550 hce550
             have HR550_0:=Aside0.mk hi550_0
             have HC550_0:=Aside0.mk hl550_0
             clear hi550_0 hl550_0
             replace p550:=eq_true p550
             replace q550:=eq_true q550
             refine start_ (n:=13) (S:=fun w'=>w'.cell? ⟨gb518,0,none⟩=some (.slice Ao11 t512.length co11)∧w'.cell? ⟨gb518,1,none⟩=some (.int .i64 t515)∧w'.cell? ⟨gb518,2,none⟩=some (.int .i64 t516)∧w'.cell? ⟨gb518,3,none⟩=some (.int .i64 t517)∧w'.cell? (ad539.add (x12_2).toNat)=some (.slice A550_0 (rd_L4 t519 x12_2).length c550_0)) (ds:=[]) #[false,false,false,false,false,false,false,false,false,false,false,false,false] (by kernel_rfl) rfl rfl ⟨(blk_cell BK518.out 0).trans rfl,(blk_cell BK518.out 1).trans rfl,(blk_cell BK518.out 2).trans rfl,(blk_cell BK518.out 3).trans rfl,hx550_0⟩ (fun hHeld=>?_);refine with_tabW thresherlaw14_MergeCounts.tab16 thresherlaw14_MergeCounts.bits16 (fun HT_ HW_=>?_)
             generalize w43.drew=w45 at HO_7 HO_9 HO_11 HO_519000 HL539_0 HL540_0 BK510 BK518 HR539_0 HR540_0 HB HL550_0 HO546 HR550_0 hx550_0 hHeld ⊢
             refine pure_ (i:=1) (N:=some 64) (v:=?_) (a':=?_) #[false,true,false,false,false,false,false,false,false,false,false,false,false] rfl rfl (any_of HT_.out (by kernel_rfl)) (fun _ _ _ h=>h) (Or.inl ⟨by rfl,?_⟩) ?_ ?_
             rotate_left;(intro w';go_simp;with_reducible rfl);rotate_left;(simp only [Act.put,List.setIfInBounds_toArray,List.set_cons_zero,List.set_cons_succ,i64_w,i32_w];rfl)
             refine pure_ (i:=2) (N:=some 65) (v:=?_) (a':=?_) #[false,true,true,false,false,false,false,false,false,false,false,false,false] rfl rfl (any_of HT_.out (by kernel_rfl)) (fun _ _ _ h=>h) (Or.inl ⟨by rfl,?_⟩) ?_ ?_
             rotate_left;(intro w';go_simp;with_reducible rfl);rotate_left;(simp only [Act.put,List.setIfInBounds_toArray,List.set_cons_zero,List.set_cons_succ,i64_w,i32_w];rfl)
             refine pure_ (i:=3) (N:=some 66) (v:=?_) (a':=?_) #[false,true,true,true,false,false,false,false,false,false,false,false,false] rfl rfl (any_of HT_.out (by kernel_rfl)) (fun _ _ _ h=>h) (Or.inl ⟨by rfl,?_⟩) ?_ ?_
             rotate_left;(intro w';go_simp;with_reducible rfl);rotate_left;(simp only [Act.put,List.setIfInBounds_toArray,List.set_cons_zero,List.set_cons_succ,i64_w,i32_w];rfl)
             refine pure_ (i:=4) (N:=some 67) (v:=?_) (a':=?_) #[false,true,true,true,true,false,false,false,false,false,false,false,false] rfl rfl (any_of HT_.out (by kernel_rfl)) (fun _ _ _ h=>h) (Or.inl ⟨by rfl,?_⟩) ?_ ?_
             rotate_left;(intro w';go_simp;with_reducible rfl);rotate_left;(simp only [Act.put,List.setIfInBounds_toArray,List.set_cons_zero,List.set_cons_succ,i64_w,i32_w];rfl)
             refine pure_ (i:=5) (N:=some 68) (v:=?_) (a':=?_) #[false,true,true,true,true,true,false,false,false,false,false,false,false] rfl rfl (any_of HT_.out (by kernel_rfl)) (fun _ _ _ h=>h) (Or.inl ⟨by rfl,?_⟩) ?_ ?_
             rotate_left;(intro w';go_simp;with_reducible rfl);rotate_left;(simp only [Act.put,List.setIfInBounds_toArray,List.set_cons_zero,List.set_cons_succ,i64_w,i32_w];rfl)
             refine pure_ (i:=7) (N:=some 70) (v:=?_) (a':=?_) #[false,true,true,true,true,true,false,true,false,false,false,false,false] rfl rfl (any_of HT_.out (by kernel_rfl)) (fun _ _ _ h=>h) (Or.inl ⟨by rfl,?_⟩) ?_ ?_
             rotate_left;(intro w';go_simp;with_reducible rfl);rotate_left;(simp only [Act.put,List.setIfInBounds_toArray,List.set_cons_zero,List.set_cons_succ,i64_w,i32_w];rfl)
             refine pure_ (i:=8) (N:=some 71) (v:=?_) (a':=?_) #[false,true,true,true,true,true,false,true,true,false,false,false,false] rfl rfl (any_of HT_.out (by kernel_rfl)) (fun _ _ _ h=>h) (Or.inl ⟨by rfl,?_⟩) ?_ ?_
             rotate_left;(intro w';go_simp;with_reducible rfl);rotate_left;(simp only [Act.put,List.setIfInBounds_toArray,List.set_cons_zero,List.set_cons_succ,i64_w,i32_w];rfl)
             refine pure_ (i:=9) (N:=some 72) (v:=?_) (a':=?_) #[false,true,true,true,true,true,false,true,true,true,false,false,false] rfl rfl (any_of HT_.out (by kernel_rfl)) (fun _ _ _ h=>h) (Or.inl ⟨by rfl,?_⟩) ?_ ?_
             rotate_left;(intro w';go_simp;with_reducible rfl);rotate_left;(simp only [Act.put,List.setIfInBounds_toArray,List.set_cons_zero,List.set_cons_succ,i64_w,i32_w];rfl)
             refine take_ (i:=0) (N:=some 63) (v:=?_) (a':=?_) #[true,true,true,true,true,true,false,true,true,true,false,false,false] rfl rfl (take_ofW HT_.out HW_.out (by kernel_rfl)) (fun _ _ _ h=>h) (Or.inl ⟨by rfl,?_⟩) hHeld ?_ ?_
             rotate_left;(rintro w' ⟨s0,s1,s2,s3,s4⟩;go_simp;with_reducible rfl);rotate_left;(simp only [Act.put,List.setIfInBounds_toArray,List.set_cons_zero,List.set_cons_succ,i64_w,i32_w];rfl)
             refine take_ (i:=10) (N:=some 73) (v:=?_) (a':=?_) #[true,true,true,true,true,true,false,true,true,true,true,false,false] rfl rfl (take_ofW HT_.out HW_.out (by kernel_rfl)) (fun _ _ _ h=>h) (Or.inl ⟨by rfl,?_⟩) hHeld ?_ ?_
             rotate_left;(rintro w' ⟨s0,s1,s2,s3,s4⟩;go_simp;with_reducible rfl);rotate_left;(simp only [Act.put,List.setIfInBounds_toArray,List.set_cons_zero,List.set_cons_succ,i64_w,i32_w];rfl)
             refine one_ (i:=6) (N:=some 69) #[true,true,true,true,true,true,true,true,true,true,true,false,false] rfl rfl (one_of HT_.out (by kernel_rfl)) (by decide) (fun K hK=>?_)
             refine goes_ Try.func9 (by kernel_rfl) rfl #[.agg #[.slice Ao11 t512.length co11,.int .i64 t515,.int .i64 t516,.int .i64 t517],.slice A46 y542.length c46] (by rfl) rfl rfl (by (try simp only [List.map_toArray,List.map_cons,List.map_nil]);first|done|rfl|(simp only [List.length_drop,List.length_take];rfl)) ?_
             with_reducible refine (merge_Rows.calls k2 _ _ t512 t515 t516 t517 (fun k_=>(some k_≠(.slice (some ad540) x9_1.length co44 : Value).ownBlock∧(some k_≠(v537 : Value).ownBlock∧(some k_≠(.slice Ao11 t512.length co11 : Value).ownBlock∧(k_≠gb510∧k_≠gb518))))) _ _ y542 t547 _ ?side1 ?side2 ?side3 A39.out).mono ?_
             (case side1=>repeat (first|exact (Kd.R_reads' HO_519000.out).2.2|(with_reducible refine Kd.C_alloc ?_ _)|(with_reducible refine Kd.C_drewN ?_ _)|(with_reducible refine Kd.C_drew ?_)))
             (case side2=>exact (Kd.R_reads' HO_519000.out).2.1)
             (case side3=>first|exact HO546.out|exact Kd.V_mono HO546.out (fun k_ hk_=>by first|(simp only [and_comm,and_left_comm,and_assoc] at hk_ ⊢;exact hk_)|simp_all))
             rintro e w47 ⟨v548,rfl,ho0,hb⟩
             have HS4_:=(hb.cell (World.block_lt_of_cell? _ _ (hHeld.2.2.2.2))).trans (hHeld.2.2.2.2)
             refine ⟨_,rfl,?_⟩
             have n0_:=Aside0.mk (Kd.N_elder' (N_up HO_7.out) (by first|exact Kd.N_base ho0|exact Kd.S_base ho0) hb)
             have n1_:=Aside0.mk (Kd.N_elder' (N_up HO_9.out) (by first|exact Kd.N_base ho0|exact Kd.S_base ho0) hb)
             have n2_:=Aside0.mk (Kd.N_elder' (N_up HO_11.out) (by first|exact Kd.N_base ho0|exact Kd.S_base ho0) hb)
             have n3_:=Aside0.mk (Kd.R_below (R_up HO_519000.out) hb)
             have n4_:=Aside0.mk (Kd.V_elder' (by (with_reducible repeat (first|apply Kd.V_alloc|apply Kd.V_drewN|apply Kd.V_drew));exact HL539_0.out) (by first|exact Kd.N_base ho0|exact Kd.S_base ho0) hb)
             have n5_:=Aside0.mk (Kd.V_elder' (by (with_reducible repeat (first|apply Kd.V_alloc|apply Kd.V_drewN|apply Kd.V_drew));exact HL540_0.out) (by first|exact Kd.N_base ho0|exact Kd.S_base ho0) hb)
             have n6_:=Aside0.mk (Kd.V_elder' (V_up HO546.out) (by first|exact Kd.N_base ho0|exact Kd.S_base ho0) hb)
             have n7_:=Aside0.mk (Kd.V_elder' (by (with_reducible repeat (first|apply Kd.V_alloc|apply Kd.V_drewN|apply Kd.V_drew));exact HL550_0.out) (by first|exact Kd.N_base ho0|exact Kd.S_base ho0) hb)
             have n8_:=Aside0.mk (Kd.N_lower (Kd.N_mono (ok':=fun k_=>some k_≠(.slice (some ad540) x9_1.length co44 : Value).ownBlock∧some k_≠(v537 : Value).ownBlock∧some k_≠(.slice Ao11 t512.length co11 : Value).ownBlock∧k_≠gb510∧k_≠gb518) ho0 (fun k_ hk_=>⟨Or.elim hk_ (fun hs_=>hs_.1) (fun hn_=>(Kd.fresh' (Kd.N_lt (N_up HO_9.out)) k_ hn_)),Or.elim hk_ (fun hs_=>hs_.2.1) (fun hn_=>(Kd.fresh' (Kd.N_lt (N_up HO_11.out)) k_ hn_)),Or.elim hk_ (fun hs_=>hs_.2.2.1) (fun hn_=>(Kd.fresh' (Kd.R_lt (R_up HO_519000.out)) k_ hn_)),Or.elim hk_ (fun hs_=>hs_.2.2.2.1) (fun hn_=>(Kd.freshB (blk_up BK510.out) k_ hn_)),Or.elim hk_ (fun hs_=>hs_.2.2.2.2) (fun hn_=>(Kd.freshB (blk_up BK518.out) k_ hn_))⟩)) (below_size (below_go HB.out)))
             have n9_:=Aside0.mk (blk_below (blk_up BK510.out) hb)
             have n10_:=Aside0.mk (blk_below (blk_up BK518.out) hb)
             have n11_:=Aside0.mk (Kd.C_below (by repeat (first|(with_reducible exact HR539_0.out)|(with_reducible refine Kd.C_alloc ?_ _)|(with_reducible refine Kd.C_drewN ?_ _)|(with_reducible refine Kd.C_drew ?_)|exact HR539_0.out)) hb)
             have n12_:=Aside0.mk (Kd.C_below (by repeat (first|(with_reducible exact HR540_0.out)|(with_reducible refine Kd.C_alloc ?_ _)|(with_reducible refine Kd.C_drewN ?_ _)|(with_reducible refine Kd.C_drew ?_)|exact HR540_0.out)) hb)
             have n13_:=Aside0.mk (Kd.C_below (by repeat (first|(with_reducible exact HR550_0.out)|(with_reducible refine Kd.C_alloc ?_ _)|(with_reducible refine Kd.C_drewN ?_ _)|(with_reducible refine Kd.C_drew ?_)|exact HR550_0.out)) hb)
             have n14_:=Aside0.mk (below_step (below_go HB.out) hb)
             clear HO_7
             clear HO_9
             clear HO_11
             clear HO_519000
             clear HL539_0
             clear HL540_0
             clear HO546
             clear HL550_0
             clear BK510
             clear BK518
             clear HR539_0
             clear HR540_0
             clear HR550_0
             clear HB
             have HO_7:=n0_
             have HO_9:=n1_
             have HO_11:=n2_
             have HO_519000:=n3_
             have HL539_0:=n4_
             have HL540_0:=n5_
             have HO546:=n6_
             have HL550_0:=n7_
             have HO549:=n8_
             have BK510:=n9_
             have BK518:=n10_
             have HR539_0:=n11_
             have HR540_0:=n12_
             have HR550_0:=n13_
             have HB:=n14_
             clear n0_ n1_ n2_ n3_ n4_ n5_ n6_ n7_ n8_ n9_ n10_ n11_ n12_ n13_ n14_
             (try clear hb)
             (try clear hb2)
             (try clear hk)
             (try clear hi)
             (try clear ho0)
             obtain ⟨Ao48,co48,eo48⟩:=Kd.N_slice HO549.out
             (first|subst eo48|(injection eo48 with f1_ f2_ f3_;have f4_:=f1_.symm;have f5_:=f3_.symm;clear f1_ f2_ f3_;subst f4_;subst f5_))
             refine hK.out _ _ ⟨(blk_cell BK518.out 0).trans rfl,(blk_cell BK518.out 1).trans rfl,(blk_cell BK518.out 2).trans rfl,(blk_cell BK518.out 3).trans rfl,HS4_⟩ (fun hHeld=>?_)
             clear hK K
             refine norm_ (a':=?_) ?_ ?_
             rotate_left
             ·show Act.put _ (some 69) _=_
              simp only [Act.put,List.setIfInBounds_toArray,List.set_cons_zero,List.set_cons_succ,i64_w,i32_w]
              rfl
             refine one_ (i:=11) (N:=some 74) #[true,true,true,true,true,true,true,true,true,true,true,true,false] rfl rfl (one_of HT_.out (by kernel_rfl)) (by decide) (fun K hK=>?_)
             refine goes_ Try.func12 (by kernel_rfl) rfl #[.slice Ao48 t547.length co48,.slice A550_0 (rd_L4 t519 x12_2).length c550_0] (by rfl) rfl rfl (by (try simp only [List.map_toArray,List.map_cons,List.map_nil]);first|done|rfl|(simp only [List.length_drop,List.length_take];rfl)) ?_
             with_reducible refine (thresherref04_Rows.calls k2 _ _ t547 _ _ (rd_L4 t519 x12_2) true _ ?side1 ?side2 ?side3 ?side4 A40.out).mono ?_
             (case side1=>repeat (first|exact (Kd.N_reads' HO549.out).2.2|(with_reducible refine Kd.C_alloc ?_ _)|(with_reducible refine Kd.C_drewN ?_ _)|(with_reducible refine Kd.C_drew ?_)))
             (case side2=>exact (Kd.N_reads' HO549.out).2.1)
             (case side3=>repeat (first|exact (by repeat (first|(with_reducible exact HR550_0.out)|(with_reducible refine Kd.C_alloc ?_ _)|(with_reducible refine Kd.C_drewN ?_ _)|(with_reducible refine Kd.C_drew ?_)|exact HR550_0.out))|(with_reducible refine Kd.C_alloc ?_ _)|(with_reducible refine Kd.C_drewN ?_ _)|(with_reducible refine Kd.C_drew ?_)))
             (case side4=>exact HC550_0.out)
             rintro e w' ⟨rfl,⟨nd,rfl⟩⟩
             refine ⟨_,rfl,?_⟩
             refine hK.out _ _ ⟨(blk_cell BK518.out 0).trans rfl,(blk_cell BK518.out 1).trans rfl,(blk_cell BK518.out 2).trans rfl,(blk_cell BK518.out 3).trans rfl,hHeld.2.2.2.2⟩ (fun hHeld=>?_)
             clear hK K
             refine norm_ (a':=?_) ?_ ?_
             rotate_left
             ·show Act.put _ (some 74) _=_
              simp only [Act.put,List.setIfInBounds_toArray,List.set_cons_zero,List.set_cons_succ,i64_w,i32_w]
              rfl
             refine pure_ (i:=12) (N:=some 14) (v:=?_) (a':=?_) #[true,true,true,true,true,true,true,true,true,true,true,true,true] rfl rfl (any_of HT_.out (by kernel_rfl)) (fun _ _ _ h=>h) (Or.inl ⟨by rfl,?_⟩) ?_ ?_
             rotate_left;(intro w';go_simp;with_reducible rfl);rotate_left;(simp only [Act.put,List.setIfInBounds_toArray,List.set_cons_zero,List.set_cons_succ,i64_w,i32_w];rfl)
             refine done_ (done_of HT_.out (by kernel_rfl)) ?_
             (try clear HS4_);(try clear hHeld)
             try go_wp2
             go_roundg k2
             case measure=>have:=HK1.out;have:=HK2.out;omega
             case rel=>exact ⟨(wrap64 (x12_2 + 1)),(by first|rfl|(simp;done)|(simp [*];done)),(by first|exact H'|(subst_vars;exact H')),⟨by have:=HK1.out;have:=HK2.out;omega⟩,⟨by (with_reducible repeat (first|apply Kd.N_alloc|apply Kd.N_drewN|apply Kd.N_drew));exact Kd.N_mono HO_7.out (fun _ hk=>by first|exact ⟨hk.1.1,⟨hk.1.2.1,⟨hk.1.2.2.1,⟨hk.1.2.2.2.1,hk.1.2.2.2.2⟩⟩⟩⟩|simp_all)⟩,⟨by (with_reducible repeat (first|apply Kd.N_alloc|apply Kd.N_drewN|apply Kd.N_drew));exact Kd.N_mono HO_9.out (fun _ hk=>by first|exact ⟨hk.1.1,⟨hk.1.2.1,⟨hk.1.2.2.1,⟨hk.1.2.2.2.1,hk.1.2.2.2.2⟩⟩⟩⟩|simp_all)⟩,⟨by (with_reducible repeat (first|apply Kd.N_alloc|apply Kd.N_drewN|apply Kd.N_drew));exact Kd.N_mono HO_11.out (fun _ hk=>by first|exact ⟨hk.1.1,⟨hk.1.2.1,⟨hk.1.2.2.1,hk.1.2.2.2⟩⟩⟩|simp_all)⟩,⟨by (with_reducible repeat (first|apply Kd.R_alloc|apply Kd.R_drewN|apply Kd.R_drew));exact HO_519000.out⟩,⟨by (with_reducible repeat (first|refine blk_drewN ?_ _|refine blk_drew ?_|refine blk_alloc ?_ _));exact BK510.out⟩,⟨by (with_reducible repeat (first|refine blk_drewN ?_ _|refine blk_drew ?_|refine blk_alloc ?_ _));exact BK518.out⟩,⟨by repeat (first|(with_reducible first|exact HB.out|apply below_alloc|apply pw_below_drewN|apply below_drew1|refine below_set ?_ GE510.out|refine below_set ?_ GE518.out)|exact HB.out)⟩⟩
            ·replace c42:=Bool.eq_false_iff.mpr c42
             subst c42
             have H1 : (some false)=some r:=by rw [if_neg (show ¬ (false=true) by decide)] at H;exact H
             clear H
             have H:=H1
             clear H1
             obtain rfl:=Option.some.inj H
             try go_wp2
             have n0_:=Aside0.mk (Kd.N_drew HO_7.out)
             have n1_:=Aside0.mk (Kd.N_drew HO_9.out)
             have n2_:=Aside0.mk (Kd.N_drew HO_11.out)
             have n3_:=Aside0.mk (Kd.R_drew HO_519000.out)
             have n4_:=Aside0.mk (blk_drew BK510.out)
             have n5_:=Aside0.mk (blk_drew BK518.out)
             have n6_:=Aside0.mk (below_drew1 HB.out)
             clear HO_7
             clear HO_9
             clear HO_11
             clear HO_519000
             clear BK510
             clear BK518
             clear HB
             have HO_7:=n0_
             have HO_9:=n1_
             have HO_11:=n2_
             have HO_519000:=n3_
             have BK510:=n4_
             have BK518:=n5_
             have HB:=n6_
             clear n0_ n1_ n2_ n3_ n4_ n5_ n6_
             have p539 : 0≤(x12_2 : Int):=of_decide_eq_true (by first|(with_reducible assumption)|assumption)
             have q539 : x12_2 < (t519.length : Int):=of_decide_eq_true (by first|(with_reducible assumption)|assumption)
             obtain ⟨ad539,A539_0,c539_0,e539,hx539_0,hl539_0,hi539_0⟩:=at_L4 (Kd.N_reads' HO_7.out).2.2 x12_2 p539 q539
             cases e539
             obtain ⟨ce539,hce539,hMe539,hcc539⟩:=Kd.N_get HO_7.out [] x12_2 p539 (by first|exact q539|exact of_decide_eq_true (by first|(with_reducible assumption)|assumption)|(have e_:=(Kd.N_reads' HO_7.out).1;omega))
             obtain ⟨ua539_0,uc539_0,rfl,ul539_0,ge539_0⟩:=Kd.FK_slice_open hMe539
             have hv539_0:=hcc539 0 _ rfl
             rw [Nat.add_zero,show ((Kd.slice 33 (Kd.slice 31 k31))).sz=1 from rfl,Nat.mul_one] at hv539_0
             replace hv539_0:=Option.some.inj (hv539_0.symm.trans hx539_0)
             injection hv539_0 with hva_ hvn_ hvc_
             rw [hva_] at ge539_0
             rw [hvc_] at ul539_0
             have HL539_0:=Aside0.mk (show Kd.V (Kd.slice 31 k31) 33 _ w.heap.size _ _ (rd_L4 t519 x12_2) from Kd.V_mk ul539_0 ge539_0)
             clear hva_ hvn_ hvc_ ge539_0 ul539_0
             clear hcc539 hce539
             have HR539_0:=Aside0.mk hi539_0
             have HC539_0:=Aside0.mk hl539_0
             clear hi539_0 hl539_0
             replace p539:=eq_true p539
             replace q539:=eq_true q539
             obtain ⟨Ao50,co50,eo50⟩:=Kd.N_slice HO_9.out
             (first|subst eo50|(injection eo50 with f1_ f2_ f3_;have f4_:=f1_.symm;have f5_:=f3_.symm;clear f1_ f2_ f3_;subst f4_;subst f5_))
             have p540 : 0≤(x12_2 : Int):=of_decide_eq_true (by first|(with_reducible assumption)|assumption)
             have q540 : x12_2 < (x9_1.length : Int):=of_decide_eq_true (by first|(with_reducible assumption)|assumption)
             obtain ⟨ad540,A540_0,c540_0,e540,hx540_0,hl540_0,hi540_0⟩:=at_L4 (Kd.N_reads' HO_9.out).2.2 x12_2 p540 q540
             cases e540
             obtain ⟨ce540,hce540,hMe540,hcc540⟩:=Kd.N_get HO_9.out [] x12_2 p540 (by first|exact q540|exact of_decide_eq_true (by first|(with_reducible assumption)|assumption)|(have e_:=(Kd.N_reads' HO_9.out).1;omega))
             obtain ⟨ua540_0,uc540_0,rfl,ul540_0,ge540_0⟩:=Kd.FK_slice_open hMe540
             have hv540_0:=hcc540 0 _ rfl
             rw [Nat.add_zero,show ((Kd.slice 33 (Kd.slice 31 k31))).sz=1 from rfl,Nat.mul_one] at hv540_0
             replace hv540_0:=Option.some.inj (hv540_0.symm.trans hx540_0)
             injection hv540_0 with hva_ hvn_ hvc_
             rw [hva_] at ge540_0
             rw [hvc_] at ul540_0
             have HL540_0:=Aside0.mk (show Kd.V (Kd.slice 31 k31) 33 _ w.heap.size _ _ (rd_L4 x9_1 x12_2) from Kd.V_mk ul540_0 ge540_0)
             clear hva_ hvn_ hvc_ ge540_0 ul540_0
             clear hcc540 hce540
             have HR540_0:=Aside0.mk hi540_0
             have HC540_0:=Aside0.mk hl540_0
             clear hi540_0 hl540_0
             replace p540:=eq_true p540
             replace q540:=eq_true q540
             refine start_ (n:=10) (S:=fun w'=>w'.cell? (ad539.add (x12_2).toNat)=some (.slice A539_0 (rd_L4 t519 x12_2).length c539_0)∧w'.cell? (ad540.add (x12_2).toNat)=some (.slice A540_0 (rd_L4 x9_1 x12_2).length c540_0)) (ds:=[]) #[false,false,false,false,false,false,false,false,false,false] (by kernel_rfl) rfl rfl ⟨hx539_0,hx540_0⟩ (fun hHeld=>?_);refine with_tabW thresherlaw14_MergeCounts.tab15 thresherlaw14_MergeCounts.bits15 (fun HT_ HW_=>?_)
             generalize wr.drew=w49 at HO_7 HO_9 HO_11 HO_519000 BK510 BK518 HB HL539_0 HL540_0 HR539_0 HR540_0 hx539_0 hx540_0 hHeld ⊢
             refine pure_ (i:=0) (N:=some 54) (v:=?_) (a':=?_) #[true,false,false,false,false,false,false,false,false,false] rfl rfl (any_of HT_.out (by kernel_rfl)) (fun _ _ _ h=>h) (Or.inl ⟨by rfl,?_⟩) ?_ ?_
             rotate_left;(intro w';go_simp;with_reducible rfl);rotate_left;(simp only [Act.put,List.setIfInBounds_toArray,List.set_cons_zero,List.set_cons_succ,i64_w,i32_w];rfl)
             refine pure_ (i:=1) (N:=some 55) (v:=?_) (a':=?_) #[true,true,false,false,false,false,false,false,false,false] rfl rfl (any_of HT_.out (by kernel_rfl)) (fun _ _ _ h=>h) (Or.inl ⟨by rfl,?_⟩) ?_ ?_
             rotate_left;(intro w';go_simp;with_reducible rfl);rotate_left;(simp only [Act.put,List.setIfInBounds_toArray,List.set_cons_zero,List.set_cons_succ,i64_w,i32_w];rfl)
             refine pure_ (i:=2) (N:=some 56) (v:=?_) (a':=?_) #[true,true,true,false,false,false,false,false,false,false] rfl rfl (any_of HT_.out (by kernel_rfl)) (fun _ _ _ h=>h) (Or.inl ⟨by rfl,?_⟩) ?_ ?_
             rotate_left;(intro w';go_simp;with_reducible rfl);rotate_left;(simp only [Act.put,List.setIfInBounds_toArray,List.set_cons_zero,List.set_cons_succ,i64_w,i32_w];rfl)
             refine pure_ (i:=4) (N:=some 58) (v:=?_) (a':=?_) #[true,true,true,false,true,false,false,false,false,false] rfl rfl (any_of HT_.out (by kernel_rfl)) (fun _ _ _ h=>h) (Or.inl ⟨by rfl,?_⟩) ?_ ?_
             rotate_left;(intro w';go_simp;with_reducible rfl);rotate_left;(simp only [Act.put,List.setIfInBounds_toArray,List.set_cons_zero,List.set_cons_succ,i64_w,i32_w];rfl)
             refine pure_ (i:=5) (N:=some 59) (v:=?_) (a':=?_) #[true,true,true,false,true,true,false,false,false,false] rfl rfl (any_of HT_.out (by kernel_rfl)) (fun _ _ _ h=>h) (Or.inl ⟨by rfl,?_⟩) ?_ ?_
             rotate_left;(intro w';go_simp;with_reducible rfl);rotate_left;(simp only [Act.put,List.setIfInBounds_toArray,List.set_cons_zero,List.set_cons_succ,i64_w,i32_w];rfl)
             refine pure_ (i:=6) (N:=some 60) (v:=?_) (a':=?_) #[true,true,true,false,true,true,true,false,false,false] rfl rfl (any_of HT_.out (by kernel_rfl)) (fun _ _ _ h=>h) (Or.inl ⟨by rfl,?_⟩) ?_ ?_
             rotate_left;(intro w';go_simp;with_reducible rfl);rotate_left;(simp only [Act.put,List.setIfInBounds_toArray,List.set_cons_zero,List.set_cons_succ,i64_w,i32_w];rfl)
             refine take_ (i:=3) (N:=some 57) (v:=?_) (a':=?_) #[true,true,true,true,true,true,true,false,false,false] rfl rfl (take_ofW HT_.out HW_.out (by kernel_rfl)) (fun _ _ _ h=>h) (Or.inl ⟨by rfl,?_⟩) hHeld ?_ ?_
             rotate_left;(rintro w' ⟨s0,s1⟩;go_simp;with_reducible rfl);rotate_left;(simp only [Act.put,List.setIfInBounds_toArray,List.set_cons_zero,List.set_cons_succ,i64_w,i32_w];rfl)
             refine take_ (i:=7) (N:=some 61) (v:=?_) (a':=?_) #[true,true,true,true,true,true,true,true,false,false] rfl rfl (take_ofW HT_.out HW_.out (by kernel_rfl)) (fun _ _ _ h=>h) (Or.inl ⟨by rfl,?_⟩) hHeld ?_ ?_
             rotate_left;(rintro w' ⟨s0,s1⟩;go_simp;with_reducible rfl);rotate_left;(simp only [Act.put,List.setIfInBounds_toArray,List.set_cons_zero,List.set_cons_succ,i64_w,i32_w];rfl)
             refine one_ (i:=8) (N:=some 62) #[true,true,true,true,true,true,true,true,true,false] rfl rfl (one_of HT_.out (by kernel_rfl)) (by decide) (fun K hK=>?_)
             refine goes_ Try.func12 (by kernel_rfl) rfl #[.slice A539_0 (rd_L4 t519 x12_2).length c539_0,.slice A540_0 (rd_L4 x9_1 x12_2).length c540_0] (by rfl) rfl rfl (by (try simp only [List.map_toArray,List.map_cons,List.map_nil]);first|done|rfl|(simp only [List.length_drop,List.length_take];rfl)) ?_
             with_reducible refine (thresherref04_Rows.calls k2 _ _ (rd_L4 t519 x12_2) _ _ (rd_L4 x9_1 x12_2) true _ ?side1 ?side2 ?side3 ?side4 A35.out).mono ?_
             (case side1=>repeat (first|exact (by repeat (first|(with_reducible exact HR539_0.out)|(with_reducible refine Kd.C_alloc ?_ _)|(with_reducible refine Kd.C_drewN ?_ _)|(with_reducible refine Kd.C_drew ?_)|exact HR539_0.out))|(with_reducible refine Kd.C_alloc ?_ _)|(with_reducible refine Kd.C_drewN ?_ _)|(with_reducible refine Kd.C_drew ?_)))
             (case side2=>exact HC539_0.out)
             (case side3=>repeat (first|exact (by repeat (first|(with_reducible exact HR540_0.out)|(with_reducible refine Kd.C_alloc ?_ _)|(with_reducible refine Kd.C_drewN ?_ _)|(with_reducible refine Kd.C_drew ?_)|exact HR540_0.out))|(with_reducible refine Kd.C_alloc ?_ _)|(with_reducible refine Kd.C_drewN ?_ _)|(with_reducible refine Kd.C_drew ?_)))
             (case side4=>exact HC540_0.out)
             rintro e w' ⟨rfl,⟨nd,rfl⟩⟩
             refine ⟨_,rfl,?_⟩
             refine hK.out _ _ ⟨hHeld.1,hHeld.2⟩ (fun hHeld=>?_)
             clear hK K
             refine norm_ (a':=?_) ?_ ?_
             rotate_left
             ·show Act.put _ (some 62) _=_
              simp only [Act.put,List.setIfInBounds_toArray,List.set_cons_zero,List.set_cons_succ,i64_w,i32_w]
              rfl
             refine pure_ (i:=9) (N:=some 13) (v:=?_) (a':=?_) #[true,true,true,true,true,true,true,true,true,true] rfl rfl (any_of HT_.out (by kernel_rfl)) (fun _ _ _ h=>h) (Or.inl ⟨by rfl,?_⟩) ?_ ?_
             rotate_left;(intro w';go_simp;with_reducible rfl);rotate_left;(simp only [Act.put,List.setIfInBounds_toArray,List.set_cons_zero,List.set_cons_succ,i64_w,i32_w];rfl)
             refine done_ (done_of HT_.out (by kernel_rfl)) ?_
             (try clear hHeld)
             try go_wp2
             (try (rw [drewN_self w49];generalize hq_ : World.drewN w49 _=w49;have n0_ : Aside0 (Kd.V (Kd.slice 31 k31) 33 w49 w.heap.size (fun k_=>some k_≠(v537 : Value).ownBlock∧some k_≠(.slice Ao11 t512.length co11 : Value).ownBlock∧some k_≠(.slice (some ad539) t519.length co28 : Value).ownBlock∧some k_≠(.slice (some ad540) x9_1.length co50 : Value).ownBlock∧k_≠gb510∧k_≠gb518) (.slice A539_0 (rd_L4 t519 x12_2).length c539_0) (rd_L4 t519 x12_2)):=⟨by rw [← hq_];exact (by (with_reducible repeat (first|apply Kd.V_alloc|apply Kd.V_drewN|apply Kd.V_drew));exact Kd.V_mono HL539_0.out (fun _ hk=>by first|exact ⟨hk.1.2.1,⟨hk.1.2.2.1,⟨hk.2,⟨hk.1.1,⟨hk.1.2.2.2.1,hk.1.2.2.2.2⟩⟩⟩⟩⟩|simp_all))⟩;have n1_ : Aside0 (Kd.V (Kd.slice 31 k31) 33 w49 w.heap.size (fun k_=>some k_≠(v537 : Value).ownBlock∧some k_≠(.slice Ao11 t512.length co11 : Value).ownBlock∧some k_≠(.slice (some ad539) t519.length co28 : Value).ownBlock∧some k_≠(.slice (some ad540) x9_1.length co50 : Value).ownBlock∧k_≠gb510∧k_≠gb518) (.slice A540_0 (rd_L4 x9_1 x12_2).length c540_0) (rd_L4 x9_1 x12_2)):=⟨by rw [← hq_];exact (by (with_reducible repeat (first|apply Kd.V_alloc|apply Kd.V_drewN|apply Kd.V_drew));exact Kd.V_mono HL540_0.out (fun _ hk=>by first|exact ⟨hk.1.2.1,⟨hk.1.2.2.1,⟨hk.1.1,⟨hk.2,⟨hk.1.2.2.2.1,hk.1.2.2.2.2⟩⟩⟩⟩⟩|simp_all))⟩;have n2_ : Aside0 (Kd.N (Kd.slice 31 k31) 33 w49 w.heap.size (fun k_=>some k_≠(.slice Ao11 t512.length co11 : Value).ownBlock∧some k_≠(.slice (some ad540) x9_1.length co50 : Value).ownBlock∧k_≠gb510∧k_≠gb518) v537 t536):=⟨by rw [← hq_];exact (by (with_reducible repeat (first|apply Kd.N_alloc|apply Kd.N_drewN|apply Kd.N_drew));exact Kd.N_mono HO_11.out (fun _ hk=>by first|exact ⟨hk.2.1,⟨hk.1,⟨hk.2.2.1,hk.2.2.2⟩⟩⟩|simp_all))⟩;have n3_ : Aside0 (Kd.R (Kd.int .i64) 3 w49 w.heap.size (fun _=>True) (.slice Ao11 t512.length co11) t512):=⟨by rw [← hq_];exact (R_up HO_519000.out)⟩;have n4_ : Aside0 (Kd.N (Kd.slice 33 (Kd.slice 31 k31)) 28 w49 w.heap.size (fun k_=>some k_≠(v537 : Value).ownBlock∧some k_≠(.slice Ao11 t512.length co11 : Value).ownBlock∧some k_≠(.slice (some ad540) x9_1.length co50 : Value).ownBlock∧k_≠gb510∧k_≠gb518) (.slice (some ad539) t519.length co28) t519):=⟨by rw [← hq_];exact (by (with_reducible repeat (first|apply Kd.N_alloc|apply Kd.N_drewN|apply Kd.N_drew));exact Kd.N_mono HO_7.out (fun _ hk=>by first|exact ⟨hk.2.1,⟨hk.2.2.1,⟨hk.1,⟨hk.2.2.2.1,hk.2.2.2.2⟩⟩⟩⟩|simp_all))⟩;have n5_ : Aside0 (Kd.N (Kd.slice 33 (Kd.slice 31 k31)) 28 w49 w.heap.size (fun k_=>some k_≠(v537 : Value).ownBlock∧some k_≠(.slice Ao11 t512.length co11 : Value).ownBlock∧some k_≠(.slice (some ad539) t519.length co28 : Value).ownBlock∧k_≠gb510∧k_≠gb518) (.slice (some ad540) x9_1.length co50) x9_1):=⟨by rw [← hq_];exact (by (with_reducible repeat (first|apply Kd.N_alloc|apply Kd.N_drewN|apply Kd.N_drew));exact Kd.N_mono HO_9.out (fun _ hk=>by first|exact ⟨hk.2.1,⟨hk.2.2.1,⟨hk.1,⟨hk.2.2.2.1,hk.2.2.2.2⟩⟩⟩⟩|simp_all))⟩;have n6_ : Aside0 (w49.heap[gb510]?=some (.cells #[.int .u8 a0_0,.int .u8 a0_1,.int .u8 a0_2,.int .u8 a0_3,.int .u8 a0_4,.int .u8 a0_5,.int .u8 a0_6,.int .u8 a0_7,.int .u8 a0_8,.int .u8 a0_9,.int .u8 a0_10,.int .u8 a0_11] 38 (0,0))):=⟨by rw [← hq_];exact (blk_up BK510.out)⟩;have n7_ : Aside0 (w49.heap[gb518]?=some (.cells #[.slice Ao11 t512.length co11,.int .i64 t515,.int .i64 t516,.int .i64 t517] 26 (0,0))):=⟨by rw [← hq_];exact (blk_up BK518.out)⟩;have n8_ : Aside0 (Below w.heap.size w w49):=⟨by rw [← hq_];exact (below_go HB.out)⟩;have n9_ : Aside0 (Kd.C (Kd.slice 31 k31) w49 A539_0 (rd_L4 t519 x12_2).length (rd_L4 t519 x12_2)):=⟨by rw [← hq_];exact (by repeat (first|(with_reducible exact HR539_0.out)|(with_reducible refine Kd.C_alloc ?_ _)|(with_reducible refine Kd.C_drewN ?_ _)|(with_reducible refine Kd.C_drew ?_)|exact HR539_0.out))⟩;have n10_ : Aside0 (Kd.C (Kd.slice 31 k31) w49 A540_0 (rd_L4 x9_1 x12_2).length (rd_L4 x9_1 x12_2)):=⟨by rw [← hq_];exact (by repeat (first|(with_reducible exact HR540_0.out)|(with_reducible refine Kd.C_alloc ?_ _)|(with_reducible refine Kd.C_drewN ?_ _)|(with_reducible refine Kd.C_drew ?_)|exact HR540_0.out))⟩;clear HL539_0 HL540_0 HO_11 HO_519000 HO_7 HO_9 BK510 BK518 HB HR539_0 HR540_0 hq_;have HL539_0:=n0_;have HL540_0:=n1_;have HO_11:=n2_;have HO_519000:=n3_;have HO_7:=n4_;have HO_9:=n5_;have BK510:=n6_;have BK518:=n7_;have HB:=n8_;have HR539_0:=n9_;have HR540_0:=n10_;clear n0_ n1_ n2_ n3_ n4_ n5_ n6_ n7_ n8_ n9_ n10_))
             have n0_:=Aside0.mk (Kd.N_drew HO_7.out)
             have n1_:=Aside0.mk (Kd.N_drew HO_9.out)
             have n2_:=Aside0.mk (Kd.N_drew HO_11.out)
             have n3_:=Aside0.mk (Kd.R_drew HO_519000.out)
             have n4_:=Aside0.mk (Kd.V_drew HL539_0.out)
             have n5_:=Aside0.mk (Kd.V_drew HL540_0.out)
             have n6_:=Aside0.mk (blk_drew BK510.out)
             have n7_:=Aside0.mk (blk_drew BK518.out)
             have n8_:=Aside0.mk (Kd.C_drew HR539_0.out)
             have n9_:=Aside0.mk (Kd.C_drew HR540_0.out)
             have n10_:=Aside0.mk (below_drew1 HB.out)
             clear HO_7
             clear HO_9
             clear HO_11
             clear HO_519000
             clear HL539_0
             clear HL540_0
             clear BK510
             clear BK518
             clear HR539_0
             clear HR540_0
             clear HB
             have HO_7:=n0_
             have HO_9:=n1_
             have HO_11:=n2_
             have HO_519000:=n3_
             have HL539_0:=n4_
             have HL540_0:=n5_
             have BK510:=n6_
             have BK518:=n7_
             have HR539_0:=n8_
             have HR540_0:=n9_
             have HB:=n10_
             clear n0_ n1_ n2_ n3_ n4_ n5_ n6_ n7_ n8_ n9_ n10_
             have q52 : ((wrap64 (x12_2 + 1)) : Int)≤((t519.length : Int) : Int):=of_decide_eq_true (by first|(with_reducible assumption)|assumption)
             obtain ⟨i052,hi052,_,hsz52,_⟩:=info_parts info28
             have hroom52 : t519.length≤co28:=(Kd.N_reads' HO_7.out).2.1
             have hC52 : Kd.F (Kd.slice 33 (Kd.slice 31 k31)) _ _ (some ad539) t519.length t519:=(Kd.V_at (base:=w.heap.size) (Kd.N_V HO_7.out)).2.2
             have ql52 : (x12_2 : Int)≤((wrap64 (x12_2 + 1)) : Int):=of_decide_eq_true (by first|(with_reducible assumption)|assumption)
             have q052 : (0 : Int)≤(x12_2 : Int):=of_decide_eq_true (by first|(with_reducible assumption)|assumption)
             have hcut52:=cut_mid (P:=Try.prog) 27 28 .i64 .i64 Try.underlying27 hi052 1 hsz52 (some ad539) t519.length co28 x12_2 (wrap64 (x12_2 + 1)) q052 ql52 q52 hroom52
             have hr52:=Kd.F_mid (lo:=(x12_2 : Int).toNat) (hi:=((wrap64 (x12_2 + 1)) : Int).toNat) (c:=co28) hC52 (by omega) (by omega) hroom52
             obtain ⟨A52,hA52⟩ : ∃ Z_,Z_=(if co28=(x12_2 : Int).toNat then (some ad539) else ((some ad539) : Option Addr).map (·.add ((x12_2 : Int).toNat * 1))):=⟨_,rfl⟩
             obtain ⟨c52,hc52⟩ : ∃ z_,z_=co28 - (x12_2 : Int).toNat:=⟨_,rfl⟩
             have hy52 : y542.length=((wrap64 (x12_2 + 1)) : Int).toNat - (x12_2 : Int).toNat:=(by rw [Ny542.out,List.length_drop,List.length_take] <;> omega)
             rw [show ((t519).take ((wrap64 (x12_2 + 1)) : Int).toNat).drop (x12_2 : Int).toNat=y542 from Ny542.out.symm] at hr52
             replace hr52 : Kd.F (Kd.slice 33 (Kd.slice 31 k31)) _ _ A52 y542.length y542:=(by rw [hA52];exact hr52)
             rw [← hy52,← hA52,← hc52] at hcut52
             have HO546:=Aside0.mk (show Kd.V (Kd.slice 33 (Kd.slice 31 k31)) 28 _ w.heap.size _ (.slice A52 y542.length c52) y542 from Kd.V_mk (by rw [hy52,hc52];exact Nat.sub_le_sub_right (Nat.le_trans (by omega) hroom52) _) hr52)
             have HC546:=Aside0.mk (show y542.length≤c52 from by rw [hy52,hc52];exact Nat.sub_le_sub_right (Nat.le_trans (by omega) hroom52) _)
             clear hr52 hC52 hroom52 hi052 hsz52 hc52
             have KY52:=Aside0.mk hy52
             have KA52:=Aside0.mk hA52
             clear hy52 hA52
             replace q52:=eq_true q52
             have p550 : 0≤(x12_2 : Int):=of_decide_eq_true (by first|(with_reducible assumption)|assumption)
             have q550 : x12_2 < (t519.length : Int):=of_decide_eq_true (by first|(with_reducible assumption)|assumption)
             obtain ⟨ad550,A550_0,c550_0,e550,hx550_0,hl550_0,hi550_0⟩:=at_L4 (Kd.N_reads' HO_7.out).2.2 x12_2 p550 q550
             obtain rfl : ad539=ad550:=(by injection e550)
             obtain ⟨ce550,hce550,hMe550,hcc550⟩:=Kd.N_get HO_7.out [] x12_2 p550 (by first|exact q550|exact of_decide_eq_true (by first|(with_reducible assumption)|assumption)|(have e_:=(Kd.N_reads' HO_7.out).1;omega))
             obtain ⟨ua550_0,uc550_0,rfl,ul550_0,ge550_0⟩:=Kd.FK_slice_open hMe550
             have hv550_0:=hcc550 0 _ rfl
             rw [Nat.add_zero,show ((Kd.slice 33 (Kd.slice 31 k31))).sz=1 from rfl,Nat.mul_one] at hv550_0
             replace hv550_0:=Option.some.inj (hv550_0.symm.trans hx550_0)
             injection hv550_0 with hva_ hvn_ hvc_
             rw [hva_] at ge550_0
             rw [hvc_] at ul550_0
             have HL550_0:=Aside0.mk (show Kd.V (Kd.slice 31 k31) 33 _ w.heap.size _ _ (rd_L4 t519 x12_2) from Kd.V_mk ul550_0 ge550_0)
             clear hva_ hvn_ hvc_ ge550_0 ul550_0
             clear hcc550 hce550
             have HR550_0:=Aside0.mk hi550_0
             have HC550_0:=Aside0.mk hl550_0
             clear hi550_0 hl550_0
             replace p550:=eq_true p550
             replace q550:=eq_true q550
             refine start_ (n:=13) (S:=fun w'=>w'.cell? ⟨gb518,0,none⟩=some (.slice Ao11 t512.length co11)∧w'.cell? ⟨gb518,1,none⟩=some (.int .i64 t515)∧w'.cell? ⟨gb518,2,none⟩=some (.int .i64 t516)∧w'.cell? ⟨gb518,3,none⟩=some (.int .i64 t517)∧w'.cell? (ad539.add (x12_2).toNat)=some (.slice A550_0 (rd_L4 t519 x12_2).length c550_0)) (ds:=[]) #[false,false,false,false,false,false,false,false,false,false,false,false,false] (by kernel_rfl) rfl rfl ⟨(blk_cell BK518.out 0).trans rfl,(blk_cell BK518.out 1).trans rfl,(blk_cell BK518.out 2).trans rfl,(blk_cell BK518.out 3).trans rfl,hx550_0⟩ (fun hHeld=>?_);refine with_tabW thresherlaw14_MergeCounts.tab16 thresherlaw14_MergeCounts.bits16 (fun HT_ HW_=>?_)
             generalize w49.drew=w51 at HO_7 HO_9 HO_11 HO_519000 HL539_0 HL540_0 BK510 BK518 HR539_0 HR540_0 HB HL550_0 HO546 HR550_0 hx550_0 hHeld ⊢
             refine pure_ (i:=1) (N:=some 64) (v:=?_) (a':=?_) #[false,true,false,false,false,false,false,false,false,false,false,false,false] rfl rfl (any_of HT_.out (by kernel_rfl)) (fun _ _ _ h=>h) (Or.inl ⟨by rfl,?_⟩) ?_ ?_
             rotate_left;(intro w';go_simp;with_reducible rfl);rotate_left;(simp only [Act.put,List.setIfInBounds_toArray,List.set_cons_zero,List.set_cons_succ,i64_w,i32_w];rfl)
             refine pure_ (i:=2) (N:=some 65) (v:=?_) (a':=?_) #[false,true,true,false,false,false,false,false,false,false,false,false,false] rfl rfl (any_of HT_.out (by kernel_rfl)) (fun _ _ _ h=>h) (Or.inl ⟨by rfl,?_⟩) ?_ ?_
             rotate_left;(intro w';go_simp;with_reducible rfl);rotate_left;(simp only [Act.put,List.setIfInBounds_toArray,List.set_cons_zero,List.set_cons_succ,i64_w,i32_w];rfl)
             refine pure_ (i:=3) (N:=some 66) (v:=?_) (a':=?_) #[false,true,true,true,false,false,false,false,false,false,false,false,false] rfl rfl (any_of HT_.out (by kernel_rfl)) (fun _ _ _ h=>h) (Or.inl ⟨by rfl,?_⟩) ?_ ?_
             rotate_left;(intro w';go_simp;with_reducible rfl);rotate_left;(simp only [Act.put,List.setIfInBounds_toArray,List.set_cons_zero,List.set_cons_succ,i64_w,i32_w];rfl)
             refine pure_ (i:=4) (N:=some 67) (v:=?_) (a':=?_) #[false,true,true,true,true,false,false,false,false,false,false,false,false] rfl rfl (any_of HT_.out (by kernel_rfl)) (fun _ _ _ h=>h) (Or.inl ⟨by rfl,?_⟩) ?_ ?_
             rotate_left;(intro w';go_simp;with_reducible rfl);rotate_left;(simp only [Act.put,List.setIfInBounds_toArray,List.set_cons_zero,List.set_cons_succ,i64_w,i32_w];rfl)
             refine pure_ (i:=5) (N:=some 68) (v:=?_) (a':=?_) #[false,true,true,true,true,true,false,false,false,false,false,false,false] rfl rfl (any_of HT_.out (by kernel_rfl)) (fun _ _ _ h=>h) (Or.inl ⟨by rfl,?_⟩) ?_ ?_
             rotate_left;(intro w';go_simp;with_reducible rfl);rotate_left;(simp only [Act.put,List.setIfInBounds_toArray,List.set_cons_zero,List.set_cons_succ,i64_w,i32_w];rfl)
             refine pure_ (i:=7) (N:=some 70) (v:=?_) (a':=?_) #[false,true,true,true,true,true,false,true,false,false,false,false,false] rfl rfl (any_of HT_.out (by kernel_rfl)) (fun _ _ _ h=>h) (Or.inl ⟨by rfl,?_⟩) ?_ ?_
             rotate_left;(intro w';go_simp;with_reducible rfl);rotate_left;(simp only [Act.put,List.setIfInBounds_toArray,List.set_cons_zero,List.set_cons_succ,i64_w,i32_w];rfl)
             refine pure_ (i:=8) (N:=some 71) (v:=?_) (a':=?_) #[false,true,true,true,true,true,false,true,true,false,false,false,false] rfl rfl (any_of HT_.out (by kernel_rfl)) (fun _ _ _ h=>h) (Or.inl ⟨by rfl,?_⟩) ?_ ?_
             rotate_left;(intro w';go_simp;with_reducible rfl);rotate_left;(simp only [Act.put,List.setIfInBounds_toArray,List.set_cons_zero,List.set_cons_succ,i64_w,i32_w];rfl)
             refine pure_ (i:=9) (N:=some 72) (v:=?_) (a':=?_) #[false,true,true,true,true,true,false,true,true,true,false,false,false] rfl rfl (any_of HT_.out (by kernel_rfl)) (fun _ _ _ h=>h) (Or.inl ⟨by rfl,?_⟩) ?_ ?_
             rotate_left;(intro w';go_simp;with_reducible rfl);rotate_left;(simp only [Act.put,List.setIfInBounds_toArray,List.set_cons_zero,List.set_cons_succ,i64_w,i32_w];rfl)
             refine take_ (i:=0) (N:=some 63) (v:=?_) (a':=?_) #[true,true,true,true,true,true,false,true,true,true,false,false,false] rfl rfl (take_ofW HT_.out HW_.out (by kernel_rfl)) (fun _ _ _ h=>h) (Or.inl ⟨by rfl,?_⟩) hHeld ?_ ?_
             rotate_left;(rintro w' ⟨s0,s1,s2,s3,s4⟩;go_simp;with_reducible rfl);rotate_left;(simp only [Act.put,List.setIfInBounds_toArray,List.set_cons_zero,List.set_cons_succ,i64_w,i32_w];rfl)
             refine take_ (i:=10) (N:=some 73) (v:=?_) (a':=?_) #[true,true,true,true,true,true,false,true,true,true,true,false,false] rfl rfl (take_ofW HT_.out HW_.out (by kernel_rfl)) (fun _ _ _ h=>h) (Or.inl ⟨by rfl,?_⟩) hHeld ?_ ?_
             rotate_left;(rintro w' ⟨s0,s1,s2,s3,s4⟩;go_simp;with_reducible rfl);rotate_left;(simp only [Act.put,List.setIfInBounds_toArray,List.set_cons_zero,List.set_cons_succ,i64_w,i32_w];rfl)
             refine one_ (i:=6) (N:=some 69) #[true,true,true,true,true,true,true,true,true,true,true,false,false] rfl rfl (one_of HT_.out (by kernel_rfl)) (by decide) (fun K hK=>?_)
             refine goes_ Try.func9 (by kernel_rfl) rfl #[.agg #[.slice Ao11 t512.length co11,.int .i64 t515,.int .i64 t516,.int .i64 t517],.slice A52 y542.length c52] (by rfl) rfl rfl (by (try simp only [List.map_toArray,List.map_cons,List.map_nil]);first|done|rfl|(simp only [List.length_drop,List.length_take];rfl)) ?_
             with_reducible refine (merge_Rows.calls k2 _ _ t512 t515 t516 t517 (fun k_=>(some k_≠(.slice (some ad540) x9_1.length co50 : Value).ownBlock∧(some k_≠(v537 : Value).ownBlock∧(some k_≠(.slice Ao11 t512.length co11 : Value).ownBlock∧(k_≠gb510∧k_≠gb518))))) _ _ y542 t547 _ ?side1 ?side2 ?side3 A39.out).mono ?_
             (case side1=>repeat (first|exact (Kd.R_reads' HO_519000.out).2.2|(with_reducible refine Kd.C_alloc ?_ _)|(with_reducible refine Kd.C_drewN ?_ _)|(with_reducible refine Kd.C_drew ?_)))
             (case side2=>exact (Kd.R_reads' HO_519000.out).2.1)
             (case side3=>first|exact HO546.out|exact Kd.V_mono HO546.out (fun k_ hk_=>by first|(simp only [and_comm,and_left_comm,and_assoc] at hk_ ⊢;exact hk_)|simp_all))
             rintro e w53 ⟨v548,rfl,ho0,hb⟩
             have HS4_:=(hb.cell (World.block_lt_of_cell? _ _ (hHeld.2.2.2.2))).trans (hHeld.2.2.2.2)
             refine ⟨_,rfl,?_⟩
             have n0_:=Aside0.mk (Kd.N_elder' (N_up HO_7.out) (by first|exact Kd.N_base ho0|exact Kd.S_base ho0) hb)
             have n1_:=Aside0.mk (Kd.N_elder' (N_up HO_9.out) (by first|exact Kd.N_base ho0|exact Kd.S_base ho0) hb)
             have n2_:=Aside0.mk (Kd.N_elder' (N_up HO_11.out) (by first|exact Kd.N_base ho0|exact Kd.S_base ho0) hb)
             have n3_:=Aside0.mk (Kd.R_below (R_up HO_519000.out) hb)
             have n4_:=Aside0.mk (Kd.V_elder' (by (with_reducible repeat (first|apply Kd.V_alloc|apply Kd.V_drewN|apply Kd.V_drew));exact HL539_0.out) (by first|exact Kd.N_base ho0|exact Kd.S_base ho0) hb)
             have n5_:=Aside0.mk (Kd.V_elder' (by (with_reducible repeat (first|apply Kd.V_alloc|apply Kd.V_drewN|apply Kd.V_drew));exact HL540_0.out) (by first|exact Kd.N_base ho0|exact Kd.S_base ho0) hb)
             have n6_:=Aside0.mk (Kd.V_elder' (V_up HO546.out) (by first|exact Kd.N_base ho0|exact Kd.S_base ho0) hb)
             have n7_:=Aside0.mk (Kd.V_elder' (by (with_reducible repeat (first|apply Kd.V_alloc|apply Kd.V_drewN|apply Kd.V_drew));exact HL550_0.out) (by first|exact Kd.N_base ho0|exact Kd.S_base ho0) hb)
             have n8_:=Aside0.mk (Kd.N_lower (Kd.N_mono (ok':=fun k_=>some k_≠(.slice (some ad540) x9_1.length co50 : Value).ownBlock∧some k_≠(v537 : Value).ownBlock∧some k_≠(.slice Ao11 t512.length co11 : Value).ownBlock∧k_≠gb510∧k_≠gb518) ho0 (fun k_ hk_=>⟨Or.elim hk_ (fun hs_=>hs_.1) (fun hn_=>(Kd.fresh' (Kd.N_lt (N_up HO_9.out)) k_ hn_)),Or.elim hk_ (fun hs_=>hs_.2.1) (fun hn_=>(Kd.fresh' (Kd.N_lt (N_up HO_11.out)) k_ hn_)),Or.elim hk_ (fun hs_=>hs_.2.2.1) (fun hn_=>(Kd.fresh' (Kd.R_lt (R_up HO_519000.out)) k_ hn_)),Or.elim hk_ (fun hs_=>hs_.2.2.2.1) (fun hn_=>(Kd.freshB (blk_up BK510.out) k_ hn_)),Or.elim hk_ (fun hs_=>hs_.2.2.2.2) (fun hn_=>(Kd.freshB (blk_up BK518.out) k_ hn_))⟩)) (below_size (below_go HB.out)))
             have n9_:=Aside0.mk (blk_below (blk_up BK510.out) hb)
             have n10_:=Aside0.mk (blk_below (blk_up BK518.out) hb)
             have n11_:=Aside0.mk (Kd.C_below (by repeat (first|(with_reducible exact HR539_0.out)|(with_reducible refine Kd.C_alloc ?_ _)|(with_reducible refine Kd.C_drewN ?_ _)|(with_reducible refine Kd.C_drew ?_)|exact HR539_0.out)) hb)
             have n12_:=Aside0.mk (Kd.C_below (by repeat (first|(with_reducible exact HR540_0.out)|(with_reducible refine Kd.C_alloc ?_ _)|(with_reducible refine Kd.C_drewN ?_ _)|(with_reducible refine Kd.C_drew ?_)|exact HR540_0.out)) hb)
             have n13_:=Aside0.mk (Kd.C_below (by repeat (first|(with_reducible exact HR550_0.out)|(with_reducible refine Kd.C_alloc ?_ _)|(with_reducible refine Kd.C_drewN ?_ _)|(with_reducible refine Kd.C_drew ?_)|exact HR550_0.out)) hb)
             have n14_:=Aside0.mk (below_step (below_go HB.out) hb)
             clear HO_7
             clear HO_9
             clear HO_11
             clear HO_519000
             clear HL539_0
             clear HL540_0
             clear HO546
             clear HL550_0
             clear BK510
             clear BK518
             clear HR539_0
             clear HR540_0
             clear HR550_0
             clear HB
             have HO_7:=n0_
             have HO_9:=n1_
             have HO_11:=n2_
             have HO_519000:=n3_
             have HL539_0:=n4_
             have HL540_0:=n5_
             have HO546:=n6_
             have HL550_0:=n7_
             have HO549:=n8_
             have BK510:=n9_
             have BK518:=n10_
             have HR539_0:=n11_
             have HR540_0:=n12_
             have HR550_0:=n13_
             have HB:=n14_
             clear n0_ n1_ n2_ n3_ n4_ n5_ n6_ n7_ n8_ n9_ n10_ n11_ n12_ n13_ n14_
             (try clear hb)
             (try clear hb2)
             (try clear hk)
             (try clear hi)
             (try clear ho0)
             obtain ⟨Ao54,co54,eo54⟩:=Kd.N_slice HO549.out
             (first|subst eo54|(injection eo54 with f1_ f2_ f3_;have f4_:=f1_.symm;have f5_:=f3_.symm;clear f1_ f2_ f3_;subst f4_;subst f5_))
             refine hK.out _ _ ⟨(blk_cell BK518.out 0).trans rfl,(blk_cell BK518.out 1).trans rfl,(blk_cell BK518.out 2).trans rfl,(blk_cell BK518.out 3).trans rfl,HS4_⟩ (fun hHeld=>?_)
             clear hK K
             refine norm_ (a':=?_) ?_ ?_
             rotate_left
             ·show Act.put _ (some 69) _=_
              simp only [Act.put,List.setIfInBounds_toArray,List.set_cons_zero,List.set_cons_succ,i64_w,i32_w]
              rfl
             refine one_ (i:=11) (N:=some 74) #[true,true,true,true,true,true,true,true,true,true,true,true,false] rfl rfl (one_of HT_.out (by kernel_rfl)) (by decide) (fun K hK=>?_)
             refine goes_ Try.func12 (by kernel_rfl) rfl #[.slice Ao54 t547.length co54,.slice A550_0 (rd_L4 t519 x12_2).length c550_0] (by rfl) rfl rfl (by (try simp only [List.map_toArray,List.map_cons,List.map_nil]);first|done|rfl|(simp only [List.length_drop,List.length_take];rfl)) ?_
             with_reducible refine (thresherref04_Rows.calls k2 _ _ t547 _ _ (rd_L4 t519 x12_2) false _ ?side1 ?side2 ?side3 ?side4 A40.out).mono ?_
             (case side1=>repeat (first|exact (Kd.N_reads' HO549.out).2.2|(with_reducible refine Kd.C_alloc ?_ _)|(with_reducible refine Kd.C_drewN ?_ _)|(with_reducible refine Kd.C_drew ?_)))
             (case side2=>exact (Kd.N_reads' HO549.out).2.1)
             (case side3=>repeat (first|exact (by repeat (first|(with_reducible exact HR550_0.out)|(with_reducible refine Kd.C_alloc ?_ _)|(with_reducible refine Kd.C_drewN ?_ _)|(with_reducible refine Kd.C_drew ?_)|exact HR550_0.out))|(with_reducible refine Kd.C_alloc ?_ _)|(with_reducible refine Kd.C_drewN ?_ _)|(with_reducible refine Kd.C_drew ?_)))
             (case side4=>exact HC550_0.out)
             rintro e w' ⟨rfl,⟨nd,rfl⟩⟩
             refine ⟨_,rfl,?_⟩
             refine hK.out _ _ ⟨(blk_cell BK518.out 0).trans rfl,(blk_cell BK518.out 1).trans rfl,(blk_cell BK518.out 2).trans rfl,(blk_cell BK518.out 3).trans rfl,hHeld.2.2.2.2⟩ (fun hHeld=>?_)
             clear hK K
             refine norm_ (a':=?_) ?_ ?_
             rotate_left
             ·show Act.put _ (some 74) _=_
              simp only [Act.put,List.setIfInBounds_toArray,List.set_cons_zero,List.set_cons_succ,i64_w,i32_w]
              rfl
             refine pure_ (i:=12) (N:=some 14) (v:=?_) (a':=?_) #[true,true,true,true,true,true,true,true,true,true,true,true,true] rfl rfl (any_of HT_.out (by kernel_rfl)) (fun _ _ _ h=>h) (Or.inl ⟨by rfl,?_⟩) ?_ ?_
             rotate_left;(intro w';go_simp;with_reducible rfl);rotate_left;(simp only [Act.put,List.setIfInBounds_toArray,List.set_cons_zero,List.set_cons_succ,i64_w,i32_w];rfl)
             refine done_ (done_of HT_.out (by kernel_rfl)) ?_
             (try clear HS4_);(try clear hHeld)
             try go_wp2
             go_ret
             exact ⟨by first|rfl|(simp [errW_none,errW_some] <;> rfl)|(simp [*,errW_none,errW_some] <;> rfl),by repeat (first|(with_reducible first|exact HB.out|apply below_alloc|apply pw_below_drewN|apply below_drew1|refine below_set ?_ GE510.out|refine below_set ?_ GE518.out)|exact HB.out)⟩
           ·replace c41:=Bool.eq_false_iff.mpr c41
            subst c41
            have H1 : (some false)=some r:=by rw [if_neg (show ¬ (false=true) by decide)] at H;exact H
            clear H
            have H:=H1
            clear H1
            obtain rfl:=Option.some.inj H
            try go_wp2
            have n0_:=Aside0.mk (Kd.N_drew HO_7.out)
            have n1_:=Aside0.mk (Kd.N_drew HO_9.out)
            have n2_:=Aside0.mk (Kd.N_drew HO_11.out)
            have n3_:=Aside0.mk (Kd.R_drew HO_519000.out)
            have n4_:=Aside0.mk (blk_drew BK510.out)
            have n5_:=Aside0.mk (blk_drew BK518.out)
            have n6_:=Aside0.mk (below_drew1 HB.out)
            clear HO_7
            clear HO_9
            clear HO_11
            clear HO_519000
            clear BK510
            clear BK518
            clear HB
            have HO_7:=n0_
            have HO_9:=n1_
            have HO_11:=n2_
            have HO_519000:=n3_
            have BK510:=n4_
            have BK518:=n5_
            have HB:=n6_
            clear n0_ n1_ n2_ n3_ n4_ n5_ n6_
            have p539 : 0≤(x12_2 : Int):=of_decide_eq_true (by first|(with_reducible assumption)|assumption)
            have q539 : x12_2 < (t519.length : Int):=of_decide_eq_true (by first|(with_reducible assumption)|assumption)
            obtain ⟨ad539,A539_0,c539_0,e539,hx539_0,hl539_0,hi539_0⟩:=at_L4 (Kd.N_reads' HO_7.out).2.2 x12_2 p539 q539
            cases e539
            obtain ⟨ce539,hce539,hMe539,hcc539⟩:=Kd.N_get HO_7.out [] x12_2 p539 (by first|exact q539|exact of_decide_eq_true (by first|(with_reducible assumption)|assumption)|(have e_:=(Kd.N_reads' HO_7.out).1;omega))
            obtain ⟨ua539_0,uc539_0,rfl,ul539_0,ge539_0⟩:=Kd.FK_slice_open hMe539
            have hv539_0:=hcc539 0 _ rfl
            rw [Nat.add_zero,show ((Kd.slice 33 (Kd.slice 31 k31))).sz=1 from rfl,Nat.mul_one] at hv539_0
            replace hv539_0:=Option.some.inj (hv539_0.symm.trans hx539_0)
            injection hv539_0 with hva_ hvn_ hvc_
            rw [hva_] at ge539_0
            rw [hvc_] at ul539_0
            have HL539_0:=Aside0.mk (show Kd.V (Kd.slice 31 k31) 33 _ w.heap.size _ _ (rd_L4 t519 x12_2) from Kd.V_mk ul539_0 ge539_0)
            clear hva_ hvn_ hvc_ ge539_0 ul539_0
            clear hcc539 hce539
            have HR539_0:=Aside0.mk hi539_0
            have HC539_0:=Aside0.mk hl539_0
            clear hi539_0 hl539_0
            replace p539:=eq_true p539
            replace q539:=eq_true q539
            obtain ⟨Ao56,co56,eo56⟩:=Kd.N_slice HO_9.out
            (first|subst eo56|(injection eo56 with f1_ f2_ f3_;have f4_:=f1_.symm;have f5_:=f3_.symm;clear f1_ f2_ f3_;subst f4_;subst f5_))
            have p540 : 0≤(x12_2 : Int):=of_decide_eq_true (by first|(with_reducible assumption)|assumption)
            have q540 : x12_2 < (x9_1.length : Int):=of_decide_eq_true (by first|(with_reducible assumption)|assumption)
            obtain ⟨ad540,A540_0,c540_0,e540,hx540_0,hl540_0,hi540_0⟩:=at_L4 (Kd.N_reads' HO_9.out).2.2 x12_2 p540 q540
            cases e540
            obtain ⟨ce540,hce540,hMe540,hcc540⟩:=Kd.N_get HO_9.out [] x12_2 p540 (by first|exact q540|exact of_decide_eq_true (by first|(with_reducible assumption)|assumption)|(have e_:=(Kd.N_reads' HO_9.out).1;omega))
            obtain ⟨ua540_0,uc540_0,rfl,ul540_0,ge540_0⟩:=Kd.FK_slice_open hMe540
            have hv540_0:=hcc540 0 _ rfl
            rw [Nat.add_zero,show ((Kd.slice 33 (Kd.slice 31 k31))).sz=1 from rfl,Nat.mul_one] at hv540_0
            replace hv540_0:=Option.some.inj (hv540_0.symm.trans hx540_0)
            injection hv540_0 with hva_ hvn_ hvc_
            rw [hva_] at ge540_0
            rw [hvc_] at ul540_0
            have HL540_0:=Aside0.mk (show Kd.V (Kd.slice 31 k31) 33 _ w.heap.size _ _ (rd_L4 x9_1 x12_2) from Kd.V_mk ul540_0 ge540_0)
            clear hva_ hvn_ hvc_ ge540_0 ul540_0
            clear hcc540 hce540
            have HR540_0:=Aside0.mk hi540_0
            have HC540_0:=Aside0.mk hl540_0
            clear hi540_0 hl540_0
            replace p540:=eq_true p540
            replace q540:=eq_true q540
            refine start_ (n:=10) (S:=fun w'=>w'.cell? (ad539.add (x12_2).toNat)=some (.slice A539_0 (rd_L4 t519 x12_2).length c539_0)∧w'.cell? (ad540.add (x12_2).toNat)=some (.slice A540_0 (rd_L4 x9_1 x12_2).length c540_0)) (ds:=[]) #[false,false,false,false,false,false,false,false,false,false] (by kernel_rfl) rfl rfl ⟨hx539_0,hx540_0⟩ (fun hHeld=>?_);refine with_tabW thresherlaw14_MergeCounts.tab15 thresherlaw14_MergeCounts.bits15 (fun HT_ HW_=>?_)
            generalize wr.drew=w55 at HO_7 HO_9 HO_11 HO_519000 BK510 BK518 HB HL539_0 HL540_0 HR539_0 HR540_0 hx539_0 hx540_0 hHeld ⊢
            refine pure_ (i:=0) (N:=some 54) (v:=?_) (a':=?_) #[true,false,false,false,false,false,false,false,false,false] rfl rfl (any_of HT_.out (by kernel_rfl)) (fun _ _ _ h=>h) (Or.inl ⟨by rfl,?_⟩) ?_ ?_
            rotate_left;(intro w';go_simp;with_reducible rfl);rotate_left;(simp only [Act.put,List.setIfInBounds_toArray,List.set_cons_zero,List.set_cons_succ,i64_w,i32_w];rfl)
            refine pure_ (i:=1) (N:=some 55) (v:=?_) (a':=?_) #[true,true,false,false,false,false,false,false,false,false] rfl rfl (any_of HT_.out (by kernel_rfl)) (fun _ _ _ h=>h) (Or.inl ⟨by rfl,?_⟩) ?_ ?_
            rotate_left;(intro w';go_simp;with_reducible rfl);rotate_left;(simp only [Act.put,List.setIfInBounds_toArray,List.set_cons_zero,List.set_cons_succ,i64_w,i32_w];rfl)
            refine pure_ (i:=2) (N:=some 56) (v:=?_) (a':=?_) #[true,true,true,false,false,false,false,false,false,false] rfl rfl (any_of HT_.out (by kernel_rfl)) (fun _ _ _ h=>h) (Or.inl ⟨by rfl,?_⟩) ?_ ?_
            rotate_left;(intro w';go_simp;with_reducible rfl);rotate_left;(simp only [Act.put,List.setIfInBounds_toArray,List.set_cons_zero,List.set_cons_succ,i64_w,i32_w];rfl)
            refine pure_ (i:=4) (N:=some 58) (v:=?_) (a':=?_) #[true,true,true,false,true,false,false,false,false,false] rfl rfl (any_of HT_.out (by kernel_rfl)) (fun _ _ _ h=>h) (Or.inl ⟨by rfl,?_⟩) ?_ ?_
            rotate_left;(intro w';go_simp;with_reducible rfl);rotate_left;(simp only [Act.put,List.setIfInBounds_toArray,List.set_cons_zero,List.set_cons_succ,i64_w,i32_w];rfl)
            refine pure_ (i:=5) (N:=some 59) (v:=?_) (a':=?_) #[true,true,true,false,true,true,false,false,false,false] rfl rfl (any_of HT_.out (by kernel_rfl)) (fun _ _ _ h=>h) (Or.inl ⟨by rfl,?_⟩) ?_ ?_
            rotate_left;(intro w';go_simp;with_reducible rfl);rotate_left;(simp only [Act.put,List.setIfInBounds_toArray,List.set_cons_zero,List.set_cons_succ,i64_w,i32_w];rfl)
            refine pure_ (i:=6) (N:=some 60) (v:=?_) (a':=?_) #[true,true,true,false,true,true,true,false,false,false] rfl rfl (any_of HT_.out (by kernel_rfl)) (fun _ _ _ h=>h) (Or.inl ⟨by rfl,?_⟩) ?_ ?_
            rotate_left;(intro w';go_simp;with_reducible rfl);rotate_left;(simp only [Act.put,List.setIfInBounds_toArray,List.set_cons_zero,List.set_cons_succ,i64_w,i32_w];rfl)
            refine take_ (i:=3) (N:=some 57) (v:=?_) (a':=?_) #[true,true,true,true,true,true,true,false,false,false] rfl rfl (take_ofW HT_.out HW_.out (by kernel_rfl)) (fun _ _ _ h=>h) (Or.inl ⟨by rfl,?_⟩) hHeld ?_ ?_
            rotate_left;(rintro w' ⟨s0,s1⟩;go_simp;with_reducible rfl);rotate_left;(simp only [Act.put,List.setIfInBounds_toArray,List.set_cons_zero,List.set_cons_succ,i64_w,i32_w];rfl)
            refine take_ (i:=7) (N:=some 61) (v:=?_) (a':=?_) #[true,true,true,true,true,true,true,true,false,false] rfl rfl (take_ofW HT_.out HW_.out (by kernel_rfl)) (fun _ _ _ h=>h) (Or.inl ⟨by rfl,?_⟩) hHeld ?_ ?_
            rotate_left;(rintro w' ⟨s0,s1⟩;go_simp;with_reducible rfl);rotate_left;(simp only [Act.put,List.setIfInBounds_toArray,List.set_cons_zero,List.set_cons_succ,i64_w,i32_w];rfl)
            refine one_ (i:=8) (N:=some 62) #[true,true,true,true,true,true,true,true,true,false] rfl rfl (one_of HT_.out (by kernel_rfl)) (by decide) (fun K hK=>?_)
            refine goes_ Try.func12 (by kernel_rfl) rfl #[.slice A539_0 (rd_L4 t519 x12_2).length c539_0,.slice A540_0 (rd_L4 x9_1 x12_2).length c540_0] (by rfl) rfl rfl (by (try simp only [List.map_toArray,List.map_cons,List.map_nil]);first|done|rfl|(simp only [List.length_drop,List.length_take];rfl)) ?_
            with_reducible refine (thresherref04_Rows.calls k2 _ _ (rd_L4 t519 x12_2) _ _ (rd_L4 x9_1 x12_2) false _ ?side1 ?side2 ?side3 ?side4 A35.out).mono ?_
            (case side1=>repeat (first|exact (by repeat (first|(with_reducible exact HR539_0.out)|(with_reducible refine Kd.C_alloc ?_ _)|(with_reducible refine Kd.C_drewN ?_ _)|(with_reducible refine Kd.C_drew ?_)|exact HR539_0.out))|(with_reducible refine Kd.C_alloc ?_ _)|(with_reducible refine Kd.C_drewN ?_ _)|(with_reducible refine Kd.C_drew ?_)))
            (case side2=>exact HC539_0.out)
            (case side3=>repeat (first|exact (by repeat (first|(with_reducible exact HR540_0.out)|(with_reducible refine Kd.C_alloc ?_ _)|(with_reducible refine Kd.C_drewN ?_ _)|(with_reducible refine Kd.C_drew ?_)|exact HR540_0.out))|(with_reducible refine Kd.C_alloc ?_ _)|(with_reducible refine Kd.C_drewN ?_ _)|(with_reducible refine Kd.C_drew ?_)))
            (case side4=>exact HC540_0.out)
            rintro e w' ⟨rfl,⟨nd,rfl⟩⟩
            refine ⟨_,rfl,?_⟩
            refine hK.out _ _ ⟨hHeld.1,hHeld.2⟩ (fun hHeld=>?_)
            clear hK K
            refine norm_ (a':=?_) ?_ ?_
            rotate_left
            ·show Act.put _ (some 62) _=_
             simp only [Act.put,List.setIfInBounds_toArray,List.set_cons_zero,List.set_cons_succ,i64_w,i32_w]
             rfl
            refine pure_ (i:=9) (N:=some 13) (v:=?_) (a':=?_) #[true,true,true,true,true,true,true,true,true,true] rfl rfl (any_of HT_.out (by kernel_rfl)) (fun _ _ _ h=>h) (Or.inl ⟨by rfl,?_⟩) ?_ ?_
            rotate_left;(intro w';go_simp;with_reducible rfl);rotate_left;(simp only [Act.put,List.setIfInBounds_toArray,List.set_cons_zero,List.set_cons_succ,i64_w,i32_w];rfl)
            refine done_ (done_of HT_.out (by kernel_rfl)) ?_
            (try clear hHeld)
            try go_wp2
            (try (rw [drewN_self w55];generalize hq_ : World.drewN w55 _=w55;have n0_ : Aside0 (Kd.V (Kd.slice 31 k31) 33 w55 w.heap.size (fun k_=>some k_≠(v537 : Value).ownBlock∧some k_≠(.slice Ao11 t512.length co11 : Value).ownBlock∧some k_≠(.slice (some ad539) t519.length co28 : Value).ownBlock∧some k_≠(.slice (some ad540) x9_1.length co56 : Value).ownBlock∧k_≠gb510∧k_≠gb518) (.slice A539_0 (rd_L4 t519 x12_2).length c539_0) (rd_L4 t519 x12_2)):=⟨by rw [← hq_];exact (by (with_reducible repeat (first|apply Kd.V_alloc|apply Kd.V_drewN|apply Kd.V_drew));exact Kd.V_mono HL539_0.out (fun _ hk=>by first|exact ⟨hk.1.2.1,⟨hk.1.2.2.1,⟨hk.2,⟨hk.1.1,⟨hk.1.2.2.2.1,hk.1.2.2.2.2⟩⟩⟩⟩⟩|simp_all))⟩;have n1_ : Aside0 (Kd.V (Kd.slice 31 k31) 33 w55 w.heap.size (fun k_=>some k_≠(v537 : Value).ownBlock∧some k_≠(.slice Ao11 t512.length co11 : Value).ownBlock∧some k_≠(.slice (some ad539) t519.length co28 : Value).ownBlock∧some k_≠(.slice (some ad540) x9_1.length co56 : Value).ownBlock∧k_≠gb510∧k_≠gb518) (.slice A540_0 (rd_L4 x9_1 x12_2).length c540_0) (rd_L4 x9_1 x12_2)):=⟨by rw [← hq_];exact (by (with_reducible repeat (first|apply Kd.V_alloc|apply Kd.V_drewN|apply Kd.V_drew));exact Kd.V_mono HL540_0.out (fun _ hk=>by first|exact ⟨hk.1.2.1,⟨hk.1.2.2.1,⟨hk.1.1,⟨hk.2,⟨hk.1.2.2.2.1,hk.1.2.2.2.2⟩⟩⟩⟩⟩|simp_all))⟩;have n2_ : Aside0 (Kd.N (Kd.slice 31 k31) 33 w55 w.heap.size (fun k_=>some k_≠(.slice Ao11 t512.length co11 : Value).ownBlock∧some k_≠(.slice (some ad540) x9_1.length co56 : Value).ownBlock∧k_≠gb510∧k_≠gb518) v537 t536):=⟨by rw [← hq_];exact (by (with_reducible repeat (first|apply Kd.N_alloc|apply Kd.N_drewN|apply Kd.N_drew));exact Kd.N_mono HO_11.out (fun _ hk=>by first|exact ⟨hk.2.1,⟨hk.1,⟨hk.2.2.1,hk.2.2.2⟩⟩⟩|simp_all))⟩;have n3_ : Aside0 (Kd.R (Kd.int .i64) 3 w55 w.heap.size (fun _=>True) (.slice Ao11 t512.length co11) t512):=⟨by rw [← hq_];exact (R_up HO_519000.out)⟩;have n4_ : Aside0 (Kd.N (Kd.slice 33 (Kd.slice 31 k31)) 28 w55 w.heap.size (fun k_=>some k_≠(v537 : Value).ownBlock∧some k_≠(.slice Ao11 t512.length co11 : Value).ownBlock∧some k_≠(.slice (some ad540) x9_1.length co56 : Value).ownBlock∧k_≠gb510∧k_≠gb518) (.slice (some ad539) t519.length co28) t519):=⟨by rw [← hq_];exact (by (with_reducible repeat (first|apply Kd.N_alloc|apply Kd.N_drewN|apply Kd.N_drew));exact Kd.N_mono HO_7.out (fun _ hk=>by first|exact ⟨hk.2.1,⟨hk.2.2.1,⟨hk.1,⟨hk.2.2.2.1,hk.2.2.2.2⟩⟩⟩⟩|simp_all))⟩;have n5_ : Aside0 (Kd.N (Kd.slice 33 (Kd.slice 31 k31)) 28 w55 w.heap.size (fun k_=>some k_≠(v537 : Value).ownBlock∧some k_≠(.slice Ao11 t512.length co11 : Value).ownBlock∧some k_≠(.slice (some ad539) t519.length co28 : Value).ownBlock∧k_≠gb510∧k_≠gb518) (.slice (some ad540) x9_1.length co56) x9_1):=⟨by rw [← hq_];exact (by (with_reducible repeat (first|apply Kd.N_alloc|apply Kd.N_drewN|apply Kd.N_drew));exact Kd.N_mono HO_9.out (fun _ hk=>by first|exact ⟨hk.2.1,⟨hk.2.2.1,⟨hk.1,⟨hk.2.2.2.1,hk.2.2.2.2⟩⟩⟩⟩|simp_all))⟩;have n6_ : Aside0 (w55.heap[gb510]?=some (.cells #[.int .u8 a0_0,.int .u8 a0_1,.int .u8 a0_2,.int .u8 a0_3,.int .u8 a0_4,.int .u8 a0_5,.int .u8 a0_6,.int .u8 a0_7,.int .u8 a0_8,.int .u8 a0_9,.int .u8 a0_10,.int .u8 a0_11] 38 (0,0))):=⟨by rw [← hq_];exact (blk_up BK510.out)⟩;have n7_ : Aside0 (w55.heap[gb518]?=some (.cells #[.slice Ao11 t512.length co11,.int .i64 t515,.int .i64 t516,.int .i64 t517] 26 (0,0))):=⟨by rw [← hq_];exact (blk_up BK518.out)⟩;have n8_ : Aside0 (Below w.heap.size w w55):=⟨by rw [← hq_];exact (below_go HB.out)⟩;have n9_ : Aside0 (Kd.C (Kd.slice 31 k31) w55 A539_0 (rd_L4 t519 x12_2).length (rd_L4 t519 x12_2)):=⟨by rw [← hq_];exact (by repeat (first|(with_reducible exact HR539_0.out)|(with_reducible refine Kd.C_alloc ?_ _)|(with_reducible refine Kd.C_drewN ?_ _)|(with_reducible refine Kd.C_drew ?_)|exact HR539_0.out))⟩;have n10_ : Aside0 (Kd.C (Kd.slice 31 k31) w55 A540_0 (rd_L4 x9_1 x12_2).length (rd_L4 x9_1 x12_2)):=⟨by rw [← hq_];exact (by repeat (first|(with_reducible exact HR540_0.out)|(with_reducible refine Kd.C_alloc ?_ _)|(with_reducible refine Kd.C_drewN ?_ _)|(with_reducible refine Kd.C_drew ?_)|exact HR540_0.out))⟩;clear HL539_0 HL540_0 HO_11 HO_519000 HO_7 HO_9 BK510 BK518 HB HR539_0 HR540_0 hq_;have HL539_0:=n0_;have HL540_0:=n1_;have HO_11:=n2_;have HO_519000:=n3_;have HO_7:=n4_;have HO_9:=n5_;have BK510:=n6_;have BK518:=n7_;have HB:=n8_;have HR539_0:=n9_;have HR540_0:=n10_;clear n0_ n1_ n2_ n3_ n4_ n5_ n6_ n7_ n8_ n9_ n10_))
            have n0_:=Aside0.mk (Kd.N_drew HO_7.out)
            have n1_:=Aside0.mk (Kd.N_drew HO_9.out)
            have n2_:=Aside0.mk (Kd.N_drew HO_11.out)
            have n3_:=Aside0.mk (Kd.R_drew HO_519000.out)
            have n4_:=Aside0.mk (Kd.V_drew HL539_0.out)
            have n5_:=Aside0.mk (Kd.V_drew HL540_0.out)
            have n6_:=Aside0.mk (blk_drew BK510.out)
            have n7_:=Aside0.mk (blk_drew BK518.out)
            have n8_:=Aside0.mk (Kd.C_drew HR539_0.out)
            have n9_:=Aside0.mk (Kd.C_drew HR540_0.out)
            have n10_:=Aside0.mk (below_drew1 HB.out)
            clear HO_7
            clear HO_9
            clear HO_11
            clear HO_519000
            clear HL539_0
            clear HL540_0
            clear BK510
            clear BK518
            clear HR539_0
            clear HR540_0
            clear HB
            have HO_7:=n0_
            have HO_9:=n1_
            have HO_11:=n2_
            have HO_519000:=n3_
            have HL539_0:=n4_
            have HL540_0:=n5_
            have BK510:=n6_
            have BK518:=n7_
            have HR539_0:=n8_
            have HR540_0:=n9_
            have HB:=n10_
            clear n0_ n1_ n2_ n3_ n4_ n5_ n6_ n7_ n8_ n9_ n10_
            have q58 : ((wrap64 (x12_2 + 1)) : Int)≤((t519.length : Int) : Int):=of_decide_eq_true (by first|(with_reducible assumption)|assumption)
            obtain ⟨i058,hi058,_,hsz58,_⟩:=info_parts info28
            have hroom58 : t519.length≤co28:=(Kd.N_reads' HO_7.out).2.1
            have hC58 : Kd.F (Kd.slice 33 (Kd.slice 31 k31)) _ _ (some ad539) t519.length t519:=(Kd.V_at (base:=w.heap.size) (Kd.N_V HO_7.out)).2.2
            have ql58 : (x12_2 : Int)≤((wrap64 (x12_2 + 1)) : Int):=of_decide_eq_true (by first|(with_reducible assumption)|assumption)
            have q058 : (0 : Int)≤(x12_2 : Int):=of_decide_eq_true (by first|(with_reducible assumption)|assumption)
            have hcut58:=cut_mid (P:=Try.prog) 27 28 .i64 .i64 Try.underlying27 hi058 1 hsz58 (some ad539) t519.length co28 x12_2 (wrap64 (x12_2 + 1)) q058 ql58 q58 hroom58
            have hr58:=Kd.F_mid (lo:=(x12_2 : Int).toNat) (hi:=((wrap64 (x12_2 + 1)) : Int).toNat) (c:=co28) hC58 (by omega) (by omega) hroom58
            obtain ⟨A58,hA58⟩ : ∃ Z_,Z_=(if co28=(x12_2 : Int).toNat then (some ad539) else ((some ad539) : Option Addr).map (·.add ((x12_2 : Int).toNat * 1))):=⟨_,rfl⟩
            obtain ⟨c58,hc58⟩ : ∃ z_,z_=co28 - (x12_2 : Int).toNat:=⟨_,rfl⟩
            have hy58 : y542.length=((wrap64 (x12_2 + 1)) : Int).toNat - (x12_2 : Int).toNat:=(by rw [Ny542.out,List.length_drop,List.length_take] <;> omega)
            rw [show ((t519).take ((wrap64 (x12_2 + 1)) : Int).toNat).drop (x12_2 : Int).toNat=y542 from Ny542.out.symm] at hr58
            replace hr58 : Kd.F (Kd.slice 33 (Kd.slice 31 k31)) _ _ A58 y542.length y542:=(by rw [hA58];exact hr58)
            rw [← hy58,← hA58,← hc58] at hcut58
            have HO546:=Aside0.mk (show Kd.V (Kd.slice 33 (Kd.slice 31 k31)) 28 _ w.heap.size _ (.slice A58 y542.length c58) y542 from Kd.V_mk (by rw [hy58,hc58];exact Nat.sub_le_sub_right (Nat.le_trans (by omega) hroom58) _) hr58)
            have HC546:=Aside0.mk (show y542.length≤c58 from by rw [hy58,hc58];exact Nat.sub_le_sub_right (Nat.le_trans (by omega) hroom58) _)
            clear hr58 hC58 hroom58 hi058 hsz58 hc58
            have KY58:=Aside0.mk hy58
            have KA58:=Aside0.mk hA58
            clear hy58 hA58
            replace q58:=eq_true q58
            have p550 : 0≤(x12_2 : Int):=of_decide_eq_true (by first|(with_reducible assumption)|assumption)
            have q550 : x12_2 < (t519.length : Int):=of_decide_eq_true (by first|(with_reducible assumption)|assumption)
            obtain ⟨ad550,A550_0,c550_0,e550,hx550_0,hl550_0,hi550_0⟩:=at_L4 (Kd.N_reads' HO_7.out).2.2 x12_2 p550 q550
            obtain rfl : ad539=ad550:=(by injection e550)
            obtain ⟨ce550,hce550,hMe550,hcc550⟩:=Kd.N_get HO_7.out [] x12_2 p550 (by first|exact q550|exact of_decide_eq_true (by first|(with_reducible assumption)|assumption)|(have e_:=(Kd.N_reads' HO_7.out).1;omega))
            obtain ⟨ua550_0,uc550_0,rfl,ul550_0,ge550_0⟩:=Kd.FK_slice_open hMe550
            have hv550_0:=hcc550 0 _ rfl
            rw [Nat.add_zero,show ((Kd.slice 33 (Kd.slice 31 k31))).sz=1 from rfl,Nat.mul_one] at hv550_0
            replace hv550_0:=Option.some.inj (hv550_0.symm.trans hx550_0)
            injection hv550_0 with hva_ hvn_ hvc_
            rw [hva_] at ge550_0
            rw [hvc_] at ul550_0
            have HL550_0:=Aside0.mk (show Kd.V (Kd.slice 31 k31) 33 _ w.heap.size _ _ (rd_L4 t519 x12_2) from Kd.V_mk ul550_0 ge550_0)
            clear hva_ hvn_ hvc_ ge550_0 ul550_0
            clear hcc550 hce550
            have HR550_0:=Aside0.mk hi550_0
            have HC550_0:=Aside0.mk hl550_0
            clear hi550_0 hl550_0
            replace p550:=eq_true p550
            replace q550:=eq_true q550
            refine start_ (n:=13) (S:=fun w'=>w'.cell? ⟨gb518,0,none⟩=some (.slice Ao11 t512.length co11)∧w'.cell? ⟨gb518,1,none⟩=some (.int .i64 t515)∧w'.cell? ⟨gb518,2,none⟩=some (.int .i64 t516)∧w'.cell? ⟨gb518,3,none⟩=some (.int .i64 t517)∧w'.cell? (ad539.add (x12_2).toNat)=some (.slice A550_0 (rd_L4 t519 x12_2).length c550_0)) (ds:=[]) #[false,false,false,false,false,false,false,false,false,false,false,false,false] (by kernel_rfl) rfl rfl ⟨(blk_cell BK518.out 0).trans rfl,(blk_cell BK518.out 1).trans rfl,(blk_cell BK518.out 2).trans rfl,(blk_cell BK518.out 3).trans rfl,hx550_0⟩ (fun hHeld=>?_);refine with_tabW thresherlaw14_MergeCounts.tab16 thresherlaw14_MergeCounts.bits16 (fun HT_ HW_=>?_)
            generalize w55.drew=w57 at HO_7 HO_9 HO_11 HO_519000 HL539_0 HL540_0 BK510 BK518 HR539_0 HR540_0 HB HL550_0 HO546 HR550_0 hx550_0 hHeld ⊢
            refine pure_ (i:=1) (N:=some 64) (v:=?_) (a':=?_) #[false,true,false,false,false,false,false,false,false,false,false,false,false] rfl rfl (any_of HT_.out (by kernel_rfl)) (fun _ _ _ h=>h) (Or.inl ⟨by rfl,?_⟩) ?_ ?_
            rotate_left;(intro w';go_simp;with_reducible rfl);rotate_left;(simp only [Act.put,List.setIfInBounds_toArray,List.set_cons_zero,List.set_cons_succ,i64_w,i32_w];rfl)
            refine pure_ (i:=2) (N:=some 65) (v:=?_) (a':=?_) #[false,true,true,false,false,false,false,false,false,false,false,false,false] rfl rfl (any_of HT_.out (by kernel_rfl)) (fun _ _ _ h=>h) (Or.inl ⟨by rfl,?_⟩) ?_ ?_
            rotate_left;(intro w';go_simp;with_reducible rfl);rotate_left;(simp only [Act.put,List.setIfInBounds_toArray,List.set_cons_zero,List.set_cons_succ,i64_w,i32_w];rfl)
            refine pure_ (i:=3) (N:=some 66) (v:=?_) (a':=?_) #[false,true,true,true,false,false,false,false,false,false,false,false,false] rfl rfl (any_of HT_.out (by kernel_rfl)) (fun _ _ _ h=>h) (Or.inl ⟨by rfl,?_⟩) ?_ ?_
            rotate_left;(intro w';go_simp;with_reducible rfl);rotate_left;(simp only [Act.put,List.setIfInBounds_toArray,List.set_cons_zero,List.set_cons_succ,i64_w,i32_w];rfl)
            refine pure_ (i:=4) (N:=some 67) (v:=?_) (a':=?_) #[false,true,true,true,true,false,false,false,false,false,false,false,false] rfl rfl (any_of HT_.out (by kernel_rfl)) (fun _ _ _ h=>h) (Or.inl ⟨by rfl,?_⟩) ?_ ?_
            rotate_left;(intro w';go_simp;with_reducible rfl);rotate_left;(simp only [Act.put,List.setIfInBounds_toArray,List.set_cons_zero,List.set_cons_succ,i64_w,i32_w];rfl)
            refine pure_ (i:=5) (N:=some 68) (v:=?_) (a':=?_) #[false,true,true,true,true,true,false,false,false,false,false,false,false] rfl rfl (any_of HT_.out (by kernel_rfl)) (fun _ _ _ h=>h) (Or.inl ⟨by rfl,?_⟩) ?_ ?_
            rotate_left;(intro w';go_simp;with_reducible rfl);rotate_left;(simp only [Act.put,List.setIfInBounds_toArray,List.set_cons_zero,List.set_cons_succ,i64_w,i32_w];rfl)
            refine pure_ (i:=7) (N:=some 70) (v:=?_) (a':=?_) #[false,true,true,true,true,true,false,true,false,false,false,false,false] rfl rfl (any_of HT_.out (by kernel_rfl)) (fun _ _ _ h=>h) (Or.inl ⟨by rfl,?_⟩) ?_ ?_
            rotate_left;(intro w';go_simp;with_reducible rfl);rotate_left;(simp only [Act.put,List.setIfInBounds_toArray,List.set_cons_zero,List.set_cons_succ,i64_w,i32_w];rfl)
            refine pure_ (i:=8) (N:=some 71) (v:=?_) (a':=?_) #[false,true,true,true,true,true,false,true,true,false,false,false,false] rfl rfl (any_of HT_.out (by kernel_rfl)) (fun _ _ _ h=>h) (Or.inl ⟨by rfl,?_⟩) ?_ ?_
            rotate_left;(intro w';go_simp;with_reducible rfl);rotate_left;(simp only [Act.put,List.setIfInBounds_toArray,List.set_cons_zero,List.set_cons_succ,i64_w,i32_w];rfl)
            refine pure_ (i:=9) (N:=some 72) (v:=?_) (a':=?_) #[false,true,true,true,true,true,false,true,true,true,false,false,false] rfl rfl (any_of HT_.out (by kernel_rfl)) (fun _ _ _ h=>h) (Or.inl ⟨by rfl,?_⟩) ?_ ?_
            rotate_left;(intro w';go_simp;with_reducible rfl);rotate_left;(simp only [Act.put,List.setIfInBounds_toArray,List.set_cons_zero,List.set_cons_succ,i64_w,i32_w];rfl)
            refine take_ (i:=0) (N:=some 63) (v:=?_) (a':=?_) #[true,true,true,true,true,true,false,true,true,true,false,false,false] rfl rfl (take_ofW HT_.out HW_.out (by kernel_rfl)) (fun _ _ _ h=>h) (Or.inl ⟨by rfl,?_⟩) hHeld ?_ ?_
            rotate_left;(rintro w' ⟨s0,s1,s2,s3,s4⟩;go_simp;with_reducible rfl);rotate_left;(simp only [Act.put,List.setIfInBounds_toArray,List.set_cons_zero,List.set_cons_succ,i64_w,i32_w];rfl)
            refine take_ (i:=10) (N:=some 73) (v:=?_) (a':=?_) #[true,true,true,true,true,true,false,true,true,true,true,false,false] rfl rfl (take_ofW HT_.out HW_.out (by kernel_rfl)) (fun _ _ _ h=>h) (Or.inl ⟨by rfl,?_⟩) hHeld ?_ ?_
            rotate_left;(rintro w' ⟨s0,s1,s2,s3,s4⟩;go_simp;with_reducible rfl);rotate_left;(simp only [Act.put,List.setIfInBounds_toArray,List.set_cons_zero,List.set_cons_succ,i64_w,i32_w];rfl)
            refine one_ (i:=6) (N:=some 69) #[true,true,true,true,true,true,true,true,true,true,true,false,false] rfl rfl (one_of HT_.out (by kernel_rfl)) (by decide) (fun K hK=>?_)
            refine goes_ Try.func9 (by kernel_rfl) rfl #[.agg #[.slice Ao11 t512.length co11,.int .i64 t515,.int .i64 t516,.int .i64 t517],.slice A58 y542.length c58] (by rfl) rfl rfl (by (try simp only [List.map_toArray,List.map_cons,List.map_nil]);first|done|rfl|(simp only [List.length_drop,List.length_take];rfl)) ?_
            with_reducible refine (merge_Rows.calls k2 _ _ t512 t515 t516 t517 (fun k_=>(some k_≠(.slice (some ad540) x9_1.length co56 : Value).ownBlock∧(some k_≠(v537 : Value).ownBlock∧(some k_≠(.slice Ao11 t512.length co11 : Value).ownBlock∧(k_≠gb510∧k_≠gb518))))) _ _ y542 t547 _ ?side1 ?side2 ?side3 A39.out).mono ?_
            (case side1=>repeat (first|exact (Kd.R_reads' HO_519000.out).2.2|(with_reducible refine Kd.C_alloc ?_ _)|(with_reducible refine Kd.C_drewN ?_ _)|(with_reducible refine Kd.C_drew ?_)))
            (case side2=>exact (Kd.R_reads' HO_519000.out).2.1)
            (case side3=>first|exact HO546.out|exact Kd.V_mono HO546.out (fun k_ hk_=>by first|(simp only [and_comm,and_left_comm,and_assoc] at hk_ ⊢;exact hk_)|simp_all))
            rintro e w59 ⟨v548,rfl,ho0,hb⟩
            have HS4_:=(hb.cell (World.block_lt_of_cell? _ _ (hHeld.2.2.2.2))).trans (hHeld.2.2.2.2)
            refine ⟨_,rfl,?_⟩
            have n0_:=Aside0.mk (Kd.N_elder' (N_up HO_7.out) (by first|exact Kd.N_base ho0|exact Kd.S_base ho0) hb)
            have n1_:=Aside0.mk (Kd.N_elder' (N_up HO_9.out) (by first|exact Kd.N_base ho0|exact Kd.S_base ho0) hb)
            have n2_:=Aside0.mk (Kd.N_elder' (N_up HO_11.out) (by first|exact Kd.N_base ho0|exact Kd.S_base ho0) hb)
            have n3_:=Aside0.mk (Kd.R_below (R_up HO_519000.out) hb)
            have n4_:=Aside0.mk (Kd.V_elder' (by (with_reducible repeat (first|apply Kd.V_alloc|apply Kd.V_drewN|apply Kd.V_drew));exact HL539_0.out) (by first|exact Kd.N_base ho0|exact Kd.S_base ho0) hb)
            have n5_:=Aside0.mk (Kd.V_elder' (by (with_reducible repeat (first|apply Kd.V_alloc|apply Kd.V_drewN|apply Kd.V_drew));exact HL540_0.out) (by first|exact Kd.N_base ho0|exact Kd.S_base ho0) hb)
            have n6_:=Aside0.mk (Kd.V_elder' (V_up HO546.out) (by first|exact Kd.N_base ho0|exact Kd.S_base ho0) hb)
            have n7_:=Aside0.mk (Kd.V_elder' (by (with_reducible repeat (first|apply Kd.V_alloc|apply Kd.V_drewN|apply Kd.V_drew));exact HL550_0.out) (by first|exact Kd.N_base ho0|exact Kd.S_base ho0) hb)
            have n8_:=Aside0.mk (Kd.N_lower (Kd.N_mono (ok':=fun k_=>some k_≠(.slice (some ad540) x9_1.length co56 : Value).ownBlock∧some k_≠(v537 : Value).ownBlock∧some k_≠(.slice Ao11 t512.length co11 : Value).ownBlock∧k_≠gb510∧k_≠gb518) ho0 (fun k_ hk_=>⟨Or.elim hk_ (fun hs_=>hs_.1) (fun hn_=>(Kd.fresh' (Kd.N_lt (N_up HO_9.out)) k_ hn_)),Or.elim hk_ (fun hs_=>hs_.2.1) (fun hn_=>(Kd.fresh' (Kd.N_lt (N_up HO_11.out)) k_ hn_)),Or.elim hk_ (fun hs_=>hs_.2.2.1) (fun hn_=>(Kd.fresh' (Kd.R_lt (R_up HO_519000.out)) k_ hn_)),Or.elim hk_ (fun hs_=>hs_.2.2.2.1) (fun hn_=>(Kd.freshB (blk_up BK510.out) k_ hn_)),Or.elim hk_ (fun hs_=>hs_.2.2.2.2) (fun hn_=>(Kd.freshB (blk_up BK518.out) k_ hn_))⟩)) (below_size (below_go HB.out)))
            have n9_:=Aside0.mk (blk_below (blk_up BK510.out) hb)
            have n10_:=Aside0.mk (blk_below (blk_up BK518.out) hb)
            have n11_:=Aside0.mk (Kd.C_below (by repeat (first|(with_reducible exact HR539_0.out)|(with_reducible refine Kd.C_alloc ?_ _)|(with_reducible refine Kd.C_drewN ?_ _)|(with_reducible refine Kd.C_drew ?_)|exact HR539_0.out)) hb)
            have n12_:=Aside0.mk (Kd.C_below (by repeat (first|(with_reducible exact HR540_0.out)|(with_reducible refine Kd.C_alloc ?_ _)|(with_reducible refine Kd.C_drewN ?_ _)|(with_reducible refine Kd.C_drew ?_)|exact HR540_0.out)) hb)
            have n13_:=Aside0.mk (Kd.C_below (by repeat (first|(with_reducible exact HR550_0.out)|(with_reducible refine Kd.C_alloc ?_ _)|(with_reducible refine Kd.C_drewN ?_ _)|(with_reducible refine Kd.C_drew ?_)|exact HR550_0.out)) hb)
            have n14_:=Aside0.mk (below_step (below_go HB.out) hb)
            clear HO_7
            clear HO_9
            clear HO_11
            clear HO_519000
            clear HL539_0
            clear HL540_0
            clear HO546
            clear HL550_0
            clear BK510
            clear BK518
            clear HR539_0
            clear HR540_0
            clear HR550_0
            clear HB
            have HO_7:=n0_
            have HO_9:=n1_
            have HO_11:=n2_
            have HO_519000:=n3_
            have HL539_0:=n4_
            have HL540_0:=n5_
            have HO546:=n6_
            have HL550_0:=n7_
            have HO549:=n8_
            have BK510:=n9_
            have BK518:=n10_
            have HR539_0:=n11_
            have HR540_0:=n12_
            have HR550_0:=n13_
            have HB:=n14_
            clear n0_ n1_ n2_ n3_ n4_ n5_ n6_ n7_ n8_ n9_ n10_ n11_ n12_ n13_ n14_
            (try clear hb)
            (try clear hb2)
            (try clear hk)
            (try clear hi)
            (try clear ho0)
            obtain ⟨Ao60,co60,eo60⟩:=Kd.N_slice HO549.out
            (first|subst eo60|(injection eo60 with f1_ f2_ f3_;have f4_:=f1_.symm;have f5_:=f3_.symm;clear f1_ f2_ f3_;subst f4_;subst f5_))
            refine hK.out _ _ ⟨(blk_cell BK518.out 0).trans rfl,(blk_cell BK518.out 1).trans rfl,(blk_cell BK518.out 2).trans rfl,(blk_cell BK518.out 3).trans rfl,HS4_⟩ (fun hHeld=>?_)
            clear hK K
            refine norm_ (a':=?_) ?_ ?_
            rotate_left
            ·show Act.put _ (some 69) _=_
             simp only [Act.put,List.setIfInBounds_toArray,List.set_cons_zero,List.set_cons_succ,i64_w,i32_w]
             rfl
            refine one_ (i:=11) (N:=some 74) #[true,true,true,true,true,true,true,true,true,true,true,true,false] rfl rfl (one_of HT_.out (by kernel_rfl)) (by decide) (fun K hK=>?_)
            refine goes_ Try.func12 (by kernel_rfl) rfl #[.slice Ao60 t547.length co60,.slice A550_0 (rd_L4 t519 x12_2).length c550_0] (by rfl) rfl rfl (by (try simp only [List.map_toArray,List.map_cons,List.map_nil]);first|done|rfl|(simp only [List.length_drop,List.length_take];rfl)) ?_
            with_reducible refine (thresherref04_Rows.calls k2 _ _ t547 _ _ (rd_L4 t519 x12_2) t551 _ ?side1 ?side2 ?side3 ?side4 A40.out).mono ?_
            (case side1=>repeat (first|exact (Kd.N_reads' HO549.out).2.2|(with_reducible refine Kd.C_alloc ?_ _)|(with_reducible refine Kd.C_drewN ?_ _)|(with_reducible refine Kd.C_drew ?_)))
            (case side2=>exact (Kd.N_reads' HO549.out).2.1)
            (case side3=>repeat (first|exact (by repeat (first|(with_reducible exact HR550_0.out)|(with_reducible refine Kd.C_alloc ?_ _)|(with_reducible refine Kd.C_drewN ?_ _)|(with_reducible refine Kd.C_drew ?_)|exact HR550_0.out))|(with_reducible refine Kd.C_alloc ?_ _)|(with_reducible refine Kd.C_drewN ?_ _)|(with_reducible refine Kd.C_drew ?_)))
            (case side4=>exact HC550_0.out)
            rintro e w' ⟨rfl,⟨nd,rfl⟩⟩
            refine ⟨_,rfl,?_⟩
            refine hK.out _ _ ⟨(blk_cell BK518.out 0).trans rfl,(blk_cell BK518.out 1).trans rfl,(blk_cell BK518.out 2).trans rfl,(blk_cell BK518.out 3).trans rfl,hHeld.2.2.2.2⟩ (fun hHeld=>?_)
            clear hK K
            refine norm_ (a':=?_) ?_ ?_
            rotate_left
            ·show Act.put _ (some 74) _=_
             simp only [Act.put,List.setIfInBounds_toArray,List.set_cons_zero,List.set_cons_succ,i64_w,i32_w]
             rfl
            refine pure_ (i:=12) (N:=some 14) (v:=?_) (a':=?_) #[true,true,true,true,true,true,true,true,true,true,true,true,true] rfl rfl (any_of HT_.out (by kernel_rfl)) (fun _ _ _ h=>h) (Or.inl ⟨by rfl,?_⟩) ?_ ?_
            rotate_left;(intro w';go_simp;with_reducible rfl);rotate_left;(simp only [Act.put,List.setIfInBounds_toArray,List.set_cons_zero,List.set_cons_succ,i64_w,i32_w];rfl)
            refine done_ (done_of HT_.out (by kernel_rfl)) ?_
            (try clear HS4_);(try clear hHeld)
            try go_wp2
            go_ret
            exact ⟨by first|rfl|(simp [errW_none,errW_some] <;> rfl)|(simp [*,errW_none,errW_some] <;> rfl),by repeat (first|(with_reducible first|exact HB.out|apply below_alloc|apply pw_below_drewN|apply below_drew1|refine below_set ?_ GE510.out|refine below_set ?_ GE518.out)|exact HB.out)⟩
          ·rw [if_neg c38] at H
           exact absurd H (by simp)
         ·rw [if_neg c37] at H
          exact absurd H (by simp)
        ·rw [if_neg c34] at H
         exact absurd H (by simp)
       ·rw [if_neg c33] at H
        exact absurd H (by simp)
      ·rw [if_neg c32] at H
       have c32b0 : decide (x12_2 < (t519.length : Int))=false:=decide_eq_false c32
       clear c32
       replace H:=Option.bind_eq_some_iff.mp H
       obtain ⟨t552,A610,H⟩:=H
       replace H : (if t511=true then (if (t536.length : Int)=x8_1 then (if t552=true then ((merge_Rows.f k2 t512 t515 t516 t517 ([] : List (List (List (S31))))).bind fun t553=>(if (t553.length : Int)=0 then ((merge_Folded.f k2 t512 t515 t516 t517 (([(([] : List (List (S31)))),(([] : List (List (S31))))] : List (List (List (S31)))))).bind fun t565=>(thresherlaw14_MergeCounts.j2 k2 ((t565.length : Int) == 0))) else (thresherlaw14_MergeCounts.j2 k2 false))) else (thresherlaw14_MergeCounts.j2 k2 false)) else (thresherlaw14_MergeCounts.j2 k2 false)) else (thresherlaw14_MergeCounts.j2 k2 false))=some r:=H
       have A61:=Aside0.mk A610
       clear A610
       have HC62:=Aside0.mk H
       clear H
       have hnb63:=NB518_510.out
       have hnc63:=NB510_518.out
       have hcz64_0 : wr.cell? ⟨gb518,0,none⟩=some (.slice Ao11 t512.length co11):=(blk_cell BK518.out 0).trans rfl
       have hcz64_1 : wr.cell? ⟨gb518,1,none⟩=some (.int .i64 t515):=(blk_cell BK518.out 1).trans rfl
       have hcz64_2 : wr.cell? ⟨gb518,2,none⟩=some (.int .i64 t516):=(blk_cell BK518.out 2).trans rfl
       have hcz64_3 : wr.cell? ⟨gb518,3,none⟩=some (.int .i64 t517):=(blk_cell BK518.out 3).trans rfl
       have hfz64_0:=blk_frozen BK518.out 0
       have hfz64_1:=blk_frozen BK518.out 1
       have hfz64_2:=blk_frozen BK518.out 2
       have hfz64_3:=blk_frozen BK518.out 3
       obtain ⟨Ao65,co65,eo65⟩:=Kd.N_slice HO_11.out
       subst eo65
       go_upto_region 20 with (first|((with_reducible refine gate_callee (f:=16) rfl ?_);refine goesL_ (some 83) rfl rfl Try.func16 (by kernel_rfl) rfl #[.agg #[.slice Ao11 t512.length co11,.int .i64 t515,.int .i64 t516,.int .i64 t517],.slice Ao65 t536.length co65] rfl (by (try simp only [List.map_toArray,List.map_cons,List.map_nil]);first|done|rfl|(simp only [List.length_drop,List.length_take];rfl)) ?_;(with_reducible refine (thresherref09_Sorted.calls k2 _ _ t512 t515 t516 t517 _ _ t536 t552 _ ?side1 ?side2 ?side3 ?side4 A61.out).mono ?_);(case side1=>repeat (first|exact (Kd.R_reads' HO_519000.out).2.2|(with_reducible refine Kd.C_alloc ?_ _)|(with_reducible refine Kd.C_drewN ?_ _)|(with_reducible refine Kd.C_drew ?_)));(case side2=>exact (Kd.R_reads' HO_519000.out).2.1);(case side3=>repeat (first|exact (Kd.N_reads' HO_11.out).2.2|(with_reducible refine Kd.C_alloc ?_ _)|(with_reducible refine Kd.C_drewN ?_ _)|(with_reducible refine Kd.C_drew ?_)));(case side4=>exact (Kd.N_reads' HO_11.out).2.1);rintro e w66 ⟨rfl,hb⟩;refine ⟨_,rfl,?_⟩;have n0_:=Aside0.mk (Kd.N_below (N_up HO_7.out) hb);have n1_:=Aside0.mk (Kd.N_below (N_up HO_9.out) hb);have n2_:=Aside0.mk (Kd.N_below (N_up HO_11.out) hb);have n3_:=Aside0.mk (Kd.R_below (R_up HO_519000.out) hb);have n4_:=Aside0.mk (blk_below (blk_up BK510.out) hb);have n5_:=Aside0.mk (blk_below (blk_up BK518.out) hb);have n6_:=Aside0.mk (below_step (below_go HB.out) hb);clear HO_7;clear HO_9;clear HO_11;clear HO_519000;clear BK510;clear BK518;clear HB;have HO_7:=n0_;have HO_9:=n1_;have HO_11:=n2_;have HO_519000:=n3_;have BK510:=n4_;have BK518:=n5_;have HB:=n6_;clear n0_ n1_ n2_ n3_ n4_ n5_ n6_;(try clear hb);(try clear hb2);(try clear hk);(try clear hi)))
       (try simp only [Act.put,List.setIfInBounds_toArray,List.set_cons_zero,List.set_cons_succ])
       go_cut [4] (fun v4 wc=>∃ (kq : Nat) (x4_61 : Bool),v4=.bool x4_61∧Aside0 (thresherlaw14_MergeCounts.j2 kq x4_61=some r)∧Aside0 (kq≤k2)∧Aside0 (Kd.R (Kd.int .i64) 3 wc w.heap.size (fun _=>True) (.slice Ao11 t512.length co11) t512)∧Aside0 (wc.heap[gb510]?=some (.cells #[.int .u8 a0_0,.int .u8 a0_1,.int .u8 a0_2,.int .u8 a0_3,.int .u8 a0_4,.int .u8 a0_5,.int .u8 a0_6,.int .u8 a0_7,.int .u8 a0_8,.int .u8 a0_9,.int .u8 a0_10,.int .u8 a0_11] 38 (0,0)))∧Aside0 (wc.heap[gb518]?=some (.cells #[(.slice Ao11 t512.length co11),.int .i64 t515,.int .i64 t516,.int .i64 t517] 26 (0,0)))∧Aside0 (Below w.heap.size w wc))
       case first =>
        have H:=HC62.out
        clear HC62
        by_cases c67 : t511=true
        ·subst c67
         have H1 : (if (t536.length : Int)=x8_1 then (if t552=true then ((merge_Rows.f k2 t512 t515 t516 t517 ([] : List (List (List (S31))))).bind fun t553=>(if (t553.length : Int)=0 then ((merge_Folded.f k2 t512 t515 t516 t517 (([(([] : List (List (S31)))),(([] : List (List (S31))))] : List (List (List (S31)))))).bind fun t565=>(thresherlaw14_MergeCounts.j2 k2 ((t565.length : Int) == 0))) else (thresherlaw14_MergeCounts.j2 k2 false))) else (thresherlaw14_MergeCounts.j2 k2 false)) else (thresherlaw14_MergeCounts.j2 k2 false))=some r:=by rw [if_pos rfl] at H;exact H
         clear H
         have H:=H1
         clear H1
         by_cases c68 : (t536.length : Int)=x8_1
         ·rw [if_pos c68] at H
          have c68b0 : ((t536.length : Int) == x8_1)=true:=beq_iff_eq.mpr c68
          have c68b1 : ((t536.length : Int) != x8_1)=false:=bne_eq_false_iff_eq.mpr c68
          clear c68
          (first|rw [c68b0]|(simp only [i64_w,i32_w];rw [c68b0])|skip)
          by_cases c69 : t552=true
          ·subst c69
           have H1 : ((merge_Rows.f k2 t512 t515 t516 t517 ([] : List (List (List (S31))))).bind fun t553=>(if (t553.length : Int)=0 then ((merge_Folded.f k2 t512 t515 t516 t517 (([(([] : List (List (S31)))),(([] : List (List (S31))))] : List (List (List (S31)))))).bind fun t565=>(thresherlaw14_MergeCounts.j2 k2 ((t565.length : Int) == 0))) else (thresherlaw14_MergeCounts.j2 k2 false)))=some r:=by rw [if_pos rfl] at H;exact H
           clear H
           have H:=H1
           clear H1
           replace H:=Option.bind_eq_some_iff.mp H
           obtain ⟨t553,A700,H⟩:=H
           replace H : (if (t553.length : Int)=0 then ((merge_Folded.f k2 t512 t515 t516 t517 (([(([] : List (List (S31)))),(([] : List (List (S31))))] : List (List (List (S31)))))).bind fun t565=>(thresherlaw14_MergeCounts.j2 k2 ((t565.length : Int) == 0))) else (thresherlaw14_MergeCounts.j2 k2 false))=some r:=H
           have A70:=Aside0.mk A700
           clear A700
           by_cases c71 : (t553.length : Int)=0
           ·rw [if_pos c71] at H
            have c71b0 : ((t553.length : Int) == 0)=true:=beq_iff_eq.mpr c71
            have c71b1 : ((t553.length : Int) != 0)=false:=bne_eq_false_iff_eq.mpr c71
            clear c71
            obtain ⟨y556,hy556⟩ : ∃ y_ : List (List (S31)),y_=(([] : List (List (S31)))):=⟨_,rfl⟩
            replace H : ((merge_Folded.f k2 t512 t515 t516 t517 (([y556,(([] : List (List (S31))))] : List (List (List (S31)))))).bind fun t565=>(thresherlaw14_MergeCounts.j2 k2 ((t565.length : Int) == 0)))=some r:=by first|(rw [hy556];with_reducible exact H)|(have H2_:=(Option.bind_some _ _).symm.trans H;rw [hy556];with_reducible exact H2_)|(have H2_:=(Option.bind_some _ _).symm.trans H;with_reducible exact H2_)|with_reducible exact H|(rw [hy556];exact H)|exact H
            have Ny556:=Aside0.mk hy556
            clear hy556
            obtain ⟨y559,hy559⟩ : ∃ y_ : List (List (S31)),y_=(([] : List (List (S31)))):=⟨_,rfl⟩
            replace H : ((merge_Folded.f k2 t512 t515 t516 t517 (([y556,y559] : List (List (List (S31)))))).bind fun t565=>(thresherlaw14_MergeCounts.j2 k2 ((t565.length : Int) == 0)))=some r:=by first|(rw [hy559];with_reducible exact H)|(have H2_:=(Option.bind_some _ _).symm.trans H;rw [hy559];with_reducible exact H2_)|(have H2_:=(Option.bind_some _ _).symm.trans H;with_reducible exact H2_)|with_reducible exact H|(rw [hy559];exact H)|exact H
            have Ny559:=Aside0.mk hy559
            clear hy559
            obtain ⟨y562,hy562⟩ : ∃ y_ : List (List (List (S31))),y_=(([y556,y559] : List (List (List (S31))))):=⟨_,rfl⟩
            replace H : ((merge_Folded.f k2 t512 t515 t516 t517 y562).bind fun t565=>(thresherlaw14_MergeCounts.j2 k2 ((t565.length : Int) == 0)))=some r:=by first|(rw [hy562];with_reducible exact H)|(have H2_:=(Option.bind_some _ _).symm.trans H;rw [hy562];with_reducible exact H2_)|(have H2_:=(Option.bind_some _ _).symm.trans H;with_reducible exact H2_)|with_reducible exact H|(rw [hy562];exact H)|exact H
            have Ny562:=Aside0.mk hy562
            clear hy562
            replace H:=Option.bind_eq_some_iff.mp H
            obtain ⟨t565,A720,H⟩:=H
            replace H : (thresherlaw14_MergeCounts.j2 k2 ((t565.length : Int) == 0))=some r:=H
            have A72:=Aside0.mk A720
            clear A720
            have H':=Aside0.mk H
            clear H
            have hnb73:=NB518_510.out
            have hnc73:=NB510_518.out
            have hcz74_0 : w66.cell? ⟨gb518,0,none⟩=some (.slice Ao11 t512.length co11):=(blk_cell BK518.out 0).trans rfl
            have hcz74_1 : w66.cell? ⟨gb518,1,none⟩=some (.int .i64 t515):=(blk_cell BK518.out 1).trans rfl
            have hcz74_2 : w66.cell? ⟨gb518,2,none⟩=some (.int .i64 t516):=(blk_cell BK518.out 2).trans rfl
            have hcz74_3 : w66.cell? ⟨gb518,3,none⟩=some (.int .i64 t517):=(blk_cell BK518.out 3).trans rfl
            have hfz74_0:=blk_frozen BK518.out 0
            have hfz74_1:=blk_frozen BK518.out 1
            have hfz74_2:=blk_frozen BK518.out 2
            have hfz74_3:=blk_frozen BK518.out 3
            go_wp2_with (first|(go_at_call 9;(refine (merge_Rows.calls k2 _ _ t512 t515 t516 t517 (fun k_=>False) _ _ ([] : List (List (List (S31)))) t553 _ ?side1 ?side2 ?side3 A70.out).mono ?_);(case side1=>repeat (first|exact (Kd.R_reads' HO_519000.out).2.2|(with_reducible refine Kd.C_alloc ?_ _)|(with_reducible refine Kd.C_drewN ?_ _)|(with_reducible refine Kd.C_drew ?_)));(case side2=>exact (Kd.R_reads' HO_519000.out).2.1);(case side3=>exact Kd.V_nil _ _ _ _ _);rintro e w75 ⟨v554,rfl,ho0,hb⟩;have n0_:=Aside0.mk (Kd.N_elder' (N_up HO_7.out) (by first|exact Kd.N_base ho0|exact Kd.S_base ho0) hb);have n1_:=Aside0.mk (Kd.N_elder' (N_up HO_9.out) (by first|exact Kd.N_base ho0|exact Kd.S_base ho0) hb);have n2_:=Aside0.mk (Kd.N_elder' (N_up HO_11.out) (by first|exact Kd.N_base ho0|exact Kd.S_base ho0) hb);have n3_:=Aside0.mk (Kd.R_below (R_up HO_519000.out) hb);have n4_:=Aside0.mk (Kd.N_lower (Kd.N_mono (ok':=fun k_=>some k_≠(.slice Ao28 t519.length co28 : Value).ownBlock∧some k_≠(u9 : Value).ownBlock∧some k_≠(.slice Ao65 t536.length co65 : Value).ownBlock∧some k_≠(.slice Ao11 t512.length co11 : Value).ownBlock∧k_≠gb510∧k_≠gb518) ho0 (fun k_ hk_=>⟨Or.elim hk_ (fun hs_=>(hs_).elim) (fun hn_=>(Kd.fresh' (Kd.N_lt (N_up HO_7.out)) k_ hn_)),Or.elim hk_ (fun hs_=>(hs_).elim) (fun hn_=>(Kd.fresh' (Kd.N_lt (N_up HO_9.out)) k_ hn_)),Or.elim hk_ (fun hs_=>(hs_).elim) (fun hn_=>(Kd.fresh' (Kd.N_lt (N_up HO_11.out)) k_ hn_)),Or.elim hk_ (fun hs_=>(hs_).elim) (fun hn_=>(Kd.fresh' (Kd.R_lt (R_up HO_519000.out)) k_ hn_)),Or.elim hk_ (fun hs_=>(hs_).elim) (fun hn_=>(Kd.freshB (blk_up BK510.out) k_ hn_)),Or.elim hk_ (fun hs_=>(hs_).elim) (fun hn_=>(Kd.freshB (blk_up BK518.out) k_ hn_))⟩)) (below_size (below_go HB.out)));have n5_:=Aside0.mk (blk_below (blk_up BK510.out) hb);have n6_:=Aside0.mk (blk_below (blk_up BK518.out) hb);have n7_:=Aside0.mk (below_step (below_go HB.out) hb);clear HO_7;clear HO_9;clear HO_11;clear HO_519000;clear BK510;clear BK518;clear HB;have HO_7:=n0_;have HO_9:=n1_;have HO_11:=n2_;have HO_519000:=n3_;have HO555:=n4_;have BK510:=n5_;have BK518:=n6_;have HB:=n7_;clear n0_ n1_ n2_ n3_ n4_ n5_ n6_ n7_;(try clear hb);(try clear hb2);(try clear hk);(try clear hi);(try clear ho0);obtain ⟨Ao76,co76,eo76⟩:=Kd.N_slice HO555.out;subst eo76;have hcz77_0 : w75.cell? ⟨gb518,0,none⟩=some (.slice Ao11 t512.length co11):=(blk_cell BK518.out 0).trans rfl;have hcz77_1 : w75.cell? ⟨gb518,1,none⟩=some (.int .i64 t515):=(blk_cell BK518.out 1).trans rfl;have hcz77_2 : w75.cell? ⟨gb518,2,none⟩=some (.int .i64 t516):=(blk_cell BK518.out 2).trans rfl;have hcz77_3 : w75.cell? ⟨gb518,3,none⟩=some (.int .i64 t517):=(blk_cell BK518.out 3).trans rfl;have hfz77_0:=blk_frozen BK518.out 0;have hfz77_1:=blk_frozen BK518.out 1;have hfz77_2:=blk_frozen BK518.out 2;have hfz77_3:=blk_frozen BK518.out 3)|((with_reducible refine gate_dst (N:=102) rfl ?_);(try (refine gate_guard (by rfl) ?_;dsimp only));refine Kd.N_lit (Kd.slice 31 k31) _ 33 ?hg (N':=102) ?hd (xs:=([] : List (List (S31)))) (inner:=[]) (ok:=(fun k_=>some k_≠(.slice Ao28 t519.length co28 : Value).ownBlock∧some k_≠(u9 : Value).ownBlock∧some k_≠(.slice Ao65 t536.length co65 : Value).ownBlock∧some k_≠(.slice Ao11 t512.length co11 : Value).ownBlock∧some k_≠(.slice Ao76 t553.length co76 : Value).ownBlock∧k_≠gb510∧k_≠gb518)) (okp:=(fun k_=>some k_≠(.slice Ao28 t519.length co28 : Value).ownBlock∧some k_≠(u9 : Value).ownBlock∧some k_≠(.slice Ao65 t536.length co65 : Value).ownBlock∧some k_≠(.slice Ao11 t512.length co11 : Value).ownBlock∧some k_≠(.slice Ao76 t553.length co76 : Value).ownBlock∧k_≠gb510∧k_≠gb518)) ?hr ?hp (fun _ hk=>hk) ((show ∀ k_,w75.heap.size≤k_→(fun k_=>some k_≠(.slice Ao28 t519.length co28 : Value).ownBlock∧some k_≠(u9 : Value).ownBlock∧some k_≠(.slice Ao65 t536.length co65 : Value).ownBlock∧some k_≠(.slice Ao11 t512.length co11 : Value).ownBlock∧some k_≠(.slice Ao76 t553.length co76 : Value).ownBlock∧k_≠gb510∧k_≠gb518) k_ from fun k_ hk=>⟨Kd.fresh' (Kd.N_lt (N_up HO_7.out)) k_ hk,Kd.fresh' (Kd.N_lt (N_up HO_9.out)) k_ hk,Kd.fresh' (Kd.N_lt (N_up HO_11.out)) k_ hk,Kd.fresh' (Kd.R_lt (R_up HO_519000.out)) k_ hk,Kd.fresh' (Kd.N_lt (N_up HO555.out)) k_ hk,Kd.freshB (blk_up BK510.out) k_ hk,Kd.freshB (blk_up BK518.out) k_ hk⟩) _ (Nat.le_refl _)) (Below.refl _ _) (Nat.le_refl _) (by simp) ?_;(case hd=>rfl);(case hg=>rfl);(case hr=>first|(go_simp;done)|(go_simp;rfl));(case hp=>exact (Reps.none _ _));intro v557 w78 ho79 hb hg_ hnew_;clear hg_ hnew_;(first|rw [← Ny556.out] at ho79|(simp only [Int.reduceToNat] at ho79;rw [← Ny556.out] at ho79));have n0_:=Aside0.mk (Kd.N_elder' (N_up HO_7.out) (Kd.N_base ho79) hb);have n1_:=Aside0.mk (Kd.N_elder' (N_up HO_9.out) (Kd.N_base ho79) hb);have n2_:=Aside0.mk (Kd.N_elder' (N_up HO_11.out) (Kd.N_base ho79) hb);have n3_:=Aside0.mk (Kd.R_below (R_up HO_519000.out) hb);have n4_:=Aside0.mk (Kd.N_elder' (N_up HO555.out) (Kd.N_base ho79) hb);have n5_:=Aside0.mk (Kd.N_lower ho79 (below_size (below_go HB.out)));have n6_:=Aside0.mk (blk_below (blk_up BK510.out) hb);have n7_:=Aside0.mk (blk_below (blk_up BK518.out) hb);have n8_:=Aside0.mk (below_step (below_go HB.out) hb);clear HO_7;clear HO_9;clear HO_11;clear HO_519000;clear HO555;clear BK510;clear BK518;clear HB;have HO_7:=n0_;have HO_9:=n1_;have HO_11:=n2_;have HO_519000:=n3_;have HO555:=n4_;have HO558:=n5_;have BK510:=n6_;have BK518:=n7_;have HB:=n8_;clear n0_ n1_ n2_ n3_ n4_ n5_ n6_ n7_ n8_;clear hb ho79)|((with_reducible refine gate_dst (N:=103) rfl ?_);(try (refine gate_guard (by rfl) ?_;dsimp only));refine Kd.N_lit (Kd.slice 31 k31) _ 33 ?hg (N':=103) ?hd (xs:=([] : List (List (S31)))) (inner:=[]) (ok:=(fun k_=>some k_≠(.slice Ao28 t519.length co28 : Value).ownBlock∧some k_≠(u9 : Value).ownBlock∧some k_≠(.slice Ao65 t536.length co65 : Value).ownBlock∧some k_≠(.slice Ao11 t512.length co11 : Value).ownBlock∧some k_≠(.slice Ao76 t553.length co76 : Value).ownBlock∧some k_≠(v557 : Value).ownBlock∧k_≠gb510∧k_≠gb518)) (okp:=(fun k_=>some k_≠(.slice Ao28 t519.length co28 : Value).ownBlock∧some k_≠(u9 : Value).ownBlock∧some k_≠(.slice Ao65 t536.length co65 : Value).ownBlock∧some k_≠(.slice Ao11 t512.length co11 : Value).ownBlock∧some k_≠(.slice Ao76 t553.length co76 : Value).ownBlock∧some k_≠(v557 : Value).ownBlock∧k_≠gb510∧k_≠gb518)) ?hr ?hp (fun _ hk=>hk) ((show ∀ k_,w78.heap.size≤k_→(fun k_=>some k_≠(.slice Ao28 t519.length co28 : Value).ownBlock∧some k_≠(u9 : Value).ownBlock∧some k_≠(.slice Ao65 t536.length co65 : Value).ownBlock∧some k_≠(.slice Ao11 t512.length co11 : Value).ownBlock∧some k_≠(.slice Ao76 t553.length co76 : Value).ownBlock∧some k_≠(v557 : Value).ownBlock∧k_≠gb510∧k_≠gb518) k_ from fun k_ hk=>⟨Kd.fresh' (Kd.N_lt (N_up HO_7.out)) k_ hk,Kd.fresh' (Kd.N_lt (N_up HO_9.out)) k_ hk,Kd.fresh' (Kd.N_lt (N_up HO_11.out)) k_ hk,Kd.fresh' (Kd.R_lt (R_up HO_519000.out)) k_ hk,Kd.fresh' (Kd.N_lt (N_up HO555.out)) k_ hk,Kd.fresh' (Kd.N_lt (N_up HO558.out)) k_ hk,Kd.freshB (blk_up BK510.out) k_ hk,Kd.freshB (blk_up BK518.out) k_ hk⟩) _ (Nat.le_refl _)) (Below.refl _ _) (Nat.le_refl _) (by simp) ?_;(case hd=>rfl);(case hg=>rfl);(case hr=>first|(go_simp;done)|(go_simp;rfl));(case hp=>exact (Reps.none _ _));intro v560 w80 ho81 hb hg_ hnew_;clear hg_ hnew_;(first|rw [← Ny559.out] at ho81|(simp only [Int.reduceToNat] at ho81;rw [← Ny559.out] at ho81));have n0_:=Aside0.mk (Kd.N_elder' (N_up HO_7.out) (Kd.N_base ho81) hb);have n1_:=Aside0.mk (Kd.N_elder' (N_up HO_9.out) (Kd.N_base ho81) hb);have n2_:=Aside0.mk (Kd.N_elder' (N_up HO_11.out) (Kd.N_base ho81) hb);have n3_:=Aside0.mk (Kd.R_below (R_up HO_519000.out) hb);have n4_:=Aside0.mk (Kd.N_elder' (N_up HO555.out) (Kd.N_base ho81) hb);have n5_:=Aside0.mk (Kd.N_elder' (N_up HO558.out) (Kd.N_base ho81) hb);have n6_:=Aside0.mk (Kd.N_lower ho81 (below_size (below_go HB.out)));have n7_:=Aside0.mk (blk_below (blk_up BK510.out) hb);have n8_:=Aside0.mk (blk_below (blk_up BK518.out) hb);have n9_:=Aside0.mk (below_step (below_go HB.out) hb);clear HO_7;clear HO_9;clear HO_11;clear HO_519000;clear HO555;clear HO558;clear BK510;clear BK518;clear HB;have HO_7:=n0_;have HO_9:=n1_;have HO_11:=n2_;have HO_519000:=n3_;have HO555:=n4_;have HO558:=n5_;have HO561:=n6_;have BK510:=n7_;have BK518:=n8_;have HB:=n9_;clear n0_ n1_ n2_ n3_ n4_ n5_ n6_ n7_ n8_ n9_;clear hb ho81;obtain ⟨Ao82,co82,eo82⟩:=Kd.N_slice HO558.out;subst eo82;obtain ⟨Ao83,co83,eo83⟩:=Kd.N_slice HO561.out;subst eo83)|((with_reducible refine gate_dst (N:=104) rfl ?_);(try (refine gate_guard (by rfl) ?_;dsimp only));refine Kd.N_lit (Kd.slice 33 (Kd.slice 31 k31)) _ 28 ?hg (N':=104) ?hd (xs:=([y556,y559] : List (List (List (S31))))) (inner:=[.slice Ao82 y556.length co82,.slice Ao83 y559.length co83]) (ok:=(fun k_=>some k_≠(.slice Ao28 t519.length co28 : Value).ownBlock∧some k_≠(u9 : Value).ownBlock∧some k_≠(.slice Ao65 t536.length co65 : Value).ownBlock∧some k_≠(.slice Ao11 t512.length co11 : Value).ownBlock∧some k_≠(.slice Ao76 t553.length co76 : Value).ownBlock∧k_≠gb510∧k_≠gb518)) (okp:=(fun k_=>some k_≠(.slice Ao28 t519.length co28 : Value).ownBlock∧some k_≠(u9 : Value).ownBlock∧some k_≠(.slice Ao65 t536.length co65 : Value).ownBlock∧some k_≠(.slice Ao11 t512.length co11 : Value).ownBlock∧some k_≠(.slice Ao76 t553.length co76 : Value).ownBlock∧k_≠gb510∧k_≠gb518)) ?hr ?hp (fun _ hk=>hk) ((show ∀ k_,w80.heap.size≤k_→(fun k_=>some k_≠(.slice Ao28 t519.length co28 : Value).ownBlock∧some k_≠(u9 : Value).ownBlock∧some k_≠(.slice Ao65 t536.length co65 : Value).ownBlock∧some k_≠(.slice Ao11 t512.length co11 : Value).ownBlock∧some k_≠(.slice Ao76 t553.length co76 : Value).ownBlock∧k_≠gb510∧k_≠gb518) k_ from fun k_ hk=>⟨Kd.fresh' (Kd.N_lt (N_up HO_7.out)) k_ hk,Kd.fresh' (Kd.N_lt (N_up HO_9.out)) k_ hk,Kd.fresh' (Kd.N_lt (N_up HO_11.out)) k_ hk,Kd.fresh' (Kd.R_lt (R_up HO_519000.out)) k_ hk,Kd.fresh' (Kd.N_lt (N_up HO555.out)) k_ hk,Kd.freshB (blk_up BK510.out) k_ hk,Kd.freshB (blk_up BK518.out) k_ hk⟩) _ (Nat.le_refl _)) (Below.refl _ _) (Nat.le_refl _) (by simp) ?_;(case hd=>rfl);(case hg=>rfl);(case hr=>first|(go_simp;done)|(go_simp;rfl));(case hp=>exact (Reps.one (show Kd.FK (Kd.slice 33 (Kd.slice 31 k31)) _ _ y556 [.slice Ao82 y556.length co82] from (Kd.FK_slice_mk (Kd.N_reads' (Kd.N_mono (ok':=(fun k_=>some k_≠(.slice Ao28 t519.length co28 : Value).ownBlock∧some k_≠(u9 : Value).ownBlock∧some k_≠(.slice Ao65 t536.length co65 : Value).ownBlock∧some k_≠(.slice Ao11 t512.length co11 : Value).ownBlock∧some k_≠(.slice Ao76 t553.length co76 : Value).ownBlock∧k_≠gb510∧k_≠gb518)) (HO558.out) (fun k_ hk=>⟨hk.1.1,⟨hk.1.2.1,⟨hk.1.2.2.1,⟨hk.1.2.2.2.1,⟨hk.1.2.2.2.2.1,⟨hk.1.2.2.2.2.2.1,hk.1.2.2.2.2.2.2⟩⟩⟩⟩⟩⟩))).2.1 (Kd.N_F (Kd.N_mono (ok':=(fun k_=>some k_≠(.slice Ao28 t519.length co28 : Value).ownBlock∧some k_≠(u9 : Value).ownBlock∧some k_≠(.slice Ao65 t536.length co65 : Value).ownBlock∧some k_≠(.slice Ao11 t512.length co11 : Value).ownBlock∧some k_≠(.slice Ao76 t553.length co76 : Value).ownBlock∧k_≠gb510∧k_≠gb518)) (HO558.out) (fun k_ hk=>⟨hk.1.1,⟨hk.1.2.1,⟨hk.1.2.2.1,⟨hk.1.2.2.2.1,⟨hk.1.2.2.2.2.1,⟨hk.1.2.2.2.2.2.1,hk.1.2.2.2.2.2.2⟩⟩⟩⟩⟩⟩))))) (Reps.one (show Kd.FK (Kd.slice 33 (Kd.slice 31 k31)) _ _ y559 [.slice Ao83 y559.length co83] from (Kd.FK_slice_mk (Kd.N_reads' (Kd.N_mono (ok':=(fun k_=>some k_≠(.slice Ao28 t519.length co28 : Value).ownBlock∧some k_≠(u9 : Value).ownBlock∧some k_≠(.slice Ao65 t536.length co65 : Value).ownBlock∧some k_≠(.slice Ao11 t512.length co11 : Value).ownBlock∧some k_≠(.slice Ao76 t553.length co76 : Value).ownBlock∧k_≠gb510∧k_≠gb518)) (HO561.out) (fun k_ hk=>⟨hk.1,⟨hk.2.1,⟨hk.2.2.1,⟨hk.2.2.2.1,⟨hk.2.2.2.2.1,⟨hk.2.2.2.2.2.2.1,hk.2.2.2.2.2.2.2⟩⟩⟩⟩⟩⟩))).2.1 (Kd.N_F (Kd.N_mono (ok':=(fun k_=>some k_≠(.slice Ao28 t519.length co28 : Value).ownBlock∧some k_≠(u9 : Value).ownBlock∧some k_≠(.slice Ao65 t536.length co65 : Value).ownBlock∧some k_≠(.slice Ao11 t512.length co11 : Value).ownBlock∧some k_≠(.slice Ao76 t553.length co76 : Value).ownBlock∧k_≠gb510∧k_≠gb518)) (HO561.out) (fun k_ hk=>⟨hk.1,⟨hk.2.1,⟨hk.2.2.1,⟨hk.2.2.2.1,⟨hk.2.2.2.2.1,⟨hk.2.2.2.2.2.2.1,hk.2.2.2.2.2.2.2⟩⟩⟩⟩⟩⟩))))) (Reps.none _ _))));intro v563 w84 ho85 hb hg_ hnew_;clear hg_ hnew_;(first|rw [← Ny562.out] at ho85|(simp only [Int.reduceToNat] at ho85;rw [← Ny562.out] at ho85));have n0_:=Aside0.mk (Kd.N_elder' (N_up HO_7.out) (Kd.N_base ho85) hb);have n1_:=Aside0.mk (Kd.N_elder' (N_up HO_9.out) (Kd.N_base ho85) hb);have n2_:=Aside0.mk (Kd.N_elder' (N_up HO_11.out) (Kd.N_base ho85) hb);have n3_:=Aside0.mk (Kd.R_below (R_up HO_519000.out) hb);have n4_:=Aside0.mk (Kd.N_elder' (N_up HO555.out) (Kd.N_base ho85) hb);have n5_:=Aside0.mk (Kd.N_lower ho85 (below_size (below_go HB.out)));have n6_:=Aside0.mk (blk_below (blk_up BK510.out) hb);have n7_:=Aside0.mk (blk_below (blk_up BK518.out) hb);have n8_:=Aside0.mk (below_step (below_go HB.out) hb);clear HO_7;clear HO_9;clear HO_11;clear HO_519000;clear HO555;clear BK510;clear BK518;clear HB;clear HO558;clear HO561;have HO_7:=n0_;have HO_9:=n1_;have HO_11:=n2_;have HO_519000:=n3_;have HO555:=n4_;have HO564:=n5_;have BK510:=n6_;have BK518:=n7_;have HB:=n8_;clear n0_ n1_ n2_ n3_ n4_ n5_ n6_ n7_ n8_;clear hb ho85;obtain ⟨Ao86,co86,eo86⟩:=Kd.N_slice HO564.out;subst eo86)|(go_at_call 14;(with_reducible refine (merge_Folded.calls k2 _ _ t512 t515 t516 t517 (fun k_=>(some k_≠(.slice Ao28 t519.length co28 : Value).ownBlock∧(some k_≠(u9 : Value).ownBlock∧(some k_≠(.slice Ao65 t536.length co65 : Value).ownBlock∧(some k_≠(.slice Ao11 t512.length co11 : Value).ownBlock∧(some k_≠(.slice Ao76 t553.length co76 : Value).ownBlock∧(k_≠gb510∧k_≠gb518))))))) _ _ y562 t565 _ ?side1 ?side2 ?side3 A72.out).mono ?_);(case side1=>repeat (first|exact (Kd.R_reads' HO_519000.out).2.2|(with_reducible refine Kd.C_alloc ?_ _)|(with_reducible refine Kd.C_drewN ?_ _)|(with_reducible refine Kd.C_drew ?_)));(case side2=>exact (Kd.R_reads' HO_519000.out).2.1);(case side3=>first|exact Kd.N_V (HO564.out)|exact Kd.N_V (Kd.N_mono HO564.out (fun k_ hk_=>by first|(simp only [and_comm,and_left_comm,and_assoc] at hk_ ⊢;exact hk_)|simp_all)));rintro e w87 ⟨v566,rfl,ho0,hb⟩;have n0_:=Aside0.mk (Kd.N_elder' (N_up HO_7.out) (by first|exact Kd.N_base ho0|exact Kd.S_base ho0) hb);have n1_:=Aside0.mk (Kd.N_elder' (N_up HO_9.out) (by first|exact Kd.N_base ho0|exact Kd.S_base ho0) hb);have n2_:=Aside0.mk (Kd.N_elder' (N_up HO_11.out) (by first|exact Kd.N_base ho0|exact Kd.S_base ho0) hb);have n3_:=Aside0.mk (Kd.R_below (R_up HO_519000.out) hb);have n4_:=Aside0.mk (Kd.N_elder' (N_up HO555.out) (by first|exact Kd.N_base ho0|exact Kd.S_base ho0) hb);have n5_:=Aside0.mk (Kd.N_elder' (N_up HO564.out) (by first|exact Kd.N_base ho0|exact Kd.S_base ho0) hb);have n6_:=Aside0.mk (Kd.N_lower (Kd.N_mono (ok':=fun k_=>some k_≠(.slice Ao28 t519.length co28 : Value).ownBlock∧some k_≠(u9 : Value).ownBlock∧some k_≠(.slice Ao65 t536.length co65 : Value).ownBlock∧some k_≠(.slice Ao11 t512.length co11 : Value).ownBlock∧some k_≠(.slice Ao76 t553.length co76 : Value).ownBlock∧k_≠gb510∧k_≠gb518) ho0 (fun k_ hk_=>⟨Or.elim hk_ (fun hs_=>hs_.1) (fun hn_=>(Kd.fresh' (Kd.N_lt (N_up HO_7.out)) k_ hn_)),Or.elim hk_ (fun hs_=>hs_.2.1) (fun hn_=>(Kd.fresh' (Kd.N_lt (N_up HO_9.out)) k_ hn_)),Or.elim hk_ (fun hs_=>hs_.2.2.1) (fun hn_=>(Kd.fresh' (Kd.N_lt (N_up HO_11.out)) k_ hn_)),Or.elim hk_ (fun hs_=>hs_.2.2.2.1) (fun hn_=>(Kd.fresh' (Kd.R_lt (R_up HO_519000.out)) k_ hn_)),Or.elim hk_ (fun hs_=>hs_.2.2.2.2.1) (fun hn_=>(Kd.fresh' (Kd.N_lt (N_up HO555.out)) k_ hn_)),Or.elim hk_ (fun hs_=>hs_.2.2.2.2.2.1) (fun hn_=>(Kd.freshB (blk_up BK510.out) k_ hn_)),Or.elim hk_ (fun hs_=>hs_.2.2.2.2.2.2) (fun hn_=>(Kd.freshB (blk_up BK518.out) k_ hn_))⟩)) (below_size (below_go HB.out)));have n7_:=Aside0.mk (blk_below (blk_up BK510.out) hb);have n8_:=Aside0.mk (blk_below (blk_up BK518.out) hb);have n9_:=Aside0.mk (below_step (below_go HB.out) hb);clear HO_7;clear HO_9;clear HO_11;clear HO_519000;clear HO555;clear HO564;clear BK510;clear BK518;clear HB;have HO_7:=n0_;have HO_9:=n1_;have HO_11:=n2_;have HO_519000:=n3_;have HO555:=n4_;have HO564:=n5_;have HO567:=n6_;have BK510:=n7_;have BK518:=n8_;have HB:=n9_;clear n0_ n1_ n2_ n3_ n4_ n5_ n6_ n7_ n8_ n9_;(try clear hb);(try clear hb2);(try clear hk);(try clear hi);(try clear ho0);obtain ⟨Ao88,co88,eo88⟩:=Kd.N_slice HO567.out;subst eo88))
            go_meet
            case rel=>exact ⟨_,(((t565.length : Int) == 0)),(by first|rfl|(simp;done)|(simp [*];done)),(by first|exact H'|(subst_vars;exact H')),⟨by have:=HK1.out;have:=HK2.out;first|omega|exact Nat.le_refl _⟩,⟨by (with_reducible repeat (first|apply Kd.R_alloc|apply Kd.R_drewN|apply Kd.R_drew));exact HO_519000.out⟩,⟨by (with_reducible repeat (first|refine blk_drewN ?_ _|refine blk_drew ?_|refine blk_alloc ?_ _));exact BK510.out⟩,⟨by (with_reducible repeat (first|refine blk_drewN ?_ _|refine blk_drew ?_|refine blk_alloc ?_ _));exact BK518.out⟩,⟨by repeat (first|(with_reducible first|exact HB.out|apply below_alloc|apply pw_below_drewN|apply below_drew1|refine below_set ?_ GE510.out|refine below_set ?_ GE518.out)|exact HB.out)⟩⟩
           ·rw [if_neg c71] at H
            have c71b0 : ((t553.length : Int) == 0)=false:=beq_eq_false_iff_ne.mpr c71
            have c71b1 : ((t553.length : Int) != 0)=true:=bne_iff_ne.mpr c71
            have c71b2 : ¬ (t553=[]):=fun h_=>c71 (by rw [h_];rfl)
            have H':=Aside0.mk H
            clear H
            have hnb89:=NB518_510.out
            have hnc89:=NB510_518.out
            have hcz90_0 : w66.cell? ⟨gb518,0,none⟩=some (.slice Ao11 t512.length co11):=(blk_cell BK518.out 0).trans rfl
            have hcz90_1 : w66.cell? ⟨gb518,1,none⟩=some (.int .i64 t515):=(blk_cell BK518.out 1).trans rfl
            have hcz90_2 : w66.cell? ⟨gb518,2,none⟩=some (.int .i64 t516):=(blk_cell BK518.out 2).trans rfl
            have hcz90_3 : w66.cell? ⟨gb518,3,none⟩=some (.int .i64 t517):=(blk_cell BK518.out 3).trans rfl
            have hfz90_0:=blk_frozen BK518.out 0
            have hfz90_1:=blk_frozen BK518.out 1
            have hfz90_2:=blk_frozen BK518.out 2
            have hfz90_3:=blk_frozen BK518.out 3
            go_wp2_with (first|(go_at_call 9;(refine (merge_Rows.calls k2 _ _ t512 t515 t516 t517 (fun k_=>False) _ _ ([] : List (List (List (S31)))) t553 _ ?side1 ?side2 ?side3 A70.out).mono ?_);(case side1=>repeat (first|exact (Kd.R_reads' HO_519000.out).2.2|(with_reducible refine Kd.C_alloc ?_ _)|(with_reducible refine Kd.C_drewN ?_ _)|(with_reducible refine Kd.C_drew ?_)));(case side2=>exact (Kd.R_reads' HO_519000.out).2.1);(case side3=>exact Kd.V_nil _ _ _ _ _);rintro e w91 ⟨v554,rfl,ho0,hb⟩;have n0_:=Aside0.mk (Kd.N_elder' (N_up HO_7.out) (by first|exact Kd.N_base ho0|exact Kd.S_base ho0) hb);have n1_:=Aside0.mk (Kd.N_elder' (N_up HO_9.out) (by first|exact Kd.N_base ho0|exact Kd.S_base ho0) hb);have n2_:=Aside0.mk (Kd.N_elder' (N_up HO_11.out) (by first|exact Kd.N_base ho0|exact Kd.S_base ho0) hb);have n3_:=Aside0.mk (Kd.R_below (R_up HO_519000.out) hb);have n4_:=Aside0.mk (Kd.N_lower (Kd.N_mono (ok':=fun k_=>some k_≠(.slice Ao28 t519.length co28 : Value).ownBlock∧some k_≠(u9 : Value).ownBlock∧some k_≠(.slice Ao65 t536.length co65 : Value).ownBlock∧some k_≠(.slice Ao11 t512.length co11 : Value).ownBlock∧k_≠gb510∧k_≠gb518) ho0 (fun k_ hk_=>⟨Or.elim hk_ (fun hs_=>(hs_).elim) (fun hn_=>(Kd.fresh' (Kd.N_lt (N_up HO_7.out)) k_ hn_)),Or.elim hk_ (fun hs_=>(hs_).elim) (fun hn_=>(Kd.fresh' (Kd.N_lt (N_up HO_9.out)) k_ hn_)),Or.elim hk_ (fun hs_=>(hs_).elim) (fun hn_=>(Kd.fresh' (Kd.N_lt (N_up HO_11.out)) k_ hn_)),Or.elim hk_ (fun hs_=>(hs_).elim) (fun hn_=>(Kd.fresh' (Kd.R_lt (R_up HO_519000.out)) k_ hn_)),Or.elim hk_ (fun hs_=>(hs_).elim) (fun hn_=>(Kd.freshB (blk_up BK510.out) k_ hn_)),Or.elim hk_ (fun hs_=>(hs_).elim) (fun hn_=>(Kd.freshB (blk_up BK518.out) k_ hn_))⟩)) (below_size (below_go HB.out)));have n5_:=Aside0.mk (blk_below (blk_up BK510.out) hb);have n6_:=Aside0.mk (blk_below (blk_up BK518.out) hb);have n7_:=Aside0.mk (below_step (below_go HB.out) hb);clear HO_7;clear HO_9;clear HO_11;clear HO_519000;clear BK510;clear BK518;clear HB;have HO_7:=n0_;have HO_9:=n1_;have HO_11:=n2_;have HO_519000:=n3_;have HO555:=n4_;have BK510:=n5_;have BK518:=n6_;have HB:=n7_;clear n0_ n1_ n2_ n3_ n4_ n5_ n6_ n7_;(try clear hb);(try clear hb2);(try clear hk);(try clear hi);(try clear ho0);obtain ⟨Ao92,co92,eo92⟩:=Kd.N_slice HO555.out;subst eo92))
            go_meet
            case rel=>exact ⟨_,(false),(by first|rfl|(simp;done)|(simp [*];done)),(by first|exact H'|(subst_vars;exact H')),⟨by have:=HK1.out;have:=HK2.out;first|omega|exact Nat.le_refl _⟩,⟨by (with_reducible repeat (first|apply Kd.R_alloc|apply Kd.R_drewN|apply Kd.R_drew));exact HO_519000.out⟩,⟨by (with_reducible repeat (first|refine blk_drewN ?_ _|refine blk_drew ?_|refine blk_alloc ?_ _));exact BK510.out⟩,⟨by (with_reducible repeat (first|refine blk_drewN ?_ _|refine blk_drew ?_|refine blk_alloc ?_ _));exact BK518.out⟩,⟨by repeat (first|(with_reducible first|exact HB.out|apply below_alloc|apply pw_below_drewN|apply below_drew1|refine below_set ?_ GE510.out|refine below_set ?_ GE518.out)|exact HB.out)⟩⟩
          ·replace c69:=Bool.eq_false_iff.mpr c69
           subst c69
           have H1 : (thresherlaw14_MergeCounts.j2 k2 false)=some r:=by rw [if_neg (show ¬ (false=true) by decide)] at H;exact H
           clear H
           have H:=H1
           clear H1
           have H':=Aside0.mk H
           clear H
           go_wp2
           go_meet
           case rel=>exact ⟨_,(false),(by first|rfl|(simp;done)|(simp [*];done)),(by first|exact H'|(subst_vars;exact H')),⟨by have:=HK1.out;have:=HK2.out;first|omega|exact Nat.le_refl _⟩,⟨by (with_reducible repeat (first|apply Kd.R_alloc|apply Kd.R_drewN|apply Kd.R_drew));exact HO_519000.out⟩,⟨by (with_reducible repeat (first|refine blk_drewN ?_ _|refine blk_drew ?_|refine blk_alloc ?_ _));exact BK510.out⟩,⟨by (with_reducible repeat (first|refine blk_drewN ?_ _|refine blk_drew ?_|refine blk_alloc ?_ _));exact BK518.out⟩,⟨by repeat (first|(with_reducible first|exact HB.out|apply below_alloc|apply pw_below_drewN|apply below_drew1|refine below_set ?_ GE510.out|refine below_set ?_ GE518.out)|exact HB.out)⟩⟩
         ·rw [if_neg c68] at H
          have c68b0 : ((t536.length : Int) == x8_1)=false:=beq_eq_false_iff_ne.mpr c68
          have c68b1 : ((t536.length : Int) != x8_1)=true:=bne_iff_ne.mpr c68
          (first|rw [c68b0]|(simp only [i64_w,i32_w];rw [c68b0])|skip)
          have H':=Aside0.mk H
          clear H
          go_wp2
          go_meet
          case rel=>exact ⟨_,(false),(by first|rfl|(simp;done)|(simp [*];done)),(by first|exact H'|(subst_vars;exact H')),⟨by have:=HK1.out;have:=HK2.out;first|omega|exact Nat.le_refl _⟩,⟨by (with_reducible repeat (first|apply Kd.R_alloc|apply Kd.R_drewN|apply Kd.R_drew));exact HO_519000.out⟩,⟨by (with_reducible repeat (first|refine blk_drewN ?_ _|refine blk_drew ?_|refine blk_alloc ?_ _));exact BK510.out⟩,⟨by (with_reducible repeat (first|refine blk_drewN ?_ _|refine blk_drew ?_|refine blk_alloc ?_ _));exact BK518.out⟩,⟨by repeat (first|(with_reducible first|exact HB.out|apply below_alloc|apply pw_below_drewN|apply below_drew1|refine below_set ?_ GE510.out|refine below_set ?_ GE518.out)|exact HB.out)⟩⟩
        ·replace c67:=Bool.eq_false_iff.mpr c67
         subst c67
         have H1 : (thresherlaw14_MergeCounts.j2 k2 false)=some r:=by rw [if_neg (show ¬ (false=true) by decide)] at H;exact H
         clear H
         have H:=H1
         clear H1
         have H':=Aside0.mk H
         clear H
         go_wp2
         go_meet
         case rel=>exact ⟨_,(false),(by first|rfl|(simp;done)|(simp [*];done)),(by first|exact H'|(subst_vars;exact H')),⟨by have:=HK1.out;have:=HK2.out;first|omega|exact Nat.le_refl _⟩,⟨by (with_reducible repeat (first|apply Kd.R_alloc|apply Kd.R_drewN|apply Kd.R_drew));exact HO_519000.out⟩,⟨by (with_reducible repeat (first|refine blk_drewN ?_ _|refine blk_drew ?_|refine blk_alloc ?_ _));exact BK510.out⟩,⟨by (with_reducible repeat (first|refine blk_drewN ?_ _|refine blk_drew ?_|refine blk_alloc ?_ _));exact BK518.out⟩,⟨by repeat (first|(with_reducible first|exact HB.out|apply below_alloc|apply pw_below_drewN|apply below_drew1|refine below_set ?_ GE510.out|refine below_set ?_ GE518.out)|exact HB.out)⟩⟩
       case rest =>
        clear HC62
        try clear c1
        try clear p2
        try clear c3
        try clear c4
        try clear c5
        try clear p5
        try clear q5
        try clear hx5
        try clear c6
        try clear p6
        try clear c7
        try clear c8
        try clear c9
        try clear c12
        try clear c16
        try clear c32
        try clear c32b0
        try clear c33
        try clear c34
        try clear c37
        try clear c38
        try clear c41
        try clear c53
        try clear p53
        try clear q53
        try clear hx53
        try clear c54
        try clear p54
        try clear q54
        try clear hx54
        try clear c55
        try clear p55
        try clear q55
        try clear hx55
        try clear c58
        try clear q58
        try clear c63
        try clear p64
        try clear c67
        try clear c68
        try clear c68b0
        try clear c68b1
        try clear c69
        try clear c71
        try clear c71b0
        try clear c71b1
        try clear c71b2
        try clear c73
        try clear c89
        try clear hcz64_0
        try clear hcz64_1
        try clear hcz64_2
        try clear hcz64_3
        try clear hcz74_0
        try clear hcz74_1
        try clear hcz74_2
        try clear hcz74_3
        try clear hcz77_0
        try clear hcz77_1
        try clear hcz77_2
        try clear hcz77_3
        try clear hcz90_0
        try clear hcz90_1
        try clear hcz90_2
        try clear hcz90_3
        try clear hfz64_0
        try clear hfz64_1
        try clear hfz64_2
        try clear hfz64_3
        try clear hfz74_0
        try clear hfz74_1
        try clear hfz74_2
        try clear hfz74_3
        try clear hfz77_0
        try clear hfz77_1
        try clear hfz77_2
        try clear hfz77_3
        try clear hfz90_0
        try clear hfz90_1
        try clear hfz90_2
        try clear hfz90_3
        try clear hx539_0
        try clear hx540_0
        try clear hx550_0
        try clear p539
        try clear p540
        try clear p550
        try clear q058
        try clear q539
        try clear q540
        try clear q550
        try clear q58
        obtain ⟨kq,x4_61,rfl,HA,HJ61,HO_519000,BK510,BK518,HB⟩:=hcut
        cases kq with
        | zero=>exact absurd HA.out (by simp [thresherlaw14_MergeCounts.j2])
        | succ kj61 =>
         have H:=HA.out
         clear HA
         simp only [thresherlaw14_MergeCounts.j2] at H
         obtain rfl:=Option.some.inj H
         go_wp2
         go_ret
         exact ⟨by first|rfl|(simp [errW_none,errW_some] <;> rfl)|(simp [*,errW_none,errW_some] <;> rfl),by repeat (first|(with_reducible first|exact HB.out|apply below_alloc|apply pw_below_drewN|apply below_drew1|refine below_set ?_ GE510.out|refine below_set ?_ GE518.out)|exact HB.out)⟩
end Go.Proofs.Ytfiandejapgkoaa.P

