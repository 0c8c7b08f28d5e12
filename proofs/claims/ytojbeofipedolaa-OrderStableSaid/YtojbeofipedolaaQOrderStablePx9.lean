/- Texts of OrderStable. Merged: Px9. -/
import Derived.Test.YtojbeofipedolaaQOrderStablePx0
import Derived.Test.YtojbeofipedolaaQOrderStablePx4
import Derived.Test.YtojbeofipedolaaQOrderStableHOrdE
namespace Go.Proofs.Ytojbeofipedolaa.P
open Go.RowKit Go.Proofs.YtojbeofipedolaaW.PrintWords Go.Proofs.YtojbeofipedolaaW.PrintLast Go.Proofs.YtojbeofipedolaaW.PrintMore
attribute [local go_sem] max2_int min2_int max_two min_two max_three min_three max_four min_four   -- for this text's walks alone
set_option linter.unusedVariables false
set_option linter.unusedSimpArgs false
mutual
def thresherlaw09_OrderStable.j1 : Nat→List Int→Bool→List (List (S41))→List Int→Int→Int→Int→Option (Bool)
 | 0,_,_,_,_,_,_,_=>none
 | k + 1,x0,x3,x5,x233000,x233001,x233002,x233003=>(order_Sort.f k x233000 x233001 x233002 x233003 x5).bind fun t243=>(if (t243.length : Int)=(x5.length : Int) then (thresherlaw09_OrderStable.l1 k x0 x3 x5 t243 0) else (some false))
def thresherlaw09_OrderStable.l1 : Nat→List Int→Bool→List (List (S41))→List (List (S41))→Int→Option (Bool)
 | 0,_,_,_,_,_=>none
 | k + 1,x0,x3,x5,x7,x8=>if x8 < (x7.length : Int) then (if 0≤x8 then (if ((rd_L5 x7 x8).length : Int)=2 then (if 1 < ((rd_L5 x7 x8).length : Int) then (if ((rd_T41 (rd_L5 x7 x8) 1).f0) < 0 then (thresherlaw09_OrderStable.j3 k x0 x3 x5 x7 x8 true) else (if ((rd_T41 (rd_L5 x7 x8) 1).f0) ≥ (x5.length : Int) then (thresherlaw09_OrderStable.j3 k x0 x3 x5 x7 x8 true) else (if 0≤((rd_T41 (rd_L5 x7 x8) 1).f0) then (if ((rd_T41 (rd_L5 x7 x8) 1).f0) < (x0.length : Int) then (if 0 < ((rd_L5 x7 x8).length : Int) then (thresherlaw09_OrderStable.j3 k x0 x3 x5 x7 x8 ((rd x0 ((rd_T41 (rd_L5 x7 x8) 1).f0)) != ((rd_T41 (rd_L5 x7 x8) 0).f0))) else (none)) else (none)) else (none)))) else (none)) else (thresherlaw09_OrderStable.j3 k x0 x3 x5 x7 x8 true)) else (none)) else (some x3)
def thresherlaw09_OrderStable.j3 : Nat→List Int→Bool→List (List (S41))→List (List (S41))→Int→Bool→Option (Bool)
 | 0,_,_,_,_,_,_=>none
 | k + 1,x0,x3,x5,x7,x8,x95=>if x95=true then (some false) else (if x8 > 0 then (if 0≤(wrap64 (x8 - 1)) then (if (wrap64 (x8 - 1)) < (x7.length : Int) then (if 0 < ((rd_L5 x7 (wrap64 (x8 - 1))).length : Int) then (if 0≤x8 then (if x8 < (x7.length : Int) then (if 0 < ((rd_L5 x7 x8).length : Int) then (if ((rd_T41 (rd_L5 x7 (wrap64 (x8 - 1))) 0).f0) > ((rd_T41 (rd_L5 x7 x8) 0).f0) then (thresherlaw09_OrderStable.j4 k x0 x3 x5 x7 x8 true) else (if ((rd_T41 (rd_L5 x7 (wrap64 (x8 - 1))) 0).f0)=((rd_T41 (rd_L5 x7 x8) 0).f0) then (if 1 < ((rd_L5 x7 (wrap64 (x8 - 1))).length : Int) then (if 1 < ((rd_L5 x7 x8).length : Int) then (thresherlaw09_OrderStable.j4 k x0 x3 x5 x7 x8 (decide (((rd_T41 (rd_L5 x7 (wrap64 (x8 - 1))) 1).f0) ≥ ((rd_T41 (rd_L5 x7 x8) 1).f0)))) else (none)) else (none)) else (thresherlaw09_OrderStable.j4 k x0 x3 x5 x7 x8 false))) else (none)) else (none)) else (none)) else (none)) else (none)) else (none)) else (thresherlaw09_OrderStable.j4 k x0 x3 x5 x7 x8 false))
def thresherlaw09_OrderStable.j4 : Nat→List Int→Bool→List (List (S41))→List (List (S41))→Int→Bool→Option (Bool)
 | 0,_,_,_,_,_,_=>none
 | k + 1,x0,x3,x5,x7,x8,x151=>if x151=true then (some false) else (thresherlaw09_OrderStable.l1 k x0 x3 x5 x7 (wrap64 (x8 + 1)))
def thresherlaw09_OrderStable.l0 : Nat→List Int→Bool→List (List (S41))→Int→List Int→Int→Int→Int→Option (Bool)
 | 0,_,_,_,_,_,_,_,_=>none
 | k + 1,x0,x3,x5,x6,x233000,x233001,x233002,x233003=>if x6 < (x0.length : Int) then (if x6 < 60 then (if 0≤x6 then (if x5.length < 5864062014805 then (thresherlaw09_OrderStable.l0 k x0 x3 (x5 ++ [(([(⟨rd x0 x6,(⟨#[]⟩ : ByteArray)⟩ : S41),(⟨x6,(⟨#[]⟩ : ByteArray)⟩ : S41)] : List (S41)))]) (wrap64 (x6 + 1)) x233000 x233001 x233002 x233003) else (none)) else (none)) else (thresherlaw09_OrderStable.j1 k x0 x3 x5 x233000 x233001 x233002 x233003)) else (thresherlaw09_OrderStable.j1 k x0 x3 x5 x233000 x233001 x233002 x233003)
end
def thresherlaw09_OrderStable.f (k : Nat) (l0 : List Int) : Option (Bool):=(thresherlaw09_shown.f k).bind fun t228=>(thresherlaw09_OrderStable.l0 k l0 t228 (([] : List (List (S41)))) 0 (([1,1] : List Int)) 1 1 4)
theorem thresherlaw09_OrderStable.mono_l : ∀ k,(∀ y0 y1 y2 y3 y4 y5 y6,LeO (thresherlaw09_OrderStable.j1 k y0 y1 y2 y3 y4 y5 y6) (thresherlaw09_OrderStable.j1 (k + 1) y0 y1 y2 y3 y4 y5 y6))∧(∀ y0 y1 y2 y3 y4,LeO (thresherlaw09_OrderStable.l1 k y0 y1 y2 y3 y4) (thresherlaw09_OrderStable.l1 (k + 1) y0 y1 y2 y3 y4))∧(∀ y0 y1 y2 y3 y4 y5,LeO (thresherlaw09_OrderStable.j3 k y0 y1 y2 y3 y4 y5) (thresherlaw09_OrderStable.j3 (k + 1) y0 y1 y2 y3 y4 y5))∧(∀ y0 y1 y2 y3 y4 y5,LeO (thresherlaw09_OrderStable.j4 k y0 y1 y2 y3 y4 y5) (thresherlaw09_OrderStable.j4 (k + 1) y0 y1 y2 y3 y4 y5))∧(∀ y0 y1 y2 y3 y4 y5 y6 y7,LeO (thresherlaw09_OrderStable.l0 k y0 y1 y2 y3 y4 y5 y6 y7) (thresherlaw09_OrderStable.l0 (k + 1) y0 y1 y2 y3 y4 y5 y6 y7))
 | 0=>⟨fun _ _ _ _ _ _ _ r h=>by simp [thresherlaw09_OrderStable.j1] at h,fun _ _ _ _ _ r h=>by simp [thresherlaw09_OrderStable.l1] at h,fun _ _ _ _ _ _ r h=>by simp [thresherlaw09_OrderStable.j3] at h,fun _ _ _ _ _ _ r h=>by simp [thresherlaw09_OrderStable.j4] at h,fun _ _ _ _ _ _ _ _ r h=>by simp [thresherlaw09_OrderStable.l0] at h⟩
 | k + 1=>by
  obtain ⟨ih0,ih1,ih2,ih3,ih4⟩:=thresherlaw09_OrderStable.mono_l k
  refine ⟨?_,?_,?_,?_,?_⟩
  ·intro y0 y1 y2 y3 y4 y5 y6
   unfold thresherlaw09_OrderStable.j1
   repeat' first
   | (with_reducible exact ih0 _ _ _ _ _ _ _)
   | (with_reducible exact ih1 _ _ _ _ _)
   | (with_reducible exact ih2 _ _ _ _ _ _)
   | (with_reducible exact ih3 _ _ _ _ _ _)
   | (with_reducible exact ih4 _ _ _ _ _ _ _ _)
   | (with_reducible exact order_Sort.mono _ _ _ _ _ _)
   | (with_reducible exact thresherlaw09_shown.mono _)
   | (with_reducible exact LeO.refl _)
   | (with_reducible exact LeO.none _)
   | (with_reducible refine LeO.ite ?_ ?_)
   | (with_reducible refine LeO.bind ?_ (fun _=>?_))
   | exact ih0 _ _ _ _ _ _ _
   | exact ih1 _ _ _ _ _
   | exact ih2 _ _ _ _ _ _
   | exact ih3 _ _ _ _ _ _
   | exact ih4 _ _ _ _ _ _ _ _
   | exact order_Sort.mono _ _ _ _ _ _
   | exact thresherlaw09_shown.mono _
   | exact LeO.none _
   | refine LeO.ite ?_ ?_
   | refine LeO.bind ?_ (fun _=>?_)
  ·intro y0 y1 y2 y3 y4
   unfold thresherlaw09_OrderStable.l1
   repeat' first
   | (with_reducible exact ih0 _ _ _ _ _ _ _)
   | (with_reducible exact ih1 _ _ _ _ _)
   | (with_reducible exact ih2 _ _ _ _ _ _)
   | (with_reducible exact ih3 _ _ _ _ _ _)
   | (with_reducible exact ih4 _ _ _ _ _ _ _ _)
   | (with_reducible exact order_Sort.mono _ _ _ _ _ _)
   | (with_reducible exact thresherlaw09_shown.mono _)
   | (with_reducible exact LeO.refl _)
   | (with_reducible exact LeO.none _)
   | (with_reducible refine LeO.ite ?_ ?_)
   | (with_reducible refine LeO.bind ?_ (fun _=>?_))
   | exact ih0 _ _ _ _ _ _ _
   | exact ih1 _ _ _ _ _
   | exact ih2 _ _ _ _ _ _
   | exact ih3 _ _ _ _ _ _
   | exact ih4 _ _ _ _ _ _ _ _
   | exact order_Sort.mono _ _ _ _ _ _
   | exact thresherlaw09_shown.mono _
   | exact LeO.none _
   | refine LeO.ite ?_ ?_
   | refine LeO.bind ?_ (fun _=>?_)
  ·intro y0 y1 y2 y3 y4 y5
   unfold thresherlaw09_OrderStable.j3
   repeat' first
   | (with_reducible exact ih0 _ _ _ _ _ _ _)
   | (with_reducible exact ih1 _ _ _ _ _)
   | (with_reducible exact ih2 _ _ _ _ _ _)
   | (with_reducible exact ih3 _ _ _ _ _ _)
   | (with_reducible exact ih4 _ _ _ _ _ _ _ _)
   | (with_reducible exact order_Sort.mono _ _ _ _ _ _)
   | (with_reducible exact thresherlaw09_shown.mono _)
   | (with_reducible exact LeO.refl _)
   | (with_reducible exact LeO.none _)
   | (with_reducible refine LeO.ite ?_ ?_)
   | (with_reducible refine LeO.bind ?_ (fun _=>?_))
   | exact ih0 _ _ _ _ _ _ _
   | exact ih1 _ _ _ _ _
   | exact ih2 _ _ _ _ _ _
   | exact ih3 _ _ _ _ _ _
   | exact ih4 _ _ _ _ _ _ _ _
   | exact order_Sort.mono _ _ _ _ _ _
   | exact thresherlaw09_shown.mono _
   | exact LeO.none _
   | refine LeO.ite ?_ ?_
   | refine LeO.bind ?_ (fun _=>?_)
  ·intro y0 y1 y2 y3 y4 y5
   unfold thresherlaw09_OrderStable.j4
   repeat' first
   | (with_reducible exact ih0 _ _ _ _ _ _ _)
   | (with_reducible exact ih1 _ _ _ _ _)
   | (with_reducible exact ih2 _ _ _ _ _ _)
   | (with_reducible exact ih3 _ _ _ _ _ _)
   | (with_reducible exact ih4 _ _ _ _ _ _ _ _)
   | (with_reducible exact order_Sort.mono _ _ _ _ _ _)
   | (with_reducible exact thresherlaw09_shown.mono _)
   | (with_reducible exact LeO.refl _)
   | (with_reducible exact LeO.none _)
   | (with_reducible refine LeO.ite ?_ ?_)
   | (with_reducible refine LeO.bind ?_ (fun _=>?_))
   | exact ih0 _ _ _ _ _ _ _
   | exact ih1 _ _ _ _ _
   | exact ih2 _ _ _ _ _ _
   | exact ih3 _ _ _ _ _ _
   | exact ih4 _ _ _ _ _ _ _ _
   | exact order_Sort.mono _ _ _ _ _ _
   | exact thresherlaw09_shown.mono _
   | exact LeO.none _
   | refine LeO.ite ?_ ?_
   | refine LeO.bind ?_ (fun _=>?_)
  ·intro y0 y1 y2 y3 y4 y5 y6 y7
   unfold thresherlaw09_OrderStable.l0
   repeat' first
   | (with_reducible exact ih0 _ _ _ _ _ _ _)
   | (with_reducible exact ih1 _ _ _ _ _)
   | (with_reducible exact ih2 _ _ _ _ _ _)
   | (with_reducible exact ih3 _ _ _ _ _ _)
   | (with_reducible exact ih4 _ _ _ _ _ _ _ _)
   | (with_reducible exact order_Sort.mono _ _ _ _ _ _)
   | (with_reducible exact thresherlaw09_shown.mono _)
   | (with_reducible exact LeO.refl _)
   | (with_reducible exact LeO.none _)
   | (with_reducible refine LeO.ite ?_ ?_)
   | (with_reducible refine LeO.bind ?_ (fun _=>?_))
   | exact ih0 _ _ _ _ _ _ _
   | exact ih1 _ _ _ _ _
   | exact ih2 _ _ _ _ _ _
   | exact ih3 _ _ _ _ _ _
   | exact ih4 _ _ _ _ _ _ _ _
   | exact order_Sort.mono _ _ _ _ _ _
   | exact thresherlaw09_shown.mono _
   | exact LeO.none _
   | refine LeO.ite ?_ ?_
   | refine LeO.bind ?_ (fun _=>?_)
theorem thresherlaw09_OrderStable.mono : ∀ a0 k,LeO (thresherlaw09_OrderStable.f k a0) (thresherlaw09_OrderStable.f (k + 1) a0):=by
 intro a0 k
 obtain ⟨ih0,ih1,ih2,ih3,ih4⟩:=thresherlaw09_OrderStable.mono_l k
 unfold thresherlaw09_OrderStable.f
 repeat' first
   | (with_reducible exact ih0 _ _ _ _ _ _ _)
   | (with_reducible exact ih1 _ _ _ _ _)
   | (with_reducible exact ih2 _ _ _ _ _ _)
   | (with_reducible exact ih3 _ _ _ _ _ _)
   | (with_reducible exact ih4 _ _ _ _ _ _ _ _)
   | (with_reducible exact order_Sort.mono _ _ _ _ _ _)
   | (with_reducible exact thresherlaw09_shown.mono _)
   | (with_reducible exact LeO.refl _)
   | (with_reducible exact LeO.none _)
   | (with_reducible refine LeO.ite ?_ ?_)
   | (with_reducible refine LeO.bind ?_ (fun _=>?_))
   | exact ih0 _ _ _ _ _ _ _
   | exact ih1 _ _ _ _ _
   | exact ih2 _ _ _ _ _ _
   | exact ih3 _ _ _ _ _ _
   | exact ih4 _ _ _ _ _ _ _ _
   | exact order_Sort.mono _ _ _ _ _ _
   | exact thresherlaw09_shown.mono _
   | exact LeO.none _
   | refine LeO.ite ?_ ?_
   | refine LeO.bind ?_ (fun _=>?_)
set_option maxHeartbeats 8000000 in
set_option maxRecDepth 100000 in
theorem thresherlaw09_OrderStable.calls (k : Nat) (A0 : Option Addr) (c0 : Nat) (l0 : List Int) (r : Bool) (w : World) (hr0 : Kd.C (Kd.int .i64) w A0 l0.length l0) (hc0 : l0.length≤c0) (h : thresherlaw09_OrderStable.f k l0=some r) :
  Calls Try.prog 4 #[.slice A0 l0.length c0] w fun e w'=>e=.returned (.bool r)∧Below w.heap.size w w':=by
 have hu31:=Try.underlying31
 have hu41:=Try.underlying41
 have HR0:=Aside0.mk hr0
 have HC0:=Aside0.mk hc0
 clear hr0 hc0
 have HB:=Aside0.mk (Below.refl w.heap.size w)
 have H : ((thresherlaw09_shown.f k).bind fun t228=>(thresherlaw09_OrderStable.l0 k l0 t228 (([] : List (List (S41)))) 0 (([1,1] : List Int)) 1 1 4))=some r:=h
 clear h
 replace H:=Option.bind_eq_some_iff.mp H
 obtain ⟨t228,A20,H⟩:=H
 replace H : (thresherlaw09_OrderStable.l0 k l0 t228 (([] : List (List (S41)))) 0 (([1,1] : List Int)) 1 1 4)=some r:=H
 have A2:=Aside0.mk A20
 clear A20
 obtain ⟨y229,hy229⟩ : ∃ y_ : List Int,y_=(([1,1] : List Int)):=⟨_,rfl⟩
 replace H : (thresherlaw09_OrderStable.l0 k l0 t228 (([] : List (List (S41)))) 0 y229 1 1 4)=some r:=by first|(rw [hy229];with_reducible exact H)|(have H2_:=(Option.bind_some _ _).symm.trans H;rw [hy229];with_reducible exact H2_)|(have H2_:=(Option.bind_some _ _).symm.trans H;with_reducible exact H2_)|with_reducible exact H|(rw [hy229];exact H)|exact H
 have Ny229:=Aside0.mk hy229
 clear hy229
 obtain ⟨y233,hy233⟩ : ∃ y_ : List (List (S41)),y_=(([] : List (List (S41)))):=⟨_,rfl⟩
 replace H : (thresherlaw09_OrderStable.l0 k l0 t228 y233 0 y229 1 1 4)=some r:=by first|(rw [hy233];with_reducible exact H)|(have H2_:=(Option.bind_some _ _).symm.trans H;rw [hy233];with_reducible exact H2_)|(have H2_:=(Option.bind_some _ _).symm.trans H;with_reducible exact H2_)|with_reducible exact H|(rw [hy233];exact H)|exact H
 have Ny233:=Aside0.mk hy233
 clear hy233
 have HC3:=Aside0.mk H
 clear H
 go_enter Try.func4,Try.ntmps4
 go_upto_block 0 with (first|(go_at_call 8;(with_reducible refine (thresherlaw09_shown.calls k  t228 _ A2.out).mono ?_);rintro e w4 ⟨rfl,hb⟩;have n0_:=Aside0.mk (below_step (by repeat (first|(with_reducible first|exact HB.out|apply below_alloc|apply pw_below_drewN|apply below_drew1)|exact HB.out)) hb);clear HB;have HB:=n0_;clear n0_;(try clear hb);(try clear hb2);(try clear hk);(try clear hi))|((with_reducible refine gate_dst (N:=10) rfl ?_);(try (refine gate_guard (by rfl) ?_;dsimp only));refine Kd.R_lit (Kd.int .i64) _ 3 ?hg (N:=10) ?hd (xs:=([1,1] : List Int)) (inner:=[.int .i64 1,.int .i64 1]) (ok:=fun _=>True) (okp:=fun _=>True) ?hr ?hp (fun _ hk=>hk) trivial (Below.refl _ _) (Nat.le_refl _) (by simp) ?_;(case hd=>rfl);(case hg=>rfl);(case hr=>first|(go_simp;done)|(go_simp;rfl));(case hp=>exact (Reps.one (show Kd.M (Kd.int .i64) _ _ _ 1 [.int .i64 1] from rfl) (Reps.one (show Kd.M (Kd.int .i64) _ _ _ 1 [.int .i64 1] from rfl) (Reps.none _ _))));intro v230 w5 ho6 hb hg_ hnew_;clear hg_ hnew_;(first|rw [← Ny229.out] at ho6|(simp only [Int.reduceToNat] at ho6;rw [← Ny229.out] at ho6));have n0_:=Aside0.mk (Kd.R_lower ho6 (below_size (by repeat (first|(with_reducible first|exact HB.out|apply below_alloc|apply pw_below_drewN|apply below_drew1)|exact HB.out))));have n1_:=Aside0.mk (below_step (by repeat (first|(with_reducible first|exact HB.out|apply below_alloc|apply pw_below_drewN|apply below_drew1)|exact HB.out)) hb);clear HB;have HO231:=n0_;have HB:=n1_;clear n0_ n1_;clear hb ho6;obtain ⟨Ao7,co7,eo7⟩:=Kd.R_slice HO231.out;subst eo7)|((with_reducible refine gate_dst (N:=4) rfl ?_);(try (refine gate_guard (by rfl) ?_;dsimp only));refine box_event ?hg (N:=4) ?hd (cs:=#[.slice none 0 0,.int .i64 0,.int .i64 0,.int .i64 0]) (t:=31) ?hr ?_;(case hd=>rfl);(case hg=>rfl);(case hr=>first|(go_simp;done)|(go_simp;rfl));intro gb232 hg w8 hbox hb;have n0_:=Aside0.mk (Kd.R_below (by (with_reducible repeat (first|apply Kd.R_alloc|apply Kd.R_drewN|apply Kd.R_drew));exact HO231.out) hb);have n1_:=Aside0.mk (below_step (by repeat (first|(with_reducible first|exact HB.out|apply below_alloc|apply pw_below_drewN|apply below_drew1)|exact HB.out)) hb);have n2_:=Aside0.mk (hbox);have n3_:=Aside0.mk ((by rw [hg];exact (below_size (by repeat (first|(with_reducible first|exact HB.out|apply below_alloc|apply pw_below_drewN|apply below_drew1)|exact HB.out))) : w.heap.size≤gb232));have n4_:=Aside0.mk ((by rw [hg];exact (below_size (by repeat (first|(with_reducible first|exact HB.out|apply below_alloc|apply pw_below_drewN|apply below_drew1)|exact HB.out))) : w.heap.size≤gb232));clear HO231;clear HB;have HO231:=n0_;have HB:=n1_;have BK232:=n2_;have GW232:=n3_;have GE232:=n4_;clear n0_ n1_ n2_ n3_ n4_;clear hb hbox hg;have hcz9_0 : w8.cell? ⟨gb232,0,none⟩=some (.slice none 0 0):=(blk_cell BK232.out 0).trans rfl;have hcz9_1 : w8.cell? ⟨gb232,1,none⟩=some (.int .i64 0):=(blk_cell BK232.out 1).trans rfl;have hcz9_2 : w8.cell? ⟨gb232,2,none⟩=some (.int .i64 0):=(blk_cell BK232.out 2).trans rfl;have hcz9_3 : w8.cell? ⟨gb232,3,none⟩=some (.int .i64 0):=(blk_cell BK232.out 3).trans rfl;have hfz9_0:=blk_frozen BK232.out 0;have hfz9_1:=blk_frozen BK232.out 1;have hfz9_2:=blk_frozen BK232.out 2;have hfz9_3:=blk_frozen BK232.out 3)|((with_reducible refine gate_dst (N:=12) rfl ?_);(try (refine gate_guard (by rfl) ?_;dsimp only));refine Kd.N_lit (Kd.slice 41 k41) _ 27 ?hg (N':=12) ?hd (xs:=([] : List (List (S41)))) (inner:=[]) (ok:=(fun k_=>some k_≠(.slice Ao7 y229.length co7 : Value).ownBlock∧k_≠gb232)) (okp:=(fun k_=>some k_≠(.slice Ao7 y229.length co7 : Value).ownBlock∧k_≠gb232)) ?hr ?hp (fun _ hk=>hk) ((show ∀ k_,_≤k_→(fun k_=>some k_≠(.slice Ao7 y229.length co7 : Value).ownBlock∧k_≠gb232) k_ from fun k_ hk=>⟨Kd.fresh' (Kd.R_lt (by (with_reducible repeat (first|apply Kd.R_alloc|apply Kd.R_drewN|apply Kd.R_drew));exact (Kd.R_mono (Kd.R_far (p:=⟨gb232,3,none⟩) (Kd.R_far (p:=⟨gb232,2,none⟩) (Kd.R_far (p:=⟨gb232,1,none⟩) (Kd.R_far (p:=⟨gb232,0,none⟩) (Kd.R_types HO231.out BK232.out (by decide)) (fun _ hk=>hk.2) (.slice Ao7 y229.length co7)) (fun _ hk=>hk.2) (.int .i64 1)) (fun _ hk=>hk.2) (.int .i64 1)) (fun _ hk=>hk.2) (.int .i64 4)) (fun _ h_=>h_.1)))) k_ hk,Kd.freshB (g:=gb232) (o:=.cells #[.slice Ao7 y229.length co7,.int .i64 1,.int .i64 1,.int .i64 4] 31 (0,0)) (by (with_reducible repeat (first|refine blk_drewN ?_ _|refine blk_drew ?_|refine blk_alloc ?_ _));refine blk_put (cs:=#[.slice Ao7 y229.length co7,.int .i64 1,.int .i64 1,.int .i64 0]) ?_ 3 _ rfl;(with_reducible repeat (first|refine blk_drewN ?_ _|refine blk_drew ?_|refine blk_alloc ?_ _));refine blk_put (cs:=#[.slice Ao7 y229.length co7,.int .i64 1,.int .i64 0,.int .i64 0]) ?_ 2 _ rfl;(with_reducible repeat (first|refine blk_drewN ?_ _|refine blk_drew ?_|refine blk_alloc ?_ _));refine blk_put (cs:=#[.slice Ao7 y229.length co7,.int .i64 0,.int .i64 0,.int .i64 0]) ?_ 1 _ rfl;(with_reducible repeat (first|refine blk_drewN ?_ _|refine blk_drew ?_|refine blk_alloc ?_ _));refine blk_put (cs:=#[.slice none 0 0,.int .i64 0,.int .i64 0,.int .i64 0]) ?_ 0 _ rfl;(with_reducible repeat (first|refine blk_drewN ?_ _|refine blk_drew ?_|refine blk_alloc ?_ _));exact BK232.out) k_ hk⟩) _ (Nat.le_refl _)) (Below.refl _ _) (Nat.le_refl _) (by simp) ?_;(case hd=>rfl);(case hg=>rfl);(case hr=>first|(go_simp;done)|(go_simp;rfl));(case hp=>exact (Reps.none _ _));intro v234 w10 ho11 hb hg_ hnew_;clear hg_ hnew_;(first|rw [← Ny233.out] at ho11|(simp only [Int.reduceToNat] at ho11;rw [← Ny233.out] at ho11));have n0_:=Aside0.mk (Kd.R_below (by (with_reducible repeat (first|apply Kd.R_alloc|apply Kd.R_drewN|apply Kd.R_drew));exact (Kd.R_mono (Kd.R_far (p:=⟨gb232,3,none⟩) (Kd.R_far (p:=⟨gb232,2,none⟩) (Kd.R_far (p:=⟨gb232,1,none⟩) (Kd.R_far (p:=⟨gb232,0,none⟩) (Kd.R_types HO231.out BK232.out (by decide)) (fun _ hk=>hk.2) (.slice Ao7 y229.length co7)) (fun _ hk=>hk.2) (.int .i64 1)) (fun _ hk=>hk.2) (.int .i64 1)) (fun _ hk=>hk.2) (.int .i64 4)) (fun _ h_=>h_.1))) hb);have n1_:=Aside0.mk (Kd.N_lower ho11 (below_size (by repeat (first|(with_reducible first|exact HB.out|apply below_alloc|apply pw_below_drewN|apply below_drew1|refine below_set ?_ GE232.out)|exact HB.out))));have n2_:=Aside0.mk (blk_below (g:=gb232) (o:=.cells #[.slice Ao7 y229.length co7,.int .i64 1,.int .i64 1,.int .i64 4] 31 (0,0)) (by (with_reducible repeat (first|refine blk_drewN ?_ _|refine blk_drew ?_|refine blk_alloc ?_ _));refine blk_put (cs:=#[.slice Ao7 y229.length co7,.int .i64 1,.int .i64 1,.int .i64 0]) ?_ 3 _ rfl;(with_reducible repeat (first|refine blk_drewN ?_ _|refine blk_drew ?_|refine blk_alloc ?_ _));refine blk_put (cs:=#[.slice Ao7 y229.length co7,.int .i64 1,.int .i64 0,.int .i64 0]) ?_ 2 _ rfl;(with_reducible repeat (first|refine blk_drewN ?_ _|refine blk_drew ?_|refine blk_alloc ?_ _));refine blk_put (cs:=#[.slice Ao7 y229.length co7,.int .i64 0,.int .i64 0,.int .i64 0]) ?_ 1 _ rfl;(with_reducible repeat (first|refine blk_drewN ?_ _|refine blk_drew ?_|refine blk_alloc ?_ _));refine blk_put (cs:=#[.slice none 0 0,.int .i64 0,.int .i64 0,.int .i64 0]) ?_ 0 _ rfl;(with_reducible repeat (first|refine blk_drewN ?_ _|refine blk_drew ?_|refine blk_alloc ?_ _));exact BK232.out) hb);have n3_:=Aside0.mk (below_step (by repeat (first|(with_reducible first|exact HB.out|apply below_alloc|apply pw_below_drewN|apply below_drew1|refine below_set ?_ GE232.out)|exact HB.out)) hb);clear HO231;clear BK232;clear HB;have HO231:=n0_;have HO235:=n1_;have BK232:=n2_;have HB:=n3_;clear n0_ n1_ n2_ n3_;clear hb ho11))
 repeat (go_quiet (first|(go_at_call 8;(with_reducible refine (thresherlaw09_shown.calls k  t228 _ A2.out).mono ?_);rintro e w4 ⟨rfl,hb⟩;have n0_:=Aside0.mk (below_step (by repeat (first|(with_reducible first|exact HB.out|apply below_alloc|apply pw_below_drewN|apply below_drew1)|exact HB.out)) hb);clear HB;have HB:=n0_;clear n0_;(try clear hb);(try clear hb2);(try clear hk);(try clear hi))|((with_reducible refine gate_dst (N:=10) rfl ?_);(try (refine gate_guard (by rfl) ?_;dsimp only));refine Kd.R_lit (Kd.int .i64) _ 3 ?hg (N:=10) ?hd (xs:=([1,1] : List Int)) (inner:=[.int .i64 1,.int .i64 1]) (ok:=fun _=>True) (okp:=fun _=>True) ?hr ?hp (fun _ hk=>hk) trivial (Below.refl _ _) (Nat.le_refl _) (by simp) ?_;(case hd=>rfl);(case hg=>rfl);(case hr=>first|(go_simp;done)|(go_simp;rfl));(case hp=>exact (Reps.one (show Kd.M (Kd.int .i64) _ _ _ 1 [.int .i64 1] from rfl) (Reps.one (show Kd.M (Kd.int .i64) _ _ _ 1 [.int .i64 1] from rfl) (Reps.none _ _))));intro v230 w5 ho6 hb hg_ hnew_;clear hg_ hnew_;(first|rw [← Ny229.out] at ho6|(simp only [Int.reduceToNat] at ho6;rw [← Ny229.out] at ho6));have n0_:=Aside0.mk (Kd.R_lower ho6 (below_size (by repeat (first|(with_reducible first|exact HB.out|apply below_alloc|apply pw_below_drewN|apply below_drew1)|exact HB.out))));have n1_:=Aside0.mk (below_step (by repeat (first|(with_reducible first|exact HB.out|apply below_alloc|apply pw_below_drewN|apply below_drew1)|exact HB.out)) hb);clear HB;have HO231:=n0_;have HB:=n1_;clear n0_ n1_;clear hb ho6;obtain ⟨Ao7,co7,eo7⟩:=Kd.R_slice HO231.out;subst eo7)|((with_reducible refine gate_dst (N:=4) rfl ?_);(try (refine gate_guard (by rfl) ?_;dsimp only));refine box_event ?hg (N:=4) ?hd (cs:=#[.slice none 0 0,.int .i64 0,.int .i64 0,.int .i64 0]) (t:=31) ?hr ?_;(case hd=>rfl);(case hg=>rfl);(case hr=>first|(go_simp;done)|(go_simp;rfl));intro gb232 hg w8 hbox hb;have n0_:=Aside0.mk (Kd.R_below (by (with_reducible repeat (first|apply Kd.R_alloc|apply Kd.R_drewN|apply Kd.R_drew));exact HO231.out) hb);have n1_:=Aside0.mk (below_step (by repeat (first|(with_reducible first|exact HB.out|apply below_alloc|apply pw_below_drewN|apply below_drew1)|exact HB.out)) hb);have n2_:=Aside0.mk (hbox);have n3_:=Aside0.mk ((by rw [hg];exact (below_size (by repeat (first|(with_reducible first|exact HB.out|apply below_alloc|apply pw_below_drewN|apply below_drew1)|exact HB.out))) : w.heap.size≤gb232));have n4_:=Aside0.mk ((by rw [hg];exact (below_size (by repeat (first|(with_reducible first|exact HB.out|apply below_alloc|apply pw_below_drewN|apply below_drew1)|exact HB.out))) : w.heap.size≤gb232));clear HO231;clear HB;have HO231:=n0_;have HB:=n1_;have BK232:=n2_;have GW232:=n3_;have GE232:=n4_;clear n0_ n1_ n2_ n3_ n4_;clear hb hbox hg;have hcz9_0 : w8.cell? ⟨gb232,0,none⟩=some (.slice none 0 0):=(blk_cell BK232.out 0).trans rfl;have hcz9_1 : w8.cell? ⟨gb232,1,none⟩=some (.int .i64 0):=(blk_cell BK232.out 1).trans rfl;have hcz9_2 : w8.cell? ⟨gb232,2,none⟩=some (.int .i64 0):=(blk_cell BK232.out 2).trans rfl;have hcz9_3 : w8.cell? ⟨gb232,3,none⟩=some (.int .i64 0):=(blk_cell BK232.out 3).trans rfl;have hfz9_0:=blk_frozen BK232.out 0;have hfz9_1:=blk_frozen BK232.out 1;have hfz9_2:=blk_frozen BK232.out 2;have hfz9_3:=blk_frozen BK232.out 3)|((with_reducible refine gate_dst (N:=12) rfl ?_);(try (refine gate_guard (by rfl) ?_;dsimp only));refine Kd.N_lit (Kd.slice 41 k41) _ 27 ?hg (N':=12) ?hd (xs:=([] : List (List (S41)))) (inner:=[]) (ok:=(fun k_=>some k_≠(.slice Ao7 y229.length co7 : Value).ownBlock∧k_≠gb232)) (okp:=(fun k_=>some k_≠(.slice Ao7 y229.length co7 : Value).ownBlock∧k_≠gb232)) ?hr ?hp (fun _ hk=>hk) ((show ∀ k_,_≤k_→(fun k_=>some k_≠(.slice Ao7 y229.length co7 : Value).ownBlock∧k_≠gb232) k_ from fun k_ hk=>⟨Kd.fresh' (Kd.R_lt (by (with_reducible repeat (first|apply Kd.R_alloc|apply Kd.R_drewN|apply Kd.R_drew));exact (Kd.R_mono (Kd.R_far (p:=⟨gb232,3,none⟩) (Kd.R_far (p:=⟨gb232,2,none⟩) (Kd.R_far (p:=⟨gb232,1,none⟩) (Kd.R_far (p:=⟨gb232,0,none⟩) (Kd.R_types HO231.out BK232.out (by decide)) (fun _ hk=>hk.2) (.slice Ao7 y229.length co7)) (fun _ hk=>hk.2) (.int .i64 1)) (fun _ hk=>hk.2) (.int .i64 1)) (fun _ hk=>hk.2) (.int .i64 4)) (fun _ h_=>h_.1)))) k_ hk,Kd.freshB (g:=gb232) (o:=.cells #[.slice Ao7 y229.length co7,.int .i64 1,.int .i64 1,.int .i64 4] 31 (0,0)) (by (with_reducible repeat (first|refine blk_drewN ?_ _|refine blk_drew ?_|refine blk_alloc ?_ _));refine blk_put (cs:=#[.slice Ao7 y229.length co7,.int .i64 1,.int .i64 1,.int .i64 0]) ?_ 3 _ rfl;(with_reducible repeat (first|refine blk_drewN ?_ _|refine blk_drew ?_|refine blk_alloc ?_ _));refine blk_put (cs:=#[.slice Ao7 y229.length co7,.int .i64 1,.int .i64 0,.int .i64 0]) ?_ 2 _ rfl;(with_reducible repeat (first|refine blk_drewN ?_ _|refine blk_drew ?_|refine blk_alloc ?_ _));refine blk_put (cs:=#[.slice Ao7 y229.length co7,.int .i64 0,.int .i64 0,.int .i64 0]) ?_ 1 _ rfl;(with_reducible repeat (first|refine blk_drewN ?_ _|refine blk_drew ?_|refine blk_alloc ?_ _));refine blk_put (cs:=#[.slice none 0 0,.int .i64 0,.int .i64 0,.int .i64 0]) ?_ 0 _ rfl;(with_reducible repeat (first|refine blk_drewN ?_ _|refine blk_drew ?_|refine blk_alloc ?_ _));exact BK232.out) k_ hk⟩) _ (Nat.le_refl _)) (Below.refl _ _) (Nat.le_refl _) (by simp) ?_;(case hd=>rfl);(case hg=>rfl);(case hr=>first|(go_simp;done)|(go_simp;rfl));(case hp=>exact (Reps.none _ _));intro v234 w10 ho11 hb hg_ hnew_;clear hg_ hnew_;(first|rw [← Ny233.out] at ho11|(simp only [Int.reduceToNat] at ho11;rw [← Ny233.out] at ho11));have n0_:=Aside0.mk (Kd.R_below (by (with_reducible repeat (first|apply Kd.R_alloc|apply Kd.R_drewN|apply Kd.R_drew));exact (Kd.R_mono (Kd.R_far (p:=⟨gb232,3,none⟩) (Kd.R_far (p:=⟨gb232,2,none⟩) (Kd.R_far (p:=⟨gb232,1,none⟩) (Kd.R_far (p:=⟨gb232,0,none⟩) (Kd.R_types HO231.out BK232.out (by decide)) (fun _ hk=>hk.2) (.slice Ao7 y229.length co7)) (fun _ hk=>hk.2) (.int .i64 1)) (fun _ hk=>hk.2) (.int .i64 1)) (fun _ hk=>hk.2) (.int .i64 4)) (fun _ h_=>h_.1))) hb);have n1_:=Aside0.mk (Kd.N_lower ho11 (below_size (by repeat (first|(with_reducible first|exact HB.out|apply below_alloc|apply pw_below_drewN|apply below_drew1|refine below_set ?_ GE232.out)|exact HB.out))));have n2_:=Aside0.mk (blk_below (g:=gb232) (o:=.cells #[.slice Ao7 y229.length co7,.int .i64 1,.int .i64 1,.int .i64 4] 31 (0,0)) (by (with_reducible repeat (first|refine blk_drewN ?_ _|refine blk_drew ?_|refine blk_alloc ?_ _));refine blk_put (cs:=#[.slice Ao7 y229.length co7,.int .i64 1,.int .i64 1,.int .i64 0]) ?_ 3 _ rfl;(with_reducible repeat (first|refine blk_drewN ?_ _|refine blk_drew ?_|refine blk_alloc ?_ _));refine blk_put (cs:=#[.slice Ao7 y229.length co7,.int .i64 1,.int .i64 0,.int .i64 0]) ?_ 2 _ rfl;(with_reducible repeat (first|refine blk_drewN ?_ _|refine blk_drew ?_|refine blk_alloc ?_ _));refine blk_put (cs:=#[.slice Ao7 y229.length co7,.int .i64 0,.int .i64 0,.int .i64 0]) ?_ 1 _ rfl;(with_reducible repeat (first|refine blk_drewN ?_ _|refine blk_drew ?_|refine blk_alloc ?_ _));refine blk_put (cs:=#[.slice none 0 0,.int .i64 0,.int .i64 0,.int .i64 0]) ?_ 0 _ rfl;(with_reducible repeat (first|refine blk_drewN ?_ _|refine blk_drew ?_|refine blk_alloc ?_ _));exact BK232.out) hb);have n3_:=Aside0.mk (below_step (by repeat (first|(with_reducible first|exact HB.out|apply below_alloc|apply pw_below_drewN|apply below_drew1|refine below_set ?_ GE232.out)|exact HB.out)) hb);clear HO231;clear BK232;clear HB;have HO231:=n0_;have HO235:=n1_;have BK232:=n2_;have HB:=n3_;clear n0_ n1_ n2_ n3_;clear hb ho11));go_upto_block 0 with (first|(go_at_call 8;(with_reducible refine (thresherlaw09_shown.calls k  t228 _ A2.out).mono ?_);rintro e w4 ⟨rfl,hb⟩;have n0_:=Aside0.mk (below_step (by repeat (first|(with_reducible first|exact HB.out|apply below_alloc|apply pw_below_drewN|apply below_drew1)|exact HB.out)) hb);clear HB;have HB:=n0_;clear n0_;(try clear hb);(try clear hb2);(try clear hk);(try clear hi))|((with_reducible refine gate_dst (N:=10) rfl ?_);(try (refine gate_guard (by rfl) ?_;dsimp only));refine Kd.R_lit (Kd.int .i64) _ 3 ?hg (N:=10) ?hd (xs:=([1,1] : List Int)) (inner:=[.int .i64 1,.int .i64 1]) (ok:=fun _=>True) (okp:=fun _=>True) ?hr ?hp (fun _ hk=>hk) trivial (Below.refl _ _) (Nat.le_refl _) (by simp) ?_;(case hd=>rfl);(case hg=>rfl);(case hr=>first|(go_simp;done)|(go_simp;rfl));(case hp=>exact (Reps.one (show Kd.M (Kd.int .i64) _ _ _ 1 [.int .i64 1] from rfl) (Reps.one (show Kd.M (Kd.int .i64) _ _ _ 1 [.int .i64 1] from rfl) (Reps.none _ _))));intro v230 w5 ho6 hb hg_ hnew_;clear hg_ hnew_;(first|rw [← Ny229.out] at ho6|(simp only [Int.reduceToNat] at ho6;rw [← Ny229.out] at ho6));have n0_:=Aside0.mk (Kd.R_lower ho6 (below_size (by repeat (first|(with_reducible first|exact HB.out|apply below_alloc|apply pw_below_drewN|apply below_drew1)|exact HB.out))));have n1_:=Aside0.mk (below_step (by repeat (first|(with_reducible first|exact HB.out|apply below_alloc|apply pw_below_drewN|apply below_drew1)|exact HB.out)) hb);clear HB;have HO231:=n0_;have HB:=n1_;clear n0_ n1_;clear hb ho6;obtain ⟨Ao7,co7,eo7⟩:=Kd.R_slice HO231.out;subst eo7)|((with_reducible refine gate_dst (N:=4) rfl ?_);(try (refine gate_guard (by rfl) ?_;dsimp only));refine box_event ?hg (N:=4) ?hd (cs:=#[.slice none 0 0,.int .i64 0,.int .i64 0,.int .i64 0]) (t:=31) ?hr ?_;(case hd=>rfl);(case hg=>rfl);(case hr=>first|(go_simp;done)|(go_simp;rfl));intro gb232 hg w8 hbox hb;have n0_:=Aside0.mk (Kd.R_below (by (with_reducible repeat (first|apply Kd.R_alloc|apply Kd.R_drewN|apply Kd.R_drew));exact HO231.out) hb);have n1_:=Aside0.mk (below_step (by repeat (first|(with_reducible first|exact HB.out|apply below_alloc|apply pw_below_drewN|apply below_drew1)|exact HB.out)) hb);have n2_:=Aside0.mk (hbox);have n3_:=Aside0.mk ((by rw [hg];exact (below_size (by repeat (first|(with_reducible first|exact HB.out|apply below_alloc|apply pw_below_drewN|apply below_drew1)|exact HB.out))) : w.heap.size≤gb232));have n4_:=Aside0.mk ((by rw [hg];exact (below_size (by repeat (first|(with_reducible first|exact HB.out|apply below_alloc|apply pw_below_drewN|apply below_drew1)|exact HB.out))) : w.heap.size≤gb232));clear HO231;clear HB;have HO231:=n0_;have HB:=n1_;have BK232:=n2_;have GW232:=n3_;have GE232:=n4_;clear n0_ n1_ n2_ n3_ n4_;clear hb hbox hg;have hcz9_0 : w8.cell? ⟨gb232,0,none⟩=some (.slice none 0 0):=(blk_cell BK232.out 0).trans rfl;have hcz9_1 : w8.cell? ⟨gb232,1,none⟩=some (.int .i64 0):=(blk_cell BK232.out 1).trans rfl;have hcz9_2 : w8.cell? ⟨gb232,2,none⟩=some (.int .i64 0):=(blk_cell BK232.out 2).trans rfl;have hcz9_3 : w8.cell? ⟨gb232,3,none⟩=some (.int .i64 0):=(blk_cell BK232.out 3).trans rfl;have hfz9_0:=blk_frozen BK232.out 0;have hfz9_1:=blk_frozen BK232.out 1;have hfz9_2:=blk_frozen BK232.out 2;have hfz9_3:=blk_frozen BK232.out 3)|((with_reducible refine gate_dst (N:=12) rfl ?_);(try (refine gate_guard (by rfl) ?_;dsimp only));refine Kd.N_lit (Kd.slice 41 k41) _ 27 ?hg (N':=12) ?hd (xs:=([] : List (List (S41)))) (inner:=[]) (ok:=(fun k_=>some k_≠(.slice Ao7 y229.length co7 : Value).ownBlock∧k_≠gb232)) (okp:=(fun k_=>some k_≠(.slice Ao7 y229.length co7 : Value).ownBlock∧k_≠gb232)) ?hr ?hp (fun _ hk=>hk) ((show ∀ k_,_≤k_→(fun k_=>some k_≠(.slice Ao7 y229.length co7 : Value).ownBlock∧k_≠gb232) k_ from fun k_ hk=>⟨Kd.fresh' (Kd.R_lt (by (with_reducible repeat (first|apply Kd.R_alloc|apply Kd.R_drewN|apply Kd.R_drew));exact (Kd.R_mono (Kd.R_far (p:=⟨gb232,3,none⟩) (Kd.R_far (p:=⟨gb232,2,none⟩) (Kd.R_far (p:=⟨gb232,1,none⟩) (Kd.R_far (p:=⟨gb232,0,none⟩) (Kd.R_types HO231.out BK232.out (by decide)) (fun _ hk=>hk.2) (.slice Ao7 y229.length co7)) (fun _ hk=>hk.2) (.int .i64 1)) (fun _ hk=>hk.2) (.int .i64 1)) (fun _ hk=>hk.2) (.int .i64 4)) (fun _ h_=>h_.1)))) k_ hk,Kd.freshB (g:=gb232) (o:=.cells #[.slice Ao7 y229.length co7,.int .i64 1,.int .i64 1,.int .i64 4] 31 (0,0)) (by (with_reducible repeat (first|refine blk_drewN ?_ _|refine blk_drew ?_|refine blk_alloc ?_ _));refine blk_put (cs:=#[.slice Ao7 y229.length co7,.int .i64 1,.int .i64 1,.int .i64 0]) ?_ 3 _ rfl;(with_reducible repeat (first|refine blk_drewN ?_ _|refine blk_drew ?_|refine blk_alloc ?_ _));refine blk_put (cs:=#[.slice Ao7 y229.length co7,.int .i64 1,.int .i64 0,.int .i64 0]) ?_ 2 _ rfl;(with_reducible repeat (first|refine blk_drewN ?_ _|refine blk_drew ?_|refine blk_alloc ?_ _));refine blk_put (cs:=#[.slice Ao7 y229.length co7,.int .i64 0,.int .i64 0,.int .i64 0]) ?_ 1 _ rfl;(with_reducible repeat (first|refine blk_drewN ?_ _|refine blk_drew ?_|refine blk_alloc ?_ _));refine blk_put (cs:=#[.slice none 0 0,.int .i64 0,.int .i64 0,.int .i64 0]) ?_ 0 _ rfl;(with_reducible repeat (first|refine blk_drewN ?_ _|refine blk_drew ?_|refine blk_alloc ?_ _));exact BK232.out) k_ hk⟩) _ (Nat.le_refl _)) (Below.refl _ _) (Nat.le_refl _) (by simp) ?_;(case hd=>rfl);(case hg=>rfl);(case hr=>first|(go_simp;done)|(go_simp;rfl));(case hp=>exact (Reps.none _ _));intro v234 w10 ho11 hb hg_ hnew_;clear hg_ hnew_;(first|rw [← Ny233.out] at ho11|(simp only [Int.reduceToNat] at ho11;rw [← Ny233.out] at ho11));have n0_:=Aside0.mk (Kd.R_below (by (with_reducible repeat (first|apply Kd.R_alloc|apply Kd.R_drewN|apply Kd.R_drew));exact (Kd.R_mono (Kd.R_far (p:=⟨gb232,3,none⟩) (Kd.R_far (p:=⟨gb232,2,none⟩) (Kd.R_far (p:=⟨gb232,1,none⟩) (Kd.R_far (p:=⟨gb232,0,none⟩) (Kd.R_types HO231.out BK232.out (by decide)) (fun _ hk=>hk.2) (.slice Ao7 y229.length co7)) (fun _ hk=>hk.2) (.int .i64 1)) (fun _ hk=>hk.2) (.int .i64 1)) (fun _ hk=>hk.2) (.int .i64 4)) (fun _ h_=>h_.1))) hb);have n1_:=Aside0.mk (Kd.N_lower ho11 (below_size (by repeat (first|(with_reducible first|exact HB.out|apply below_alloc|apply pw_below_drewN|apply below_drew1|refine below_set ?_ GE232.out)|exact HB.out))));have n2_:=Aside0.mk (blk_below (g:=gb232) (o:=.cells #[.slice Ao7 y229.length co7,.int .i64 1,.int .i64 1,.int .i64 4] 31 (0,0)) (by (with_reducible repeat (first|refine blk_drewN ?_ _|refine blk_drew ?_|refine blk_alloc ?_ _));refine blk_put (cs:=#[.slice Ao7 y229.length co7,.int .i64 1,.int .i64 1,.int .i64 0]) ?_ 3 _ rfl;(with_reducible repeat (first|refine blk_drewN ?_ _|refine blk_drew ?_|refine blk_alloc ?_ _));refine blk_put (cs:=#[.slice Ao7 y229.length co7,.int .i64 1,.int .i64 0,.int .i64 0]) ?_ 2 _ rfl;(with_reducible repeat (first|refine blk_drewN ?_ _|refine blk_drew ?_|refine blk_alloc ?_ _));refine blk_put (cs:=#[.slice Ao7 y229.length co7,.int .i64 0,.int .i64 0,.int .i64 0]) ?_ 1 _ rfl;(with_reducible repeat (first|refine blk_drewN ?_ _|refine blk_drew ?_|refine blk_alloc ?_ _));refine blk_put (cs:=#[.slice none 0 0,.int .i64 0,.int .i64 0,.int .i64 0]) ?_ 0 _ rfl;(with_reducible repeat (first|refine blk_drewN ?_ _|refine blk_drew ?_|refine blk_alloc ?_ _));exact BK232.out) hb);have n3_:=Aside0.mk (below_step (by repeat (first|(with_reducible first|exact HB.out|apply below_alloc|apply pw_below_drewN|apply below_drew1|refine below_set ?_ GE232.out)|exact HB.out)) hb);clear HO231;clear BK232;clear HB;have HO231:=n0_;have HO235:=n1_;have BK232:=n2_;have HB:=n3_;clear n0_ n1_ n2_ n3_;clear hb ho11)))
 (try simp only [Act.put,List.setIfInBounds_toArray,List.set_cons_zero,List.set_cons_succ])
 go_cut [5] (fun v5 wc=>∃ (kq : Nat) (x5_2 : List (List (S41))),Aside0 (thresherlaw09_OrderStable.j1 kq l0 t228 x5_2 y229 1 1 4=some r)∧Aside0 (kq≤k)∧Aside0 (Kd.N (Kd.slice 41 k41) 27 wc w.heap.size (fun k_=>some k_≠((.slice Ao7 y229.length co7) : Value).ownBlock∧k_≠gb232) v5 x5_2)∧Aside0 (Kd.R (Kd.int .i64) 3 wc w.heap.size (fun _=>True) (.slice Ao7 y229.length co7) y229)∧Aside0 (wc.heap[gb232]?=some (.cells #[(.slice Ao7 y229.length co7),.int .i64 1,.int .i64 1,.int .i64 4] 31 (0,0)))∧Aside0 (Below w.heap.size w wc))
 case first =>
  have H:=HC3.out
  clear HC3
  have H':=Aside0.mk H
  clear H
  go_wp2
  repeat (go_quiet (fail);try go_wp2)
  go_loopg [5,6] k (fun kq v5 v6 w'=>∃ (x5_1 : List (List (S41))) (x6_1 : Int),v6=.int .i64 x6_1∧Aside0 (thresherlaw09_OrderStable.l0 kq l0 t228 x5_1 x6_1 y229 1 1 4=some r)∧Aside0 (kq≤k)∧Aside0 (Kd.N (Kd.slice 41 k41) 27 w' w.heap.size (fun k_=>some k_≠((.slice Ao7 y229.length co7) : Value).ownBlock∧k_≠gb232) v5 x5_1)∧Aside0 (Kd.R (Kd.int .i64) 3 w' w.heap.size (fun _=>True) (.slice Ao7 y229.length co7) y229)∧Aside0 (w'.heap[gb232]?=some (.cells #[(.slice Ao7 y229.length co7),.int .i64 1,.int .i64 1,.int .i64 4] 31 (0,0)))∧Aside0 (Below w.heap.size w w'))
  case atStart=>exact ⟨(y233),(0),(by first|rfl|(simp;done)|(simp [*];done)),H',⟨Nat.le_refl _⟩,⟨by (with_reducible repeat (first|apply Kd.N_alloc|apply Kd.N_drewN|apply Kd.N_drew));exact HO235.out⟩,⟨by (with_reducible repeat (first|apply Kd.R_alloc|apply Kd.R_drewN|apply Kd.R_drew));exact HO231.out⟩,⟨by (with_reducible repeat (first|refine blk_drewN ?_ _|refine blk_drew ?_|refine blk_alloc ?_ _));exact BK232.out⟩,⟨by repeat (first|(with_reducible first|exact HB.out|apply below_alloc|apply pw_below_drewN|apply below_drew1|refine below_set ?_ GE232.out)|exact HB.out)⟩⟩
  case round =>
   clear H'
   try clear p2
   try clear c4
   try clear hcz9_0
   try clear hcz9_1
   try clear hcz9_2
   try clear hcz9_3
   try clear hfz9_0
   try clear hfz9_1
   try clear hfz9_2
   try clear hfz9_3
   obtain ⟨x5_1,x6_1,rfl,HA,HK1,HO_5,HO_233000,BK232,HB⟩:=hrel
   cases gk with
   | zero=>exact absurd HA.out (by simp [thresherlaw09_OrderStable.l0])
   | succ k1 =>
    have H:=HA.out
    clear HA
    simp only [thresherlaw09_OrderStable.l0] at H
    by_cases c12 : x6_1 < (l0.length : Int)
    ·rw [if_pos c12] at H
     have c12b0 : decide (x6_1 < (l0.length : Int))=true:=decide_eq_true c12
     clear c12
     (first|rw [c12b0]|(simp only [i64_w,i32_w];rw [c12b0])|skip)
     by_cases c13 : x6_1 < 60
     ·rw [if_pos c13] at H
      have c13b0 : decide (x6_1 < 60)=true:=decide_eq_true c13
      clear c13
      by_cases c14 : 0≤x6_1
      ·rw [if_pos c14] at H
       have c14b0 : decide (0≤x6_1)=true:=decide_eq_true c14
       clear c14
       obtain ⟨y237,hy237⟩ : ∃ y_ : List (S41),y_=(([(⟨rd l0 x6_1,(⟨#[]⟩ : ByteArray)⟩ : S41),(⟨x6_1,(⟨#[]⟩ : ByteArray)⟩ : S41)] : List (S41))):=⟨_,rfl⟩
       replace H : (if x5_1.length < 5864062014805 then (thresherlaw09_OrderStable.l0 k1 l0 t228 (x5_1 ++ [y237]) (wrap64 (x6_1 + 1)) y229 1 1 4) else (none))=some r:=by first|(rw [hy237];with_reducible exact H)|(have H2_:=(Option.bind_some _ _).symm.trans H;rw [hy237];with_reducible exact H2_)|(have H2_:=(Option.bind_some _ _).symm.trans H;with_reducible exact H2_)|with_reducible exact H|(rw [hy237];exact H)|exact H
       have Ny237:=Aside0.mk hy237
       clear hy237
       by_cases c15 : x5_1.length < 5864062014805
       ·rw [if_pos c15] at H
        have LMc15:=Aside0.mk c15
        clear c15
        obtain ⟨y240,hy240⟩ : ∃ y_ : List (List (S41)),y_=(x5_1 ++ [y237]):=⟨_,rfl⟩
        replace H : (thresherlaw09_OrderStable.l0 k1 l0 t228 y240 (wrap64 (x6_1 + 1)) y229 1 1 4)=some r:=by first|(rw [hy240];with_reducible exact H)|(have H2_:=(Option.bind_some _ _).symm.trans H;rw [hy240];with_reducible exact H2_)|(have H2_:=(Option.bind_some _ _).symm.trans H;with_reducible exact H2_)|with_reducible exact H|(rw [hy240];exact H)|exact H
        have Ny240:=Aside0.mk hy240
        clear hy240
        have H':=Aside0.mk H
        clear H
        have p236 : 0≤(x6_1 : Int):=of_decide_eq_true (by first|(with_reducible assumption)|assumption)
        have q236 : x6_1 < (l0.length : Int):=of_decide_eq_true (by first|(with_reducible assumption)|assumption)
        obtain ⟨ad236,e236,hx236_0⟩:=Kd.at_int HR0.out x6_1 p236 q236
        cases e236
        replace hx236_0:=(HB.out.cell (World.block_lt_of_cell? w _ hx236_0)).trans hx236_0
        replace p236:=eq_true p236
        replace q236:=eq_true q236
        go_wp2_with (first|((with_reducible refine gate_dst (N:=31) rfl ?_);(try (refine gate_guard (by rfl) ?_;dsimp only));refine Kd.R_lit k41 _ 41 ?hg (N:=31) ?hd (xs:=([(⟨rd l0 x6_1,(⟨#[]⟩ : ByteArray)⟩ : S41),(⟨x6_1,(⟨#[]⟩ : ByteArray)⟩ : S41)] : List (S41))) (inner:=[.int .i64 (rd l0 x6_1),.string (⟨#[]⟩ : ByteArray),.int .i64 x6_1,.string (⟨#[]⟩ : ByteArray)]) (ok:=fun _=>True) (okp:=fun _=>True) ?hr ?hp (fun _ hk=>hk) trivial (Below.refl _ _) (Nat.le_refl _) (by simp) ?_;(case hd=>rfl);(case hg=>rfl);(case hr=>first|(go_simp;done)|(go_simp;rfl));(case hp=>exact (Reps.c2 (show Kd.M k41 _ _ _ (⟨rd l0 x6_1,(⟨#[]⟩ : ByteArray)⟩ : S41) [.int .i64 (rd l0 x6_1),.string (⟨#[]⟩ : ByteArray)] from (k41_mkM _ _ _ (⟨rd l0 x6_1,(⟨#[]⟩ : ByteArray)⟩ : S41) )) (Reps.c2 (show Kd.M k41 _ _ _ (⟨x6_1,(⟨#[]⟩ : ByteArray)⟩ : S41) [.int .i64 x6_1,.string (⟨#[]⟩ : ByteArray)] from (k41_mkM _ _ _ (⟨x6_1,(⟨#[]⟩ : ByteArray)⟩ : S41) )) (Reps.none _ _))));intro v238 w16 ho17 hb hg_ hnew_;clear hg_ hnew_;(first|rw [← Ny237.out] at ho17|(simp only [Int.reduceToNat] at ho17;rw [← Ny237.out] at ho17));have n0_:=Aside0.mk (Kd.N_elder' (by (with_reducible repeat (first|apply Kd.N_alloc|apply Kd.N_drewN|apply Kd.N_drew));exact HO_5.out) (Kd.R_base ho17) hb);have n1_:=Aside0.mk (Kd.R_below (by (with_reducible repeat (first|apply Kd.R_alloc|apply Kd.R_drewN|apply Kd.R_drew));exact HO_233000.out) hb);have n2_:=Aside0.mk (Kd.R_lower ho17 (below_size (by repeat (first|(with_reducible first|exact HB.out|apply below_alloc|apply pw_below_drewN|apply below_drew1|refine below_set ?_ GE232.out)|exact HB.out))));have n3_:=Aside0.mk (blk_below (g:=gb232) (o:=.cells #[.slice Ao7 y229.length co7,.int .i64 1,.int .i64 1,.int .i64 4] 31 (0,0)) (by (with_reducible repeat (first|refine blk_drewN ?_ _|refine blk_drew ?_|refine blk_alloc ?_ _));exact BK232.out) hb);have n4_:=Aside0.mk (below_step (by repeat (first|(with_reducible first|exact HB.out|apply below_alloc|apply pw_below_drewN|apply below_drew1|refine below_set ?_ GE232.out)|exact HB.out)) hb);clear HO_5;clear HO_233000;clear BK232;clear HB;have HO_5:=n0_;have HO_233000:=n1_;have HO239:=n2_;have BK232:=n3_;have HB:=n4_;clear n0_ n1_ n2_ n3_ n4_;clear hb ho17;obtain ⟨Ao19,co19,eo19⟩:=Kd.R_slice HO239.out;subst eo19)|((with_reducible refine gate_builtin (b:=.append) (xs:=#[.tmp 23,.tmp 32]) rfl ?_);(try (refine gate_guard (by rfl) ?_;dsimp only));at_builtin;refine Kd.N_append (Kd.slice 41 k41) (w0:=w) w.heap.size rfl (.tmp 23) (.tmp 32) 25 27 (.slice none 0 0) 24 rfl Try.underlying25 info27 rfl (by decide) (by omega) u5 x5_1 y237 [.slice Ao19 y237.length co19] (fun k_=>some k_≠(.slice Ao7 y229.length co7 : Value).ownBlock∧k_≠gb232) (fun k_=>((fun k_=>some k_≠(.slice Ao7 y229.length co7 : Value).ownBlock∧k_≠gb232)) k_∧some k_≠(u5 : Value).ownBlock) rfl rfl ?aP (fun _ hk=>hk) ?aF ?aO ?aB ?aS ?aL ?_;(case aP=>exact (Kd.FK_slice_mk (Kd.R_reads' (Kd.R_mono (ok':=(fun k_=>((fun k_=>some k_≠(.slice Ao7 y229.length co7 : Value).ownBlock∧k_≠gb232)) k_∧some k_≠(u5 : Value).ownBlock)) (Kd.R_types (Kd.R_apart' (Kd.R_apart' (HO239.out) (Kd.R_typed HO_233000.out) (by decide)) (Kd.N_typed HO_5.out) (by decide)) BK232.out (by decide)) (fun k_ hk=>⟨⟨hk.1.1.2,hk.2⟩,hk.1.2⟩))).2.1 (Kd.R_F (Kd.R_mono (ok':=(fun k_=>((fun k_=>some k_≠(.slice Ao7 y229.length co7 : Value).ownBlock∧k_≠gb232)) k_∧some k_≠(u5 : Value).ownBlock)) (Kd.R_types (Kd.R_apart' (Kd.R_apart' (HO239.out) (Kd.R_typed HO_233000.out) (by decide)) (Kd.N_typed HO_5.out) (by decide)) BK232.out (by decide)) (fun k_ hk=>⟨⟨hk.1.1.2,hk.2⟩,hk.1.2⟩)))));(case aB=>exact (by repeat (first|(with_reducible first|exact HB.out|apply below_alloc|apply pw_below_drewN|apply below_drew1|refine below_set ?_ GE232.out)|exact HB.out)));(case aF=>exact (fun k_ hk=>⟨Kd.fresh' (Kd.R_lt (by (with_reducible repeat (first|apply Kd.R_alloc|apply Kd.R_drewN|apply Kd.R_drew));exact HO_233000.out)) k_ hk,Kd.freshB (g:=gb232) (o:=.cells #[.slice Ao7 y229.length co7,.int .i64 1,.int .i64 1,.int .i64 4] 31 (0,0)) (by (with_reducible repeat (first|refine blk_drewN ?_ _|refine blk_drew ?_|refine blk_alloc ?_ _));exact BK232.out) k_ hk⟩));(case aO=>exact (by (with_reducible repeat (first|apply Kd.N_alloc|apply Kd.N_drewN|apply Kd.N_drew));exact Kd.N_mono HO_5.out (fun _ hk=>⟨hk.1.1,hk.1.2⟩)));(case aS=>exact (below_size (by repeat (first|(with_reducible first|exact HB.out|apply below_alloc|apply pw_below_drewN|apply below_drew1|refine below_set ?_ GE232.out)|exact HB.out))));(case aL=>have:=LMc15.out;omega);intro v241 w18 ho hb hg hat;rw [← Ny240.out] at ho;have n0_:=Aside0.mk (Kd.R_over' (by (with_reducible repeat (first|apply Kd.R_alloc|apply Kd.R_drewN|apply Kd.R_drew));exact HO_233000.out) (Kd.N_typed (by (with_reducible repeat (first|apply Kd.N_alloc|apply Kd.N_drewN|apply Kd.N_drew));exact HO_5.out)) (by decide) hg);have n1_:=Aside0.mk (blk_grown (g:=gb232) (o:=.cells #[.slice Ao7 y229.length co7,.int .i64 1,.int .i64 1,.int .i64 4] 31 (0,0)) (by (with_reducible repeat (first|refine blk_drewN ?_ _|refine blk_drew ?_|refine blk_alloc ?_ _));exact BK232.out) hg (Kd.N_ne HO_5.out BK232.out (by decide)));have n2_:=Aside0.mk (hb);have n3_:=Aside0.mk (ho);clear HO_233000;clear BK232;clear HB;clear HO_5;clear HO239;have HO_233000:=n0_;have BK232:=n1_;have HB:=n2_;have HO242:=n3_;clear n0_ n1_ n2_ n3_;clear ho hb hg hat))
        repeat (go_quiet (first|((with_reducible refine gate_dst (N:=31) rfl ?_);(try (refine gate_guard (by rfl) ?_;dsimp only));refine Kd.R_lit k41 _ 41 ?hg (N:=31) ?hd (xs:=([(⟨rd l0 x6_1,(⟨#[]⟩ : ByteArray)⟩ : S41),(⟨x6_1,(⟨#[]⟩ : ByteArray)⟩ : S41)] : List (S41))) (inner:=[.int .i64 (rd l0 x6_1),.string (⟨#[]⟩ : ByteArray),.int .i64 x6_1,.string (⟨#[]⟩ : ByteArray)]) (ok:=fun _=>True) (okp:=fun _=>True) ?hr ?hp (fun _ hk=>hk) trivial (Below.refl _ _) (Nat.le_refl _) (by simp) ?_;(case hd=>rfl);(case hg=>rfl);(case hr=>first|(go_simp;done)|(go_simp;rfl));(case hp=>exact (Reps.c2 (show Kd.M k41 _ _ _ (⟨rd l0 x6_1,(⟨#[]⟩ : ByteArray)⟩ : S41) [.int .i64 (rd l0 x6_1),.string (⟨#[]⟩ : ByteArray)] from (k41_mkM _ _ _ (⟨rd l0 x6_1,(⟨#[]⟩ : ByteArray)⟩ : S41) )) (Reps.c2 (show Kd.M k41 _ _ _ (⟨x6_1,(⟨#[]⟩ : ByteArray)⟩ : S41) [.int .i64 x6_1,.string (⟨#[]⟩ : ByteArray)] from (k41_mkM _ _ _ (⟨x6_1,(⟨#[]⟩ : ByteArray)⟩ : S41) )) (Reps.none _ _))));intro v238 w16 ho17 hb hg_ hnew_;clear hg_ hnew_;(first|rw [← Ny237.out] at ho17|(simp only [Int.reduceToNat] at ho17;rw [← Ny237.out] at ho17));have n0_:=Aside0.mk (Kd.N_elder' (by (with_reducible repeat (first|apply Kd.N_alloc|apply Kd.N_drewN|apply Kd.N_drew));exact HO_5.out) (Kd.R_base ho17) hb);have n1_:=Aside0.mk (Kd.R_below (by (with_reducible repeat (first|apply Kd.R_alloc|apply Kd.R_drewN|apply Kd.R_drew));exact HO_233000.out) hb);have n2_:=Aside0.mk (Kd.R_lower ho17 (below_size (by repeat (first|(with_reducible first|exact HB.out|apply below_alloc|apply pw_below_drewN|apply below_drew1|refine below_set ?_ GE232.out)|exact HB.out))));have n3_:=Aside0.mk (blk_below (g:=gb232) (o:=.cells #[.slice Ao7 y229.length co7,.int .i64 1,.int .i64 1,.int .i64 4] 31 (0,0)) (by (with_reducible repeat (first|refine blk_drewN ?_ _|refine blk_drew ?_|refine blk_alloc ?_ _));exact BK232.out) hb);have n4_:=Aside0.mk (below_step (by repeat (first|(with_reducible first|exact HB.out|apply below_alloc|apply pw_below_drewN|apply below_drew1|refine below_set ?_ GE232.out)|exact HB.out)) hb);clear HO_5;clear HO_233000;clear BK232;clear HB;have HO_5:=n0_;have HO_233000:=n1_;have HO239:=n2_;have BK232:=n3_;have HB:=n4_;clear n0_ n1_ n2_ n3_ n4_;clear hb ho17;obtain ⟨Ao19,co19,eo19⟩:=Kd.R_slice HO239.out;subst eo19)|((with_reducible refine gate_builtin (b:=.append) (xs:=#[.tmp 23,.tmp 32]) rfl ?_);(try (refine gate_guard (by rfl) ?_;dsimp only));at_builtin;refine Kd.N_append (Kd.slice 41 k41) (w0:=w) w.heap.size rfl (.tmp 23) (.tmp 32) 25 27 (.slice none 0 0) 24 rfl Try.underlying25 info27 rfl (by decide) (by omega) u5 x5_1 y237 [.slice Ao19 y237.length co19] (fun k_=>some k_≠(.slice Ao7 y229.length co7 : Value).ownBlock∧k_≠gb232) (fun k_=>((fun k_=>some k_≠(.slice Ao7 y229.length co7 : Value).ownBlock∧k_≠gb232)) k_∧some k_≠(u5 : Value).ownBlock) rfl rfl ?aP (fun _ hk=>hk) ?aF ?aO ?aB ?aS ?aL ?_;(case aP=>exact (Kd.FK_slice_mk (Kd.R_reads' (Kd.R_mono (ok':=(fun k_=>((fun k_=>some k_≠(.slice Ao7 y229.length co7 : Value).ownBlock∧k_≠gb232)) k_∧some k_≠(u5 : Value).ownBlock)) (Kd.R_types (Kd.R_apart' (Kd.R_apart' (HO239.out) (Kd.R_typed HO_233000.out) (by decide)) (Kd.N_typed HO_5.out) (by decide)) BK232.out (by decide)) (fun k_ hk=>⟨⟨hk.1.1.2,hk.2⟩,hk.1.2⟩))).2.1 (Kd.R_F (Kd.R_mono (ok':=(fun k_=>((fun k_=>some k_≠(.slice Ao7 y229.length co7 : Value).ownBlock∧k_≠gb232)) k_∧some k_≠(u5 : Value).ownBlock)) (Kd.R_types (Kd.R_apart' (Kd.R_apart' (HO239.out) (Kd.R_typed HO_233000.out) (by decide)) (Kd.N_typed HO_5.out) (by decide)) BK232.out (by decide)) (fun k_ hk=>⟨⟨hk.1.1.2,hk.2⟩,hk.1.2⟩)))));(case aB=>exact (by repeat (first|(with_reducible first|exact HB.out|apply below_alloc|apply pw_below_drewN|apply below_drew1|refine below_set ?_ GE232.out)|exact HB.out)));(case aF=>exact (fun k_ hk=>⟨Kd.fresh' (Kd.R_lt (by (with_reducible repeat (first|apply Kd.R_alloc|apply Kd.R_drewN|apply Kd.R_drew));exact HO_233000.out)) k_ hk,Kd.freshB (g:=gb232) (o:=.cells #[.slice Ao7 y229.length co7,.int .i64 1,.int .i64 1,.int .i64 4] 31 (0,0)) (by (with_reducible repeat (first|refine blk_drewN ?_ _|refine blk_drew ?_|refine blk_alloc ?_ _));exact BK232.out) k_ hk⟩));(case aO=>exact (by (with_reducible repeat (first|apply Kd.N_alloc|apply Kd.N_drewN|apply Kd.N_drew));exact Kd.N_mono HO_5.out (fun _ hk=>⟨hk.1.1,hk.1.2⟩)));(case aS=>exact (below_size (by repeat (first|(with_reducible first|exact HB.out|apply below_alloc|apply pw_below_drewN|apply below_drew1|refine below_set ?_ GE232.out)|exact HB.out))));(case aL=>have:=LMc15.out;omega);intro v241 w18 ho hb hg hat;rw [← Ny240.out] at ho;have n0_:=Aside0.mk (Kd.R_over' (by (with_reducible repeat (first|apply Kd.R_alloc|apply Kd.R_drewN|apply Kd.R_drew));exact HO_233000.out) (Kd.N_typed (by (with_reducible repeat (first|apply Kd.N_alloc|apply Kd.N_drewN|apply Kd.N_drew));exact HO_5.out)) (by decide) hg);have n1_:=Aside0.mk (blk_grown (g:=gb232) (o:=.cells #[.slice Ao7 y229.length co7,.int .i64 1,.int .i64 1,.int .i64 4] 31 (0,0)) (by (with_reducible repeat (first|refine blk_drewN ?_ _|refine blk_drew ?_|refine blk_alloc ?_ _));exact BK232.out) hg (Kd.N_ne HO_5.out BK232.out (by decide)));have n2_:=Aside0.mk (hb);have n3_:=Aside0.mk (ho);clear HO_233000;clear BK232;clear HB;clear HO_5;clear HO239;have HO_233000:=n0_;have BK232:=n1_;have HB:=n2_;have HO242:=n3_;clear n0_ n1_ n2_ n3_;clear ho hb hg hat));try go_wp2_with (first|((with_reducible refine gate_dst (N:=31) rfl ?_);(try (refine gate_guard (by rfl) ?_;dsimp only));refine Kd.R_lit k41 _ 41 ?hg (N:=31) ?hd (xs:=([(⟨rd l0 x6_1,(⟨#[]⟩ : ByteArray)⟩ : S41),(⟨x6_1,(⟨#[]⟩ : ByteArray)⟩ : S41)] : List (S41))) (inner:=[.int .i64 (rd l0 x6_1),.string (⟨#[]⟩ : ByteArray),.int .i64 x6_1,.string (⟨#[]⟩ : ByteArray)]) (ok:=fun _=>True) (okp:=fun _=>True) ?hr ?hp (fun _ hk=>hk) trivial (Below.refl _ _) (Nat.le_refl _) (by simp) ?_;(case hd=>rfl);(case hg=>rfl);(case hr=>first|(go_simp;done)|(go_simp;rfl));(case hp=>exact (Reps.c2 (show Kd.M k41 _ _ _ (⟨rd l0 x6_1,(⟨#[]⟩ : ByteArray)⟩ : S41) [.int .i64 (rd l0 x6_1),.string (⟨#[]⟩ : ByteArray)] from (k41_mkM _ _ _ (⟨rd l0 x6_1,(⟨#[]⟩ : ByteArray)⟩ : S41) )) (Reps.c2 (show Kd.M k41 _ _ _ (⟨x6_1,(⟨#[]⟩ : ByteArray)⟩ : S41) [.int .i64 x6_1,.string (⟨#[]⟩ : ByteArray)] from (k41_mkM _ _ _ (⟨x6_1,(⟨#[]⟩ : ByteArray)⟩ : S41) )) (Reps.none _ _))));intro v238 w16 ho17 hb hg_ hnew_;clear hg_ hnew_;(first|rw [← Ny237.out] at ho17|(simp only [Int.reduceToNat] at ho17;rw [← Ny237.out] at ho17));have n0_:=Aside0.mk (Kd.N_elder' (by (with_reducible repeat (first|apply Kd.N_alloc|apply Kd.N_drewN|apply Kd.N_drew));exact HO_5.out) (Kd.R_base ho17) hb);have n1_:=Aside0.mk (Kd.R_below (by (with_reducible repeat (first|apply Kd.R_alloc|apply Kd.R_drewN|apply Kd.R_drew));exact HO_233000.out) hb);have n2_:=Aside0.mk (Kd.R_lower ho17 (below_size (by repeat (first|(with_reducible first|exact HB.out|apply below_alloc|apply pw_below_drewN|apply below_drew1|refine below_set ?_ GE232.out)|exact HB.out))));have n3_:=Aside0.mk (blk_below (g:=gb232) (o:=.cells #[.slice Ao7 y229.length co7,.int .i64 1,.int .i64 1,.int .i64 4] 31 (0,0)) (by (with_reducible repeat (first|refine blk_drewN ?_ _|refine blk_drew ?_|refine blk_alloc ?_ _));exact BK232.out) hb);have n4_:=Aside0.mk (below_step (by repeat (first|(with_reducible first|exact HB.out|apply below_alloc|apply pw_below_drewN|apply below_drew1|refine below_set ?_ GE232.out)|exact HB.out)) hb);clear HO_5;clear HO_233000;clear BK232;clear HB;have HO_5:=n0_;have HO_233000:=n1_;have HO239:=n2_;have BK232:=n3_;have HB:=n4_;clear n0_ n1_ n2_ n3_ n4_;clear hb ho17;obtain ⟨Ao19,co19,eo19⟩:=Kd.R_slice HO239.out;subst eo19)|((with_reducible refine gate_builtin (b:=.append) (xs:=#[.tmp 23,.tmp 32]) rfl ?_);(try (refine gate_guard (by rfl) ?_;dsimp only));at_builtin;refine Kd.N_append (Kd.slice 41 k41) (w0:=w) w.heap.size rfl (.tmp 23) (.tmp 32) 25 27 (.slice none 0 0) 24 rfl Try.underlying25 info27 rfl (by decide) (by omega) u5 x5_1 y237 [.slice Ao19 y237.length co19] (fun k_=>some k_≠(.slice Ao7 y229.length co7 : Value).ownBlock∧k_≠gb232) (fun k_=>((fun k_=>some k_≠(.slice Ao7 y229.length co7 : Value).ownBlock∧k_≠gb232)) k_∧some k_≠(u5 : Value).ownBlock) rfl rfl ?aP (fun _ hk=>hk) ?aF ?aO ?aB ?aS ?aL ?_;(case aP=>exact (Kd.FK_slice_mk (Kd.R_reads' (Kd.R_mono (ok':=(fun k_=>((fun k_=>some k_≠(.slice Ao7 y229.length co7 : Value).ownBlock∧k_≠gb232)) k_∧some k_≠(u5 : Value).ownBlock)) (Kd.R_types (Kd.R_apart' (Kd.R_apart' (HO239.out) (Kd.R_typed HO_233000.out) (by decide)) (Kd.N_typed HO_5.out) (by decide)) BK232.out (by decide)) (fun k_ hk=>⟨⟨hk.1.1.2,hk.2⟩,hk.1.2⟩))).2.1 (Kd.R_F (Kd.R_mono (ok':=(fun k_=>((fun k_=>some k_≠(.slice Ao7 y229.length co7 : Value).ownBlock∧k_≠gb232)) k_∧some k_≠(u5 : Value).ownBlock)) (Kd.R_types (Kd.R_apart' (Kd.R_apart' (HO239.out) (Kd.R_typed HO_233000.out) (by decide)) (Kd.N_typed HO_5.out) (by decide)) BK232.out (by decide)) (fun k_ hk=>⟨⟨hk.1.1.2,hk.2⟩,hk.1.2⟩)))));(case aB=>exact (by repeat (first|(with_reducible first|exact HB.out|apply below_alloc|apply pw_below_drewN|apply below_drew1|refine below_set ?_ GE232.out)|exact HB.out)));(case aF=>exact (fun k_ hk=>⟨Kd.fresh' (Kd.R_lt (by (with_reducible repeat (first|apply Kd.R_alloc|apply Kd.R_drewN|apply Kd.R_drew));exact HO_233000.out)) k_ hk,Kd.freshB (g:=gb232) (o:=.cells #[.slice Ao7 y229.length co7,.int .i64 1,.int .i64 1,.int .i64 4] 31 (0,0)) (by (with_reducible repeat (first|refine blk_drewN ?_ _|refine blk_drew ?_|refine blk_alloc ?_ _));exact BK232.out) k_ hk⟩));(case aO=>exact (by (with_reducible repeat (first|apply Kd.N_alloc|apply Kd.N_drewN|apply Kd.N_drew));exact Kd.N_mono HO_5.out (fun _ hk=>⟨hk.1.1,hk.1.2⟩)));(case aS=>exact (below_size (by repeat (first|(with_reducible first|exact HB.out|apply below_alloc|apply pw_below_drewN|apply below_drew1|refine below_set ?_ GE232.out)|exact HB.out))));(case aL=>have:=LMc15.out;omega);intro v241 w18 ho hb hg hat;rw [← Ny240.out] at ho;have n0_:=Aside0.mk (Kd.R_over' (by (with_reducible repeat (first|apply Kd.R_alloc|apply Kd.R_drewN|apply Kd.R_drew));exact HO_233000.out) (Kd.N_typed (by (with_reducible repeat (first|apply Kd.N_alloc|apply Kd.N_drewN|apply Kd.N_drew));exact HO_5.out)) (by decide) hg);have n1_:=Aside0.mk (blk_grown (g:=gb232) (o:=.cells #[.slice Ao7 y229.length co7,.int .i64 1,.int .i64 1,.int .i64 4] 31 (0,0)) (by (with_reducible repeat (first|refine blk_drewN ?_ _|refine blk_drew ?_|refine blk_alloc ?_ _));exact BK232.out) hg (Kd.N_ne HO_5.out BK232.out (by decide)));have n2_:=Aside0.mk (hb);have n3_:=Aside0.mk (ho);clear HO_233000;clear BK232;clear HB;clear HO_5;clear HO239;have HO_233000:=n0_;have BK232:=n1_;have HB:=n2_;have HO242:=n3_;clear n0_ n1_ n2_ n3_;clear ho hb hg hat)))
        go_roundg k1
        case measure=>have:=HK1.out;omega
        case rel=>exact ⟨(y240),(wrap64 (x6_1 + 1)),(by first|rfl|(simp;done)|(simp [*];done)),(by first|exact H'|(subst_vars;exact H')),⟨by have:=HK1.out;omega⟩,⟨by (with_reducible repeat (first|apply Kd.N_alloc|apply Kd.N_drewN|apply Kd.N_drew));exact HO242.out⟩,⟨by (with_reducible repeat (first|apply Kd.R_alloc|apply Kd.R_drewN|apply Kd.R_drew));exact HO_233000.out⟩,⟨by (with_reducible repeat (first|refine blk_drewN ?_ _|refine blk_drew ?_|refine blk_alloc ?_ _));exact BK232.out⟩,⟨by repeat (first|(with_reducible first|exact HB.out|apply below_alloc|apply pw_below_drewN|apply below_drew1|refine below_set ?_ GE232.out)|exact HB.out)⟩⟩
       ·rw [if_neg c15] at H
        exact absurd H (by simp)
      ·rw [if_neg c14] at H
       exact absurd H (by simp)
     ·rw [if_neg c13] at H
      have c13b0 : decide (x6_1 < 60)=false:=decide_eq_false c13
      clear c13
      have H':=Aside0.mk H
      clear H
      go_wp2
      repeat (go_quiet (fail);try go_wp2)
      go_meet
      case rel=>exact ⟨_,(x5_1),(by first|exact H'|(subst_vars;exact H')),⟨by have:=HK1.out;first|omega|exact Nat.le_refl _⟩,⟨by (with_reducible repeat (first|apply Kd.N_alloc|apply Kd.N_drewN|apply Kd.N_drew));exact HO_5.out⟩,⟨by (with_reducible repeat (first|apply Kd.R_alloc|apply Kd.R_drewN|apply Kd.R_drew));exact HO_233000.out⟩,⟨by (with_reducible repeat (first|refine blk_drewN ?_ _|refine blk_drew ?_|refine blk_alloc ?_ _));exact BK232.out⟩,⟨by repeat (first|(with_reducible first|exact HB.out|apply below_alloc|apply pw_below_drewN|apply below_drew1|refine below_set ?_ GE232.out)|exact HB.out)⟩⟩
    ·rw [if_neg c12] at H
     have c12b0 : decide (x6_1 < (l0.length : Int))=false:=decide_eq_false c12
     clear c12
     (first|rw [c12b0]|(simp only [i64_w,i32_w];rw [c12b0])|skip)
     have H':=Aside0.mk H
     clear H
     go_wp2
     repeat (go_quiet (fail);try go_wp2)
     go_meet
     case rel=>exact ⟨_,(x5_1),(by first|exact H'|(subst_vars;exact H')),⟨by have:=HK1.out;first|omega|exact Nat.le_refl _⟩,⟨by (with_reducible repeat (first|apply Kd.N_alloc|apply Kd.N_drewN|apply Kd.N_drew));exact HO_5.out⟩,⟨by (with_reducible repeat (first|apply Kd.R_alloc|apply Kd.R_drewN|apply Kd.R_drew));exact HO_233000.out⟩,⟨by (with_reducible repeat (first|refine blk_drewN ?_ _|refine blk_drew ?_|refine blk_alloc ?_ _));exact BK232.out⟩,⟨by repeat (first|(with_reducible first|exact HB.out|apply below_alloc|apply pw_below_drewN|apply below_drew1|refine below_set ?_ GE232.out)|exact HB.out)⟩⟩
 case rest =>
  clear HC3
  try clear c1
  try clear c2
  try clear p2
  try clear q2
  try clear hx2
  try clear c4
  try clear p6
  try clear c12
  try clear c12b0
  try clear c13
  try clear c13b0
  try clear c14
  try clear c14b0
  try clear c15
  try clear hcz9_0
  try clear hcz9_1
  try clear hcz9_2
  try clear hcz9_3
  try clear hfz9_0
  try clear hfz9_1
  try clear hfz9_2
  try clear hfz9_3
  try clear hx236_0
  try clear p2
  try clear p236
  try clear q236
  obtain ⟨kq,x5_2,HA,HJ2,HO_5,HO_233000,BK232,HB⟩:=hcut
  cases kq with
  | zero=>exact absurd HA.out (by simp [thresherlaw09_OrderStable.j1])
  | succ kj2 =>
   have H:=HA.out
   clear HA
   simp only [thresherlaw09_OrderStable.j1] at H
   replace H:=Option.bind_eq_some_iff.mp H
   obtain ⟨t243,A200,H⟩:=H
   replace H : (if (t243.length : Int)=(x5_2.length : Int) then (thresherlaw09_OrderStable.l1 kj2 l0 t228 x5_2 t243 0) else (some false))=some r:=H
   have A20:=Aside0.mk A200
   clear A200
   by_cases c21 : (t243.length : Int)=(x5_2.length : Int)
   ·rw [if_pos c21] at H
    have c21b0 : ((t243.length : Int) == (x5_2.length : Int))=true:=beq_iff_eq.mpr c21
    have c21b1 : ((t243.length : Int) != (x5_2.length : Int))=false:=bne_eq_false_iff_eq.mpr c21
    have c21b2 : (t243.length == x5_2.length)=true:=by first|simpa using c21|(simp at c21 ⊢;omega)
    clear c21
    have H':=Aside0.mk H
    clear H
    have hcz22_0 : wc.cell? ⟨gb232,0,none⟩=some (.slice Ao7 y229.length co7):=(blk_cell BK232.out 0).trans rfl
    have hcz22_1 : wc.cell? ⟨gb232,1,none⟩=some (.int .i64 1):=(blk_cell BK232.out 1).trans rfl
    have hcz22_2 : wc.cell? ⟨gb232,2,none⟩=some (.int .i64 1):=(blk_cell BK232.out 2).trans rfl
    have hcz22_3 : wc.cell? ⟨gb232,3,none⟩=some (.int .i64 4):=(blk_cell BK232.out 3).trans rfl
    have hfz22_0:=blk_frozen BK232.out 0
    have hfz22_1:=blk_frozen BK232.out 1
    have hfz22_2:=blk_frozen BK232.out 2
    have hfz22_3:=blk_frozen BK232.out 3
    obtain ⟨Ao23,co23,eo23⟩:=Kd.N_slice HO_5.out
    subst eo23
    go_wp2_with (first|(go_at_call 10;(with_reducible refine (order_Sort.calls kj2 _ _ y229 1 1 4 (fun k_=>(some k_≠(.slice Ao7 y229.length co7 : Value).ownBlock∧k_≠gb232)) _ _ x5_2 t243 _ ?side1 ?side2 ?side3 A20.out).mono ?_);(case side1=>repeat (first|exact (Kd.R_reads' HO_233000.out).2.2|(with_reducible refine Kd.C_alloc ?_ _)|(with_reducible refine Kd.C_drewN ?_ _)|(with_reducible refine Kd.C_drew ?_)));(case side2=>exact (Kd.R_reads' HO_233000.out).2.1);(case side3=>exact Kd.N_V (HO_5.out));rintro e w24 ⟨v244,rfl,ho0,hb⟩;have n0_:=Aside0.mk (Kd.N_elder' (by (with_reducible repeat (first|apply Kd.N_alloc|apply Kd.N_drewN|apply Kd.N_drew));exact HO_5.out) (by first|exact Kd.N_base ho0|exact Kd.S_base ho0) hb);have n1_:=Aside0.mk (Kd.R_below (by (with_reducible repeat (first|apply Kd.R_alloc|apply Kd.R_drewN|apply Kd.R_drew));exact HO_233000.out) hb);have n2_:=Aside0.mk (Kd.N_lower (Kd.N_mono (ok':=fun k_=>some k_≠(.slice Ao7 y229.length co7 : Value).ownBlock∧k_≠gb232) ho0 (fun k_ hk_=>⟨Or.elim hk_ (fun hs_=>hs_.1) (fun hn_=>(Kd.fresh' (Kd.R_lt (by (with_reducible repeat (first|apply Kd.R_alloc|apply Kd.R_drewN|apply Kd.R_drew));exact HO_233000.out)) k_ hn_)),Or.elim hk_ (fun hs_=>hs_.2) (fun hn_=>(Kd.freshB (g:=gb232) (o:=.cells #[.slice Ao7 y229.length co7,.int .i64 1,.int .i64 1,.int .i64 4] 31 (0,0)) (by (with_reducible repeat (first|refine blk_drewN ?_ _|refine blk_drew ?_|refine blk_alloc ?_ _));exact BK232.out) k_ hn_))⟩)) (below_size (by repeat (first|(with_reducible first|exact HB.out|apply below_alloc|apply pw_below_drewN|apply below_drew1|refine below_set ?_ GE232.out)|exact HB.out))));have n3_:=Aside0.mk (blk_below (g:=gb232) (o:=.cells #[.slice Ao7 y229.length co7,.int .i64 1,.int .i64 1,.int .i64 4] 31 (0,0)) (by (with_reducible repeat (first|refine blk_drewN ?_ _|refine blk_drew ?_|refine blk_alloc ?_ _));exact BK232.out) hb);have n4_:=Aside0.mk (below_step (by repeat (first|(with_reducible first|exact HB.out|apply below_alloc|apply pw_below_drewN|apply below_drew1|refine below_set ?_ GE232.out)|exact HB.out)) hb);clear HO_5;clear HO_233000;clear BK232;clear HB;have HO_5:=n0_;have HO_233000:=n1_;have HO245:=n2_;have BK232:=n3_;have HB:=n4_;clear n0_ n1_ n2_ n3_ n4_;(try clear hb);(try clear hb2);(try clear hk);(try clear hi);(try clear ho0);obtain ⟨Ao25,co25,eo25⟩:=Kd.N_slice HO245.out;subst eo25))
    repeat (go_quiet (first|(go_at_call 10;(with_reducible refine (order_Sort.calls kj2 _ _ y229 1 1 4 (fun k_=>(some k_≠(.slice Ao7 y229.length co7 : Value).ownBlock∧k_≠gb232)) _ _ x5_2 t243 _ ?side1 ?side2 ?side3 A20.out).mono ?_);(case side1=>repeat (first|exact (Kd.R_reads' HO_233000.out).2.2|(with_reducible refine Kd.C_alloc ?_ _)|(with_reducible refine Kd.C_drewN ?_ _)|(with_reducible refine Kd.C_drew ?_)));(case side2=>exact (Kd.R_reads' HO_233000.out).2.1);(case side3=>exact Kd.N_V (HO_5.out));rintro e w24 ⟨v244,rfl,ho0,hb⟩;have n0_:=Aside0.mk (Kd.N_elder' (by (with_reducible repeat (first|apply Kd.N_alloc|apply Kd.N_drewN|apply Kd.N_drew));exact HO_5.out) (by first|exact Kd.N_base ho0|exact Kd.S_base ho0) hb);have n1_:=Aside0.mk (Kd.R_below (by (with_reducible repeat (first|apply Kd.R_alloc|apply Kd.R_drewN|apply Kd.R_drew));exact HO_233000.out) hb);have n2_:=Aside0.mk (Kd.N_lower (Kd.N_mono (ok':=fun k_=>some k_≠(.slice Ao7 y229.length co7 : Value).ownBlock∧k_≠gb232) ho0 (fun k_ hk_=>⟨Or.elim hk_ (fun hs_=>hs_.1) (fun hn_=>(Kd.fresh' (Kd.R_lt (by (with_reducible repeat (first|apply Kd.R_alloc|apply Kd.R_drewN|apply Kd.R_drew));exact HO_233000.out)) k_ hn_)),Or.elim hk_ (fun hs_=>hs_.2) (fun hn_=>(Kd.freshB (g:=gb232) (o:=.cells #[.slice Ao7 y229.length co7,.int .i64 1,.int .i64 1,.int .i64 4] 31 (0,0)) (by (with_reducible repeat (first|refine blk_drewN ?_ _|refine blk_drew ?_|refine blk_alloc ?_ _));exact BK232.out) k_ hn_))⟩)) (below_size (by repeat (first|(with_reducible first|exact HB.out|apply below_alloc|apply pw_below_drewN|apply below_drew1|refine below_set ?_ GE232.out)|exact HB.out))));have n3_:=Aside0.mk (blk_below (g:=gb232) (o:=.cells #[.slice Ao7 y229.length co7,.int .i64 1,.int .i64 1,.int .i64 4] 31 (0,0)) (by (with_reducible repeat (first|refine blk_drewN ?_ _|refine blk_drew ?_|refine blk_alloc ?_ _));exact BK232.out) hb);have n4_:=Aside0.mk (below_step (by repeat (first|(with_reducible first|exact HB.out|apply below_alloc|apply pw_below_drewN|apply below_drew1|refine below_set ?_ GE232.out)|exact HB.out)) hb);clear HO_5;clear HO_233000;clear BK232;clear HB;have HO_5:=n0_;have HO_233000:=n1_;have HO245:=n2_;have BK232:=n3_;have HB:=n4_;clear n0_ n1_ n2_ n3_ n4_;(try clear hb);(try clear hb2);(try clear hk);(try clear hi);(try clear ho0);obtain ⟨Ao25,co25,eo25⟩:=Kd.N_slice HO245.out;subst eo25));try go_wp2_with (first|(go_at_call 10;(with_reducible refine (order_Sort.calls kj2 _ _ y229 1 1 4 (fun k_=>(some k_≠(.slice Ao7 y229.length co7 : Value).ownBlock∧k_≠gb232)) _ _ x5_2 t243 _ ?side1 ?side2 ?side3 A20.out).mono ?_);(case side1=>repeat (first|exact (Kd.R_reads' HO_233000.out).2.2|(with_reducible refine Kd.C_alloc ?_ _)|(with_reducible refine Kd.C_drewN ?_ _)|(with_reducible refine Kd.C_drew ?_)));(case side2=>exact (Kd.R_reads' HO_233000.out).2.1);(case side3=>exact Kd.N_V (HO_5.out));rintro e w24 ⟨v244,rfl,ho0,hb⟩;have n0_:=Aside0.mk (Kd.N_elder' (by (with_reducible repeat (first|apply Kd.N_alloc|apply Kd.N_drewN|apply Kd.N_drew));exact HO_5.out) (by first|exact Kd.N_base ho0|exact Kd.S_base ho0) hb);have n1_:=Aside0.mk (Kd.R_below (by (with_reducible repeat (first|apply Kd.R_alloc|apply Kd.R_drewN|apply Kd.R_drew));exact HO_233000.out) hb);have n2_:=Aside0.mk (Kd.N_lower (Kd.N_mono (ok':=fun k_=>some k_≠(.slice Ao7 y229.length co7 : Value).ownBlock∧k_≠gb232) ho0 (fun k_ hk_=>⟨Or.elim hk_ (fun hs_=>hs_.1) (fun hn_=>(Kd.fresh' (Kd.R_lt (by (with_reducible repeat (first|apply Kd.R_alloc|apply Kd.R_drewN|apply Kd.R_drew));exact HO_233000.out)) k_ hn_)),Or.elim hk_ (fun hs_=>hs_.2) (fun hn_=>(Kd.freshB (g:=gb232) (o:=.cells #[.slice Ao7 y229.length co7,.int .i64 1,.int .i64 1,.int .i64 4] 31 (0,0)) (by (with_reducible repeat (first|refine blk_drewN ?_ _|refine blk_drew ?_|refine blk_alloc ?_ _));exact BK232.out) k_ hn_))⟩)) (below_size (by repeat (first|(with_reducible first|exact HB.out|apply below_alloc|apply pw_below_drewN|apply below_drew1|refine below_set ?_ GE232.out)|exact HB.out))));have n3_:=Aside0.mk (blk_below (g:=gb232) (o:=.cells #[.slice Ao7 y229.length co7,.int .i64 1,.int .i64 1,.int .i64 4] 31 (0,0)) (by (with_reducible repeat (first|refine blk_drewN ?_ _|refine blk_drew ?_|refine blk_alloc ?_ _));exact BK232.out) hb);have n4_:=Aside0.mk (below_step (by repeat (first|(with_reducible first|exact HB.out|apply below_alloc|apply pw_below_drewN|apply below_drew1|refine below_set ?_ GE232.out)|exact HB.out)) hb);clear HO_5;clear HO_233000;clear BK232;clear HB;have HO_5:=n0_;have HO_233000:=n1_;have HO245:=n2_;have BK232:=n3_;have HB:=n4_;clear n0_ n1_ n2_ n3_ n4_;(try clear hb);(try clear hb2);(try clear hk);(try clear hi);(try clear ho0);obtain ⟨Ao25,co25,eo25⟩:=Kd.N_slice HO245.out;subst eo25)))
    go_loopg [8] kj2 (fun kq v8 w'=>∃ (x8_2 : Int),v8=.int .i64 x8_2∧Aside0 (thresherlaw09_OrderStable.l1 kq l0 t228 x5_2 t243 x8_2=some r)∧Aside0 (kq≤kj2)∧Aside0 (Kd.N (Kd.slice 41 k41) 27 w' w.heap.size (fun k_=>some k_≠((.slice Ao25 t243.length co25) : Value).ownBlock∧some k_≠((.slice Ao7 y229.length co7) : Value).ownBlock∧k_≠gb232) (.slice Ao23 x5_2.length co23) x5_2)∧Aside0 (Kd.N (Kd.slice 41 k41) 27 w' w.heap.size (fun k_=>some k_≠((.slice Ao7 y229.length co7) : Value).ownBlock∧k_≠gb232) (.slice Ao25 t243.length co25) t243)∧Aside0 (Kd.R (Kd.int .i64) 3 w' w.heap.size (fun _=>True) (.slice Ao7 y229.length co7) y229)∧Aside0 (w'.heap[gb232]?=some (.cells #[(.slice Ao7 y229.length co7),.int .i64 1,.int .i64 1,.int .i64 4] 31 (0,0)))∧Aside0 (Below w.heap.size w w'))
    case atStart=>exact ⟨(0),(by first|rfl|(simp;done)|(simp [*];done)),H',⟨Nat.le_refl _⟩,⟨by (with_reducible repeat (first|apply Kd.N_alloc|apply Kd.N_drewN|apply Kd.N_drew));exact Kd.N_mono HO_5.out (fun _ hk=>⟨hk.2,⟨hk.1.1,hk.1.2⟩⟩)⟩,⟨by (with_reducible repeat (first|apply Kd.N_alloc|apply Kd.N_drewN|apply Kd.N_drew));exact HO245.out⟩,⟨by (with_reducible repeat (first|apply Kd.R_alloc|apply Kd.R_drewN|apply Kd.R_drew));exact HO_233000.out⟩,⟨by (with_reducible repeat (first|refine blk_drewN ?_ _|refine blk_drew ?_|refine blk_alloc ?_ _));exact BK232.out⟩,⟨by repeat (first|(with_reducible first|exact HB.out|apply below_alloc|apply pw_below_drewN|apply below_drew1|refine below_set ?_ GE232.out)|exact HB.out)⟩⟩
    case round =>
     clear H'
     try clear c1
     try clear c2
     try clear p2
     try clear q2
     try clear hx2
     try clear c4
     try clear p6
     try clear c12
     try clear c12b0
     try clear c13
     try clear c13b0
     try clear c14
     try clear c14b0
     try clear c15
     try clear c21
     try clear c21b0
     try clear c21b1
     try clear c21b2
     try clear p23
     try clear q23
     try clear hx23
     try clear hcz22_0
     try clear hcz22_1
     try clear hcz22_2
     try clear hcz22_3
     try clear hcz9_0
     try clear hcz9_1
     try clear hcz9_2
     try clear hcz9_3
     try clear hfz22_0
     try clear hfz22_1
     try clear hfz22_2
     try clear hfz22_3
     try clear hfz9_0
     try clear hfz9_1
     try clear hfz9_2
     try clear hfz9_3
     try clear hx236_0
     try clear p2
     try clear p236
     try clear p6
     try clear q2
     try clear q236
     obtain ⟨x8_2,rfl,HA,HK2,HO_5,HO_7,HO_233000,BK232,HB⟩:=hrel
     cases gk with
     | zero=>exact absurd HA.out (by simp [thresherlaw09_OrderStable.l1])
     | succ k2 =>
      have H:=HA.out
      clear HA
      simp only [thresherlaw09_OrderStable.l1] at H
      by_cases c26 : x8_2 < (t243.length : Int)
      ·rw [if_pos c26] at H
       have c26b0 : decide (x8_2 < (t243.length : Int))=true:=decide_eq_true c26
       clear c26
       have HC27:=Aside0.mk H
       clear H
       go_upto_region 14 with (fail)
       repeat (go_quiet (fail);go_upto_region 14 with (fail))
       go_cut [95] (fun v95 wc=>∃ (kq : Nat) (x95_26 : Bool),v95=.bool x95_26∧Aside0 (thresherlaw09_OrderStable.j3 kq l0 t228 x5_2 t243 x8_2 x95_26=some r)∧Aside0 (kq≤k2)∧Aside0 (Kd.N (Kd.slice 41 k41) 27 wc w.heap.size (fun k_=>some k_≠((.slice Ao25 t243.length co25) : Value).ownBlock∧some k_≠((.slice Ao7 y229.length co7) : Value).ownBlock∧k_≠gb232) (.slice Ao23 x5_2.length co23) x5_2)∧Aside0 (Kd.N (Kd.slice 41 k41) 27 wc w.heap.size (fun k_=>some k_≠((.slice Ao7 y229.length co7) : Value).ownBlock∧k_≠gb232) (.slice Ao25 t243.length co25) t243)∧Aside0 (Kd.R (Kd.int .i64) 3 wc w.heap.size (fun _=>True) (.slice Ao7 y229.length co7) y229)∧Aside0 (wc.heap[gb232]?=some (.cells #[(.slice Ao7 y229.length co7),.int .i64 1,.int .i64 1,.int .i64 4] 31 (0,0)))∧Aside0 (Below w.heap.size w wc))
       case first =>
        have H:=HC27.out
        clear HC27
        by_cases c28 : 0≤x8_2
        ·rw [if_pos c28] at H
         have c28b0 : decide (0≤x8_2)=true:=decide_eq_true c28
         clear c28
         (first|rw [c28b0]|(simp only [i64_w,i32_w];rw [c28b0])|skip)
         by_cases c29 : ((rd_L5 t243 x8_2).length : Int)=2
         ·rw [if_pos c29] at H
          have c29b0 : (((rd_L5 t243 x8_2).length : Int) == 2)=true:=beq_iff_eq.mpr c29
          have c29b1 : (((rd_L5 t243 x8_2).length : Int) != 2)=false:=bne_eq_false_iff_eq.mpr c29
          clear c29
          by_cases c30 : 1 < ((rd_L5 t243 x8_2).length : Int)
          ·rw [if_pos c30] at H
           have c30b0 : decide (1 < ((rd_L5 t243 x8_2).length : Int))=true:=decide_eq_true c30
           have c30b1 : decide (1 < (rd_L5 t243 x8_2).length)=true:=decide_eq_true (by omega)
           clear c30
           by_cases c31 : ((rd_T41 (rd_L5 t243 x8_2) 1).f0) < 0
           ·rw [if_pos c31] at H
            have c31b0 : decide (((rd_T41 (rd_L5 t243 x8_2) 1).f0) < 0)=true:=decide_eq_true c31
            clear c31
            have H':=Aside0.mk H
            clear H
            have p246 : 0≤(x8_2 : Int):=of_decide_eq_true (by first|(with_reducible assumption)|assumption)
            have q246 : x8_2 < (t243.length : Int):=of_decide_eq_true (by first|(with_reducible assumption)|assumption)
            obtain ⟨ad246,A246_0,c246_0,e246,hx246_0,hl246_0,hi246_0⟩:=at_L5 (Kd.N_reads' HO_7.out).2.2 x8_2 p246 q246
            cases e246
            obtain ⟨ce246,hce246,hMe246,hcc246⟩:=Kd.N_get HO_7.out [] x8_2 p246 (by first|exact q246|exact of_decide_eq_true (by first|(with_reducible assumption)|assumption)|(have e_:=(Kd.N_reads' HO_7.out).1;omega))
            obtain ⟨ua246_0,uc246_0,rfl,ul246_0,ge246_0⟩:=Kd.FK_slice_open hMe246
            have hv246_0:=hcc246 0 _ rfl
            rw [Nat.add_zero,show ((Kd.slice 41 k41)).sz=1 from rfl,Nat.mul_one] at hv246_0
            replace hv246_0:=Option.some.inj (hv246_0.symm.trans hx246_0)
            injection hv246_0 with hva_ hvn_ hvc_
            rw [hva_] at ge246_0
            rw [hvc_] at ul246_0
            have HL246_0:=Aside0.mk (show Kd.V k41 41 _ w.heap.size _ _ (rd_L5 t243 x8_2) from Kd.V_mk ul246_0 ge246_0)
            clear hva_ hvn_ hvc_ ge246_0 ul246_0
            clear hcc246 hce246
            have HR246_0:=Aside0.mk hi246_0
            have HC246_0:=Aside0.mk hl246_0
            clear hi246_0 hl246_0
            replace p246:=eq_true p246
            replace q246:=eq_true q246
            have p247 : 0≤(x8_2 : Int):=of_decide_eq_true (by first|(with_reducible assumption)|assumption)
            have q247 : x8_2 < (t243.length : Int):=of_decide_eq_true (by first|(with_reducible assumption)|assumption)
            obtain ⟨ad247,A247_0,c247_0,e247,hx247_0,hl247_0,hi247_0⟩:=at_L5 (Kd.N_reads' HO_7.out).2.2 x8_2 p247 q247
            obtain rfl : ad246=ad247:=(by injection e247)
            obtain ⟨ce247,hce247,hMe247,hcc247⟩:=Kd.N_get HO_7.out [] x8_2 p247 (by first|exact q247|exact of_decide_eq_true (by first|(with_reducible assumption)|assumption)|(have e_:=(Kd.N_reads' HO_7.out).1;omega))
            obtain ⟨ua247_0,uc247_0,rfl,ul247_0,ge247_0⟩:=Kd.FK_slice_open hMe247
            have hv247_0:=hcc247 0 _ rfl
            rw [Nat.add_zero,show ((Kd.slice 41 k41)).sz=1 from rfl,Nat.mul_one] at hv247_0
            replace hv247_0:=Option.some.inj (hv247_0.symm.trans hx247_0)
            injection hv247_0 with hva_ hvn_ hvc_
            rw [hva_] at ge247_0
            rw [hvc_] at ul247_0
            have HL247_0:=Aside0.mk (show Kd.V k41 41 _ w.heap.size _ _ (rd_L5 t243 x8_2) from Kd.V_mk ul247_0 ge247_0)
            clear hva_ hvn_ hvc_ ge247_0 ul247_0
            clear hcc247 hce247
            have HR247_0:=Aside0.mk hi247_0
            have HC247_0:=Aside0.mk hl247_0
            clear hi247_0 hl247_0
            replace p247:=eq_true p247
            replace q247:=eq_true q247
            have ea_:=Option.some.inj (hx246_0.symm.trans hx247_0)
            injection ea_ with ea_ en_ ec_
            subst ea_
            subst ec_
            clear en_
            have p248 : 0≤(1 : Int):=(by omega)
            have q248 : 1 < ((rd_L5 t243 x8_2).length : Int):=of_decide_eq_true (by first|(with_reducible assumption)|assumption)
            obtain ⟨ad248,e248,hx248_0,hx248_1⟩:=at_T41 (by repeat (first|(with_reducible exact HR247_0.out)|(with_reducible refine Kd.C_alloc ?_ _)|(with_reducible refine Kd.C_drewN ?_ _)|(with_reducible refine Kd.C_drew ?_)|exact HR247_0.out)) 1 p248 q248
            cases e248
            (try simp only [show (1 : Int).toNat=1 from rfl,Nat.reduceMul,Nat.reduceEqDiff,Go.Addr.add,↓reduceIte] at hx248_0)
            (try simp only [show (1 : Int).toNat=1 from rfl,Nat.reduceMul,Nat.reduceEqDiff,Go.Addr.add,↓reduceIte] at hx248_1)
            have qi248 : (1 < (rd_L5 t243 x8_2).length)=True:=eq_true (by omega)
            (try rw [show ((1 : Int)).toNat=1 from rfl] at hx248_0)
            (try rw [show 1 * 2=2 from rfl] at hx248_0)
            (try rw [show ((1 : Int)).toNat=1 from rfl] at hx248_1)
            (try rw [show 1 * 2=2 from rfl] at hx248_1)
            replace p248:=eq_true p248
            replace q248:=eq_true q248
            go_wp2
            repeat (go_quiet (fail);try go_wp2)
            go_meet
            case rel=>exact ⟨_,(true),(by first|rfl|(simp;done)|(simp [*];done)),(by first|exact H'|(subst_vars;exact H')),⟨by have:=HJ2.out;have:=HK2.out;first|omega|exact Nat.le_refl _⟩,⟨by (with_reducible repeat (first|apply Kd.N_alloc|apply Kd.N_drewN|apply Kd.N_drew));exact HO_5.out⟩,⟨by (with_reducible repeat (first|apply Kd.N_alloc|apply Kd.N_drewN|apply Kd.N_drew));exact HO_7.out⟩,⟨by (with_reducible repeat (first|apply Kd.R_alloc|apply Kd.R_drewN|apply Kd.R_drew));exact HO_233000.out⟩,⟨by (with_reducible repeat (first|refine blk_drewN ?_ _|refine blk_drew ?_|refine blk_alloc ?_ _));exact BK232.out⟩,⟨by repeat (first|(with_reducible first|exact HB.out|apply below_alloc|apply pw_below_drewN|apply below_drew1|refine below_set ?_ GE232.out)|exact HB.out)⟩⟩
           ·rw [if_neg c31] at H
            have c31b0 : decide (((rd_T41 (rd_L5 t243 x8_2) 1).f0) < 0)=false:=decide_eq_false c31
            clear c31
            by_cases c32 : ((rd_T41 (rd_L5 t243 x8_2) 1).f0) ≥ (x5_2.length : Int)
            ·rw [if_pos c32] at H
             have c32b0 : decide ((x5_2.length : Int)≤((rd_T41 (rd_L5 t243 x8_2) 1).f0))=true:=decide_eq_true c32
             clear c32
             have H':=Aside0.mk H
             clear H
             have p246 : 0≤(x8_2 : Int):=of_decide_eq_true (by first|(with_reducible assumption)|assumption)
             have q246 : x8_2 < (t243.length : Int):=of_decide_eq_true (by first|(with_reducible assumption)|assumption)
             obtain ⟨ad246,A246_0,c246_0,e246,hx246_0,hl246_0,hi246_0⟩:=at_L5 (Kd.N_reads' HO_7.out).2.2 x8_2 p246 q246
             cases e246
             obtain ⟨ce246,hce246,hMe246,hcc246⟩:=Kd.N_get HO_7.out [] x8_2 p246 (by first|exact q246|exact of_decide_eq_true (by first|(with_reducible assumption)|assumption)|(have e_:=(Kd.N_reads' HO_7.out).1;omega))
             obtain ⟨ua246_0,uc246_0,rfl,ul246_0,ge246_0⟩:=Kd.FK_slice_open hMe246
             have hv246_0:=hcc246 0 _ rfl
             rw [Nat.add_zero,show ((Kd.slice 41 k41)).sz=1 from rfl,Nat.mul_one] at hv246_0
             replace hv246_0:=Option.some.inj (hv246_0.symm.trans hx246_0)
             injection hv246_0 with hva_ hvn_ hvc_
             rw [hva_] at ge246_0
             rw [hvc_] at ul246_0
             have HL246_0:=Aside0.mk (show Kd.V k41 41 _ w.heap.size _ _ (rd_L5 t243 x8_2) from Kd.V_mk ul246_0 ge246_0)
             clear hva_ hvn_ hvc_ ge246_0 ul246_0
             clear hcc246 hce246
             have HR246_0:=Aside0.mk hi246_0
             have HC246_0:=Aside0.mk hl246_0
             clear hi246_0 hl246_0
             replace p246:=eq_true p246
             replace q246:=eq_true q246
             have p247 : 0≤(x8_2 : Int):=of_decide_eq_true (by first|(with_reducible assumption)|assumption)
             have q247 : x8_2 < (t243.length : Int):=of_decide_eq_true (by first|(with_reducible assumption)|assumption)
             obtain ⟨ad247,A247_0,c247_0,e247,hx247_0,hl247_0,hi247_0⟩:=at_L5 (Kd.N_reads' HO_7.out).2.2 x8_2 p247 q247
             obtain rfl : ad246=ad247:=(by injection e247)
             obtain ⟨ce247,hce247,hMe247,hcc247⟩:=Kd.N_get HO_7.out [] x8_2 p247 (by first|exact q247|exact of_decide_eq_true (by first|(with_reducible assumption)|assumption)|(have e_:=(Kd.N_reads' HO_7.out).1;omega))
             obtain ⟨ua247_0,uc247_0,rfl,ul247_0,ge247_0⟩:=Kd.FK_slice_open hMe247
             have hv247_0:=hcc247 0 _ rfl
             rw [Nat.add_zero,show ((Kd.slice 41 k41)).sz=1 from rfl,Nat.mul_one] at hv247_0
             replace hv247_0:=Option.some.inj (hv247_0.symm.trans hx247_0)
             injection hv247_0 with hva_ hvn_ hvc_
             rw [hva_] at ge247_0
             rw [hvc_] at ul247_0
             have HL247_0:=Aside0.mk (show Kd.V k41 41 _ w.heap.size _ _ (rd_L5 t243 x8_2) from Kd.V_mk ul247_0 ge247_0)
             clear hva_ hvn_ hvc_ ge247_0 ul247_0
             clear hcc247 hce247
             have HR247_0:=Aside0.mk hi247_0
             have HC247_0:=Aside0.mk hl247_0
             clear hi247_0 hl247_0
             replace p247:=eq_true p247
             replace q247:=eq_true q247
             have ea_:=Option.some.inj (hx246_0.symm.trans hx247_0)
             injection ea_ with ea_ en_ ec_
             subst ea_
             subst ec_
             clear en_
             have p248 : 0≤(1 : Int):=(by omega)
             have q248 : 1 < ((rd_L5 t243 x8_2).length : Int):=of_decide_eq_true (by first|(with_reducible assumption)|assumption)
             obtain ⟨ad248,e248,hx248_0,hx248_1⟩:=at_T41 (by repeat (first|(with_reducible exact HR247_0.out)|(with_reducible refine Kd.C_alloc ?_ _)|(with_reducible refine Kd.C_drewN ?_ _)|(with_reducible refine Kd.C_drew ?_)|exact HR247_0.out)) 1 p248 q248
             cases e248
             (try simp only [show (1 : Int).toNat=1 from rfl,Nat.reduceMul,Nat.reduceEqDiff,Go.Addr.add,↓reduceIte] at hx248_0)
             (try simp only [show (1 : Int).toNat=1 from rfl,Nat.reduceMul,Nat.reduceEqDiff,Go.Addr.add,↓reduceIte] at hx248_1)
             have qi248 : (1 < (rd_L5 t243 x8_2).length)=True:=eq_true (by omega)
             (try rw [show ((1 : Int)).toNat=1 from rfl] at hx248_0)
             (try rw [show 1 * 2=2 from rfl] at hx248_0)
             (try rw [show ((1 : Int)).toNat=1 from rfl] at hx248_1)
             (try rw [show 1 * 2=2 from rfl] at hx248_1)
             replace p248:=eq_true p248
             replace q248:=eq_true q248
             have p249 : 0≤(x8_2 : Int):=of_decide_eq_true (by first|(with_reducible assumption)|assumption)
             have q249 : x8_2 < (t243.length : Int):=of_decide_eq_true (by first|(with_reducible assumption)|assumption)
             obtain ⟨ad249,A249_0,c249_0,e249,hx249_0,hl249_0,hi249_0⟩:=at_L5 (Kd.N_reads' HO_7.out).2.2 x8_2 p249 q249
             obtain rfl : ad246=ad249:=(by injection e249)
             obtain ⟨ce249,hce249,hMe249,hcc249⟩:=Kd.N_get HO_7.out [] x8_2 p249 (by first|exact q249|exact of_decide_eq_true (by first|(with_reducible assumption)|assumption)|(have e_:=(Kd.N_reads' HO_7.out).1;omega))
             obtain ⟨ua249_0,uc249_0,rfl,ul249_0,ge249_0⟩:=Kd.FK_slice_open hMe249
             have hv249_0:=hcc249 0 _ rfl
             rw [Nat.add_zero,show ((Kd.slice 41 k41)).sz=1 from rfl,Nat.mul_one] at hv249_0
             replace hv249_0:=Option.some.inj (hv249_0.symm.trans hx249_0)
             injection hv249_0 with hva_ hvn_ hvc_
             rw [hva_] at ge249_0
             rw [hvc_] at ul249_0
             have HL249_0:=Aside0.mk (show Kd.V k41 41 _ w.heap.size _ _ (rd_L5 t243 x8_2) from Kd.V_mk ul249_0 ge249_0)
             clear hva_ hvn_ hvc_ ge249_0 ul249_0
             clear hcc249 hce249
             have HR249_0:=Aside0.mk hi249_0
             have HC249_0:=Aside0.mk hl249_0
             clear hi249_0 hl249_0
             replace p249:=eq_true p249
             replace q249:=eq_true q249
             have ea_:=Option.some.inj (hx246_0.symm.trans hx249_0)
             injection ea_ with ea_ en_ ec_
             subst ea_
             subst ec_
             clear en_
             have p250 : 0≤(1 : Int):=(by omega)
             have q250 : 1 < ((rd_L5 t243 x8_2).length : Int):=of_decide_eq_true (by first|(with_reducible assumption)|assumption)
             obtain ⟨ad250,e250,hx250_0,hx250_1⟩:=at_T41 (by repeat (first|(with_reducible exact HR249_0.out)|(with_reducible refine Kd.C_alloc ?_ _)|(with_reducible refine Kd.C_drewN ?_ _)|(with_reducible refine Kd.C_drew ?_)|exact HR249_0.out)) 1 p250 q250
             cases e250
             (try simp only [show (1 : Int).toNat=1 from rfl,Nat.reduceMul,Nat.reduceEqDiff,Go.Addr.add,↓reduceIte] at hx250_0)
             (try simp only [show (1 : Int).toNat=1 from rfl,Nat.reduceMul,Nat.reduceEqDiff,Go.Addr.add,↓reduceIte] at hx250_1)
             have qi250 : (1 < (rd_L5 t243 x8_2).length)=True:=eq_true (by omega)
             (try rw [show ((1 : Int)).toNat=1 from rfl] at hx250_0)
             (try rw [show 1 * 2=2 from rfl] at hx250_0)
             (try rw [show ((1 : Int)).toNat=1 from rfl] at hx250_1)
             (try rw [show 1 * 2=2 from rfl] at hx250_1)
             replace p250:=eq_true p250
             replace q250:=eq_true q250
             go_wp2
             repeat (go_quiet (fail);try go_wp2)
             go_meet
             case rel=>exact ⟨_,(true),(by first|rfl|(simp;done)|(simp [*];done)),(by first|exact H'|(subst_vars;exact H')),⟨by have:=HJ2.out;have:=HK2.out;first|omega|exact Nat.le_refl _⟩,⟨by (with_reducible repeat (first|apply Kd.N_alloc|apply Kd.N_drewN|apply Kd.N_drew));exact HO_5.out⟩,⟨by (with_reducible repeat (first|apply Kd.N_alloc|apply Kd.N_drewN|apply Kd.N_drew));exact HO_7.out⟩,⟨by (with_reducible repeat (first|apply Kd.R_alloc|apply Kd.R_drewN|apply Kd.R_drew));exact HO_233000.out⟩,⟨by (with_reducible repeat (first|refine blk_drewN ?_ _|refine blk_drew ?_|refine blk_alloc ?_ _));exact BK232.out⟩,⟨by repeat (first|(with_reducible first|exact HB.out|apply below_alloc|apply pw_below_drewN|apply below_drew1|refine below_set ?_ GE232.out)|exact HB.out)⟩⟩
            ·rw [if_neg c32] at H
             have c32b0 : decide ((x5_2.length : Int)≤((rd_T41 (rd_L5 t243 x8_2) 1).f0))=false:=decide_eq_false c32
             clear c32
             by_cases c33 : 0≤((rd_T41 (rd_L5 t243 x8_2) 1).f0)
             ·rw [if_pos c33] at H
              have c33b0 : decide (0≤((rd_T41 (rd_L5 t243 x8_2) 1).f0))=true:=decide_eq_true c33
              clear c33
              by_cases c34 : ((rd_T41 (rd_L5 t243 x8_2) 1).f0) < (l0.length : Int)
              ·rw [if_pos c34] at H
               have c34b0 : decide (((rd_T41 (rd_L5 t243 x8_2) 1).f0) < (l0.length : Int))=true:=decide_eq_true c34
               clear c34
               by_cases c35 : 0 < ((rd_L5 t243 x8_2).length : Int)
               ·rw [if_pos c35] at H
                have c35b0 : decide (0 < ((rd_L5 t243 x8_2).length : Int))=true:=decide_eq_true c35
                have c35b1 : decide (0 < (rd_L5 t243 x8_2).length)=true:=decide_eq_true (by omega)
                clear c35
                have H':=Aside0.mk H
                clear H
                have p246 : 0≤(x8_2 : Int):=of_decide_eq_true (by first|(with_reducible assumption)|assumption)
                have q246 : x8_2 < (t243.length : Int):=of_decide_eq_true (by first|(with_reducible assumption)|assumption)
                obtain ⟨ad246,A246_0,c246_0,e246,hx246_0,hl246_0,hi246_0⟩:=at_L5 (Kd.N_reads' HO_7.out).2.2 x8_2 p246 q246
                cases e246
                obtain ⟨ce246,hce246,hMe246,hcc246⟩:=Kd.N_get HO_7.out [] x8_2 p246 (by first|exact q246|exact of_decide_eq_true (by first|(with_reducible assumption)|assumption)|(have e_:=(Kd.N_reads' HO_7.out).1;omega))
                obtain ⟨ua246_0,uc246_0,rfl,ul246_0,ge246_0⟩:=Kd.FK_slice_open hMe246
                have hv246_0:=hcc246 0 _ rfl
                rw [Nat.add_zero,show ((Kd.slice 41 k41)).sz=1 from rfl,Nat.mul_one] at hv246_0
                replace hv246_0:=Option.some.inj (hv246_0.symm.trans hx246_0)
                injection hv246_0 with hva_ hvn_ hvc_
                rw [hva_] at ge246_0
                rw [hvc_] at ul246_0
                have HL246_0:=Aside0.mk (show Kd.V k41 41 _ w.heap.size _ _ (rd_L5 t243 x8_2) from Kd.V_mk ul246_0 ge246_0)
                clear hva_ hvn_ hvc_ ge246_0 ul246_0
                clear hcc246 hce246
                have HR246_0:=Aside0.mk hi246_0
                have HC246_0:=Aside0.mk hl246_0
                clear hi246_0 hl246_0
                replace p246:=eq_true p246
                replace q246:=eq_true q246
                have p247 : 0≤(x8_2 : Int):=of_decide_eq_true (by first|(with_reducible assumption)|assumption)
                have q247 : x8_2 < (t243.length : Int):=of_decide_eq_true (by first|(with_reducible assumption)|assumption)
                obtain ⟨ad247,A247_0,c247_0,e247,hx247_0,hl247_0,hi247_0⟩:=at_L5 (Kd.N_reads' HO_7.out).2.2 x8_2 p247 q247
                obtain rfl : ad246=ad247:=(by injection e247)
                obtain ⟨ce247,hce247,hMe247,hcc247⟩:=Kd.N_get HO_7.out [] x8_2 p247 (by first|exact q247|exact of_decide_eq_true (by first|(with_reducible assumption)|assumption)|(have e_:=(Kd.N_reads' HO_7.out).1;omega))
                obtain ⟨ua247_0,uc247_0,rfl,ul247_0,ge247_0⟩:=Kd.FK_slice_open hMe247
                have hv247_0:=hcc247 0 _ rfl
                rw [Nat.add_zero,show ((Kd.slice 41 k41)).sz=1 from rfl,Nat.mul_one] at hv247_0
                replace hv247_0:=Option.some.inj (hv247_0.symm.trans hx247_0)
                injection hv247_0 with hva_ hvn_ hvc_
                rw [hva_] at ge247_0
                rw [hvc_] at ul247_0
                have HL247_0:=Aside0.mk (show Kd.V k41 41 _ w.heap.size _ _ (rd_L5 t243 x8_2) from Kd.V_mk ul247_0 ge247_0)
                clear hva_ hvn_ hvc_ ge247_0 ul247_0
                clear hcc247 hce247
                have HR247_0:=Aside0.mk hi247_0
                have HC247_0:=Aside0.mk hl247_0
                clear hi247_0 hl247_0
                replace p247:=eq_true p247
                replace q247:=eq_true q247
                have ea_:=Option.some.inj (hx246_0.symm.trans hx247_0)
                injection ea_ with ea_ en_ ec_
                subst ea_
                subst ec_
                clear en_
                have p248 : 0≤(1 : Int):=(by omega)
                have q248 : 1 < ((rd_L5 t243 x8_2).length : Int):=of_decide_eq_true (by first|(with_reducible assumption)|assumption)
                obtain ⟨ad248,e248,hx248_0,hx248_1⟩:=at_T41 (by repeat (first|(with_reducible exact HR247_0.out)|(with_reducible refine Kd.C_alloc ?_ _)|(with_reducible refine Kd.C_drewN ?_ _)|(with_reducible refine Kd.C_drew ?_)|exact HR247_0.out)) 1 p248 q248
                cases e248
                (try simp only [show (1 : Int).toNat=1 from rfl,Nat.reduceMul,Nat.reduceEqDiff,Go.Addr.add,↓reduceIte] at hx248_0)
                (try simp only [show (1 : Int).toNat=1 from rfl,Nat.reduceMul,Nat.reduceEqDiff,Go.Addr.add,↓reduceIte] at hx248_1)
                have qi248 : (1 < (rd_L5 t243 x8_2).length)=True:=eq_true (by omega)
                (try rw [show ((1 : Int)).toNat=1 from rfl] at hx248_0)
                (try rw [show 1 * 2=2 from rfl] at hx248_0)
                (try rw [show ((1 : Int)).toNat=1 from rfl] at hx248_1)
                (try rw [show 1 * 2=2 from rfl] at hx248_1)
                replace p248:=eq_true p248
                replace q248:=eq_true q248
                have p249 : 0≤(x8_2 : Int):=of_decide_eq_true (by first|(with_reducible assumption)|assumption)
                have q249 : x8_2 < (t243.length : Int):=of_decide_eq_true (by first|(with_reducible assumption)|assumption)
                obtain ⟨ad249,A249_0,c249_0,e249,hx249_0,hl249_0,hi249_0⟩:=at_L5 (Kd.N_reads' HO_7.out).2.2 x8_2 p249 q249
                obtain rfl : ad246=ad249:=(by injection e249)
                obtain ⟨ce249,hce249,hMe249,hcc249⟩:=Kd.N_get HO_7.out [] x8_2 p249 (by first|exact q249|exact of_decide_eq_true (by first|(with_reducible assumption)|assumption)|(have e_:=(Kd.N_reads' HO_7.out).1;omega))
                obtain ⟨ua249_0,uc249_0,rfl,ul249_0,ge249_0⟩:=Kd.FK_slice_open hMe249
                have hv249_0:=hcc249 0 _ rfl
                rw [Nat.add_zero,show ((Kd.slice 41 k41)).sz=1 from rfl,Nat.mul_one] at hv249_0
                replace hv249_0:=Option.some.inj (hv249_0.symm.trans hx249_0)
                injection hv249_0 with hva_ hvn_ hvc_
                rw [hva_] at ge249_0
                rw [hvc_] at ul249_0
                have HL249_0:=Aside0.mk (show Kd.V k41 41 _ w.heap.size _ _ (rd_L5 t243 x8_2) from Kd.V_mk ul249_0 ge249_0)
                clear hva_ hvn_ hvc_ ge249_0 ul249_0
                clear hcc249 hce249
                have HR249_0:=Aside0.mk hi249_0
                have HC249_0:=Aside0.mk hl249_0
                clear hi249_0 hl249_0
                replace p249:=eq_true p249
                replace q249:=eq_true q249
                have ea_:=Option.some.inj (hx246_0.symm.trans hx249_0)
                injection ea_ with ea_ en_ ec_
                subst ea_
                subst ec_
                clear en_
                have p250 : 0≤(1 : Int):=(by omega)
                have q250 : 1 < ((rd_L5 t243 x8_2).length : Int):=of_decide_eq_true (by first|(with_reducible assumption)|assumption)
                obtain ⟨ad250,e250,hx250_0,hx250_1⟩:=at_T41 (by repeat (first|(with_reducible exact HR249_0.out)|(with_reducible refine Kd.C_alloc ?_ _)|(with_reducible refine Kd.C_drewN ?_ _)|(with_reducible refine Kd.C_drew ?_)|exact HR249_0.out)) 1 p250 q250
                cases e250
                (try simp only [show (1 : Int).toNat=1 from rfl,Nat.reduceMul,Nat.reduceEqDiff,Go.Addr.add,↓reduceIte] at hx250_0)
                (try simp only [show (1 : Int).toNat=1 from rfl,Nat.reduceMul,Nat.reduceEqDiff,Go.Addr.add,↓reduceIte] at hx250_1)
                have qi250 : (1 < (rd_L5 t243 x8_2).length)=True:=eq_true (by omega)
                (try rw [show ((1 : Int)).toNat=1 from rfl] at hx250_0)
                (try rw [show 1 * 2=2 from rfl] at hx250_0)
                (try rw [show ((1 : Int)).toNat=1 from rfl] at hx250_1)
                (try rw [show 1 * 2=2 from rfl] at hx250_1)
                replace p250:=eq_true p250
                replace q250:=eq_true q250
                have p251 : 0≤(x8_2 : Int):=of_decide_eq_true (by first|(with_reducible assumption)|assumption)
                have q251 : x8_2 < (t243.length : Int):=of_decide_eq_true (by first|(with_reducible assumption)|assumption)
                obtain ⟨ad251,A251_0,c251_0,e251,hx251_0,hl251_0,hi251_0⟩:=at_L5 (Kd.N_reads' HO_7.out).2.2 x8_2 p251 q251
                obtain rfl : ad246=ad251:=(by injection e251)
                obtain ⟨ce251,hce251,hMe251,hcc251⟩:=Kd.N_get HO_7.out [] x8_2 p251 (by first|exact q251|exact of_decide_eq_true (by first|(with_reducible assumption)|assumption)|(have e_:=(Kd.N_reads' HO_7.out).1;omega))
                obtain ⟨ua251_0,uc251_0,rfl,ul251_0,ge251_0⟩:=Kd.FK_slice_open hMe251
                have hv251_0:=hcc251 0 _ rfl
                rw [Nat.add_zero,show ((Kd.slice 41 k41)).sz=1 from rfl,Nat.mul_one] at hv251_0
                replace hv251_0:=Option.some.inj (hv251_0.symm.trans hx251_0)
                injection hv251_0 with hva_ hvn_ hvc_
                rw [hva_] at ge251_0
                rw [hvc_] at ul251_0
                have HL251_0:=Aside0.mk (show Kd.V k41 41 _ w.heap.size _ _ (rd_L5 t243 x8_2) from Kd.V_mk ul251_0 ge251_0)
                clear hva_ hvn_ hvc_ ge251_0 ul251_0
                clear hcc251 hce251
                have HR251_0:=Aside0.mk hi251_0
                have HC251_0:=Aside0.mk hl251_0
                clear hi251_0 hl251_0
                replace p251:=eq_true p251
                replace q251:=eq_true q251
                have ea_:=Option.some.inj (hx246_0.symm.trans hx251_0)
                injection ea_ with ea_ en_ ec_
                subst ea_
                subst ec_
                clear en_
                have p252 : 0≤(1 : Int):=(by omega)
                have q252 : 1 < ((rd_L5 t243 x8_2).length : Int):=of_decide_eq_true (by first|(with_reducible assumption)|assumption)
                obtain ⟨ad252,e252,hx252_0,hx252_1⟩:=at_T41 (by repeat (first|(with_reducible exact HR251_0.out)|(with_reducible refine Kd.C_alloc ?_ _)|(with_reducible refine Kd.C_drewN ?_ _)|(with_reducible refine Kd.C_drew ?_)|exact HR251_0.out)) 1 p252 q252
                cases e252
                (try simp only [show (1 : Int).toNat=1 from rfl,Nat.reduceMul,Nat.reduceEqDiff,Go.Addr.add,↓reduceIte] at hx252_0)
                (try simp only [show (1 : Int).toNat=1 from rfl,Nat.reduceMul,Nat.reduceEqDiff,Go.Addr.add,↓reduceIte] at hx252_1)
                have qi252 : (1 < (rd_L5 t243 x8_2).length)=True:=eq_true (by omega)
                (try rw [show ((1 : Int)).toNat=1 from rfl] at hx252_0)
                (try rw [show 1 * 2=2 from rfl] at hx252_0)
                (try rw [show ((1 : Int)).toNat=1 from rfl] at hx252_1)
                (try rw [show 1 * 2=2 from rfl] at hx252_1)
                replace p252:=eq_true p252
                replace q252:=eq_true q252
                have p253 : 0≤(((rd_T41 (rd_L5 t243 x8_2) 1).f0) : Int):=of_decide_eq_true (by first|(with_reducible assumption)|assumption)
                have q253 : ((rd_T41 (rd_L5 t243 x8_2) 1).f0) < (l0.length : Int):=of_decide_eq_true (by first|(with_reducible assumption)|assumption)
                obtain ⟨ad253,e253,hx253_0⟩:=Kd.at_int HR0.out ((rd_T41 (rd_L5 t243 x8_2) 1).f0) p253 q253
                cases e253
                replace hx253_0:=(HB.out.cell (World.block_lt_of_cell? w _ hx253_0)).trans hx253_0
                replace p253:=eq_true p253
                replace q253:=eq_true q253
                have p254 : 0≤(x8_2 : Int):=of_decide_eq_true (by first|(with_reducible assumption)|assumption)
                have q254 : x8_2 < (t243.length : Int):=of_decide_eq_true (by first|(with_reducible assumption)|assumption)
                obtain ⟨ad254,A254_0,c254_0,e254,hx254_0,hl254_0,hi254_0⟩:=at_L5 (Kd.N_reads' HO_7.out).2.2 x8_2 p254 q254
                obtain rfl : ad246=ad254:=(by injection e254)
                obtain ⟨ce254,hce254,hMe254,hcc254⟩:=Kd.N_get HO_7.out [] x8_2 p254 (by first|exact q254|exact of_decide_eq_true (by first|(with_reducible assumption)|assumption)|(have e_:=(Kd.N_reads' HO_7.out).1;omega))
                obtain ⟨ua254_0,uc254_0,rfl,ul254_0,ge254_0⟩:=Kd.FK_slice_open hMe254
                have hv254_0:=hcc254 0 _ rfl
                rw [Nat.add_zero,show ((Kd.slice 41 k41)).sz=1 from rfl,Nat.mul_one] at hv254_0
                replace hv254_0:=Option.some.inj (hv254_0.symm.trans hx254_0)
                injection hv254_0 with hva_ hvn_ hvc_
                rw [hva_] at ge254_0
                rw [hvc_] at ul254_0
                have HL254_0:=Aside0.mk (show Kd.V k41 41 _ w.heap.size _ _ (rd_L5 t243 x8_2) from Kd.V_mk ul254_0 ge254_0)
                clear hva_ hvn_ hvc_ ge254_0 ul254_0
                clear hcc254 hce254
                have HR254_0:=Aside0.mk hi254_0
                have HC254_0:=Aside0.mk hl254_0
                clear hi254_0 hl254_0
                replace p254:=eq_true p254
                replace q254:=eq_true q254
                have ea_:=Option.some.inj (hx246_0.symm.trans hx254_0)
                injection ea_ with ea_ en_ ec_
                subst ea_
                subst ec_
                clear en_
                have p255 : 0≤(0 : Int):=(by omega)
                have q255 : 0 < ((rd_L5 t243 x8_2).length : Int):=of_decide_eq_true (by first|(with_reducible assumption)|assumption)
                obtain ⟨ad255,e255,hx255_0,hx255_1⟩:=at_T41 (by repeat (first|(with_reducible exact HR254_0.out)|(with_reducible refine Kd.C_alloc ?_ _)|(with_reducible refine Kd.C_drewN ?_ _)|(with_reducible refine Kd.C_drew ?_)|exact HR254_0.out)) 0 p255 q255
                cases e255
                have qi255 : (0 < (rd_L5 t243 x8_2).length)=True:=eq_true (by omega)
                (try rw [show ((0 : Int)).toNat=0 from rfl] at hx255_0)
                (try rw [show 0 * 2=0 from rfl] at hx255_0)
                (try rw [Addr.add_zero'] at hx255_0)
                (try rw [show ((0 : Int)).toNat=0 from rfl] at hx255_1)
                (try rw [show 0 * 2=0 from rfl] at hx255_1)
                (try rw [Addr.add_zero'] at hx255_1)
                replace p255:=eq_true p255
                replace q255:=eq_true q255
                go_wp2
                repeat (go_quiet (fail);try go_wp2)
                go_meet
                case rel=>exact ⟨_,(((rd l0 ((rd_T41 (rd_L5 t243 x8_2) 1).f0)) != ((rd_T41 (rd_L5 t243 x8_2) 0).f0))),(by first|rfl|(simp;done)|(simp [*];done)),(by first|exact H'|(subst_vars;exact H')),⟨by have:=HJ2.out;have:=HK2.out;first|omega|exact Nat.le_refl _⟩,⟨by (with_reducible repeat (first|apply Kd.N_alloc|apply Kd.N_drewN|apply Kd.N_drew));exact HO_5.out⟩,⟨by (with_reducible repeat (first|apply Kd.N_alloc|apply Kd.N_drewN|apply Kd.N_drew));exact HO_7.out⟩,⟨by (with_reducible repeat (first|apply Kd.R_alloc|apply Kd.R_drewN|apply Kd.R_drew));exact HO_233000.out⟩,⟨by (with_reducible repeat (first|refine blk_drewN ?_ _|refine blk_drew ?_|refine blk_alloc ?_ _));exact BK232.out⟩,⟨by repeat (first|(with_reducible first|exact HB.out|apply below_alloc|apply pw_below_drewN|apply below_drew1|refine below_set ?_ GE232.out)|exact HB.out)⟩⟩
               ·rw [if_neg c35] at H
                exact absurd H (by simp)
              ·rw [if_neg c34] at H
               exact absurd H (by simp)
             ·rw [if_neg c33] at H
              exact absurd H (by simp)
          ·rw [if_neg c30] at H
           exact absurd H (by simp)
         ·rw [if_neg c29] at H
          have c29b0 : (((rd_L5 t243 x8_2).length : Int) == 2)=false:=beq_eq_false_iff_ne.mpr c29
          have c29b1 : (((rd_L5 t243 x8_2).length : Int) != 2)=true:=bne_iff_ne.mpr c29
          have H':=Aside0.mk H
          clear H
          have p246 : 0≤(x8_2 : Int):=of_decide_eq_true (by first|(with_reducible assumption)|assumption)
          have q246 : x8_2 < (t243.length : Int):=of_decide_eq_true (by first|(with_reducible assumption)|assumption)
          obtain ⟨ad246,A246_0,c246_0,e246,hx246_0,hl246_0,hi246_0⟩:=at_L5 (Kd.N_reads' HO_7.out).2.2 x8_2 p246 q246
          cases e246
          obtain ⟨ce246,hce246,hMe246,hcc246⟩:=Kd.N_get HO_7.out [] x8_2 p246 (by first|exact q246|exact of_decide_eq_true (by first|(with_reducible assumption)|assumption)|(have e_:=(Kd.N_reads' HO_7.out).1;omega))
          obtain ⟨ua246_0,uc246_0,rfl,ul246_0,ge246_0⟩:=Kd.FK_slice_open hMe246
          have hv246_0:=hcc246 0 _ rfl
          rw [Nat.add_zero,show ((Kd.slice 41 k41)).sz=1 from rfl,Nat.mul_one] at hv246_0
          replace hv246_0:=Option.some.inj (hv246_0.symm.trans hx246_0)
          injection hv246_0 with hva_ hvn_ hvc_
          rw [hva_] at ge246_0
          rw [hvc_] at ul246_0
          have HL246_0:=Aside0.mk (show Kd.V k41 41 _ w.heap.size _ _ (rd_L5 t243 x8_2) from Kd.V_mk ul246_0 ge246_0)
          clear hva_ hvn_ hvc_ ge246_0 ul246_0
          clear hcc246 hce246
          have HR246_0:=Aside0.mk hi246_0
          have HC246_0:=Aside0.mk hl246_0
          clear hi246_0 hl246_0
          replace p246:=eq_true p246
          replace q246:=eq_true q246
          go_wp2
          repeat (go_quiet (fail);try go_wp2)
          go_meet
          case rel=>exact ⟨_,(true),(by first|rfl|(simp;done)|(simp [*];done)),(by first|exact H'|(subst_vars;exact H')),⟨by have:=HJ2.out;have:=HK2.out;first|omega|exact Nat.le_refl _⟩,⟨by (with_reducible repeat (first|apply Kd.N_alloc|apply Kd.N_drewN|apply Kd.N_drew));exact HO_5.out⟩,⟨by (with_reducible repeat (first|apply Kd.N_alloc|apply Kd.N_drewN|apply Kd.N_drew));exact HO_7.out⟩,⟨by (with_reducible repeat (first|apply Kd.R_alloc|apply Kd.R_drewN|apply Kd.R_drew));exact HO_233000.out⟩,⟨by (with_reducible repeat (first|refine blk_drewN ?_ _|refine blk_drew ?_|refine blk_alloc ?_ _));exact BK232.out⟩,⟨by repeat (first|(with_reducible first|exact HB.out|apply below_alloc|apply pw_below_drewN|apply below_drew1|refine below_set ?_ GE232.out)|exact HB.out)⟩⟩
        ·rw [if_neg c28] at H
         exact absurd H (by simp)
       case rest =>
        clear HC27
        try clear c1
        try clear c2
        try clear p2
        try clear q2
        try clear hx2
        try clear qi2
        try clear c3
        try clear c4
        try clear p6
        try clear c12
        try clear c12b0
        try clear c13
        try clear c13b0
        try clear c14
        try clear c14b0
        try clear c15
        try clear c21
        try clear c21b0
        try clear c21b1
        try clear c21b2
        try clear p23
        try clear q23
        try clear hx23
        try clear c24
        try clear p24
        try clear q24
        try clear hx24
        try clear qi24
        try clear c25
        try clear p25
        try clear q25
        try clear hx25
        try clear qi25
        try clear c26
        try clear c26b0
        try clear c28
        try clear c28b0
        try clear c29
        try clear c29b0
        try clear c29b1
        try clear c30
        try clear c30b0
        try clear c30b1
        try clear c31
        try clear c31b0
        try clear c32
        try clear c32b0
        try clear c33
        try clear c33b0
        try clear c34
        try clear c34b0
        try clear c35
        try clear c35b0
        try clear c35b1
        try clear hcz22_0
        try clear hcz22_1
        try clear hcz22_2
        try clear hcz22_3
        try clear hcz9_0
        try clear hcz9_1
        try clear hcz9_2
        try clear hcz9_3
        try clear hfz22_0
        try clear hfz22_1
        try clear hfz22_2
        try clear hfz22_3
        try clear hfz9_0
        try clear hfz9_1
        try clear hfz9_2
        try clear hfz9_3
        try clear hx236_0
        try clear hx246_0
        try clear hx247_0
        try clear hx248_0
        try clear hx248_1
        try clear hx249_0
        try clear hx250_0
        try clear hx250_1
        try clear hx251_0
        try clear hx252_0
        try clear hx252_1
        try clear hx253_0
        try clear hx254_0
        try clear hx255_0
        try clear hx255_1
        try clear p2
        try clear p23
        try clear p236
        try clear p246
        try clear p247
        try clear p248
        try clear p249
        try clear p250
        try clear p251
        try clear p252
        try clear p253
        try clear p254
        try clear p255
        try clear p6
        try clear q2
        try clear q23
        try clear q236
        try clear q246
        try clear q247
        try clear q248
        try clear q249
        try clear q250
        try clear q251
        try clear q252
        try clear q253
        try clear q254
        try clear q255
        obtain ⟨kq,x95_26,rfl,HA,HJ26,HO_5,HO_7,HO_233000,BK232,HB⟩:=hcut
        cases kq with
        | zero=>exact absurd HA.out (by simp [thresherlaw09_OrderStable.j3])
        | succ kj26 =>
         have H:=HA.out
         clear HA
         simp only [thresherlaw09_OrderStable.j3] at H
         by_cases c36 : x95_26=true
         ·subst c36
          have H1 : (some false)=some r:=by rw [if_pos rfl] at H;exact H
          clear H
          have H:=H1
          clear H1
          obtain rfl:=Option.some.inj H
          go_wp2
          repeat (go_quiet (fail);try go_wp2)
          go_ret
          exact ⟨by first|rfl|(simp [errW_none,errW_some] <;> rfl)|(simp [*,errW_none,errW_some] <;> rfl),by repeat (first|(with_reducible first|exact HB.out|apply below_alloc|apply pw_below_drewN|apply below_drew1|refine below_set ?_ GE232.out)|exact HB.out)⟩
         ·replace c36:=Bool.eq_false_iff.mpr c36
          subst c36
          have H1 : (if x8_2 > 0 then (if 0≤(wrap64 (x8_2 - 1)) then (if (wrap64 (x8_2 - 1)) < (t243.length : Int) then (if 0 < ((rd_L5 t243 (wrap64 (x8_2 - 1))).length : Int) then (if 0≤x8_2 then (if x8_2 < (t243.length : Int) then (if 0 < ((rd_L5 t243 x8_2).length : Int) then (if ((rd_T41 (rd_L5 t243 (wrap64 (x8_2 - 1))) 0).f0) > ((rd_T41 (rd_L5 t243 x8_2) 0).f0) then (thresherlaw09_OrderStable.j4 kj26 l0 t228 x5_2 t243 x8_2 true) else (if ((rd_T41 (rd_L5 t243 (wrap64 (x8_2 - 1))) 0).f0)=((rd_T41 (rd_L5 t243 x8_2) 0).f0) then (if 1 < ((rd_L5 t243 (wrap64 (x8_2 - 1))).length : Int) then (if 1 < ((rd_L5 t243 x8_2).length : Int) then (thresherlaw09_OrderStable.j4 kj26 l0 t228 x5_2 t243 x8_2 (decide (((rd_T41 (rd_L5 t243 (wrap64 (x8_2 - 1))) 1).f0) ≥ ((rd_T41 (rd_L5 t243 x8_2) 1).f0)))) else (none)) else (none)) else (thresherlaw09_OrderStable.j4 kj26 l0 t228 x5_2 t243 x8_2 false))) else (none)) else (none)) else (none)) else (none)) else (none)) else (none)) else (thresherlaw09_OrderStable.j4 kj26 l0 t228 x5_2 t243 x8_2 false))=some r:=by rw [if_neg (show ¬ (false=true) by decide)] at H;exact H
          clear H
          have H:=H1
          clear H1
          have HC37:=Aside0.mk H
          clear H
          go_upto_region 16 with (fail)
          repeat (go_quiet (fail);go_upto_region 16 with (fail))
          go_cut [151] (fun v151 wc=>∃ (kq : Nat) (x151_36 : Bool),v151=.bool x151_36∧Aside0 (thresherlaw09_OrderStable.j4 kq l0 t228 x5_2 t243 x8_2 x151_36=some r)∧Aside0 (kq≤kj26)∧Aside0 (Kd.N (Kd.slice 41 k41) 27 wc w.heap.size (fun k_=>some k_≠((.slice Ao25 t243.length co25) : Value).ownBlock∧some k_≠((.slice Ao7 y229.length co7) : Value).ownBlock∧k_≠gb232) (.slice Ao23 x5_2.length co23) x5_2)∧Aside0 (Kd.N (Kd.slice 41 k41) 27 wc w.heap.size (fun k_=>some k_≠((.slice Ao7 y229.length co7) : Value).ownBlock∧k_≠gb232) (.slice Ao25 t243.length co25) t243)∧Aside0 (Kd.R (Kd.int .i64) 3 wc w.heap.size (fun _=>True) (.slice Ao7 y229.length co7) y229)∧Aside0 (wc.heap[gb232]?=some (.cells #[(.slice Ao7 y229.length co7),.int .i64 1,.int .i64 1,.int .i64 4] 31 (0,0)))∧Aside0 (Below w.heap.size w wc))
          case first =>
           have H:=HC37.out
           clear HC37
           by_cases c38 : x8_2 > 0
           ·rw [if_pos c38] at H
            have c38b0 : decide (0 < x8_2)=true:=decide_eq_true c38
            clear c38
            (first|rw [c38b0]|(simp only [i64_w,i32_w];rw [c38b0])|skip)
            obtain ⟨ji39,hji39⟩ : ∃ j_ : Int,(wrap64 (x8_2 - 1))=j_:=⟨_,rfl⟩
            replace H : (if 0≤(ji39) then (if (ji39) < (t243.length : Int) then (if 0 < ((rd_L5 t243 (ji39)).length : Int) then (if 0≤x8_2 then (if x8_2 < (t243.length : Int) then (if 0 < ((rd_L5 t243 x8_2).length : Int) then (if ((rd_T41 (rd_L5 t243 (ji39)) 0).f0) > ((rd_T41 (rd_L5 t243 x8_2) 0).f0) then (thresherlaw09_OrderStable.j4 kj26 l0 t228 x5_2 t243 x8_2 true) else (if ((rd_T41 (rd_L5 t243 (ji39)) 0).f0)=((rd_T41 (rd_L5 t243 x8_2) 0).f0) then (if 1 < ((rd_L5 t243 (ji39)).length : Int) then (if 1 < ((rd_L5 t243 x8_2).length : Int) then (thresherlaw09_OrderStable.j4 kj26 l0 t228 x5_2 t243 x8_2 (decide (((rd_T41 (rd_L5 t243 (ji39)) 1).f0) ≥ ((rd_T41 (rd_L5 t243 x8_2) 1).f0)))) else (none)) else (none)) else (thresherlaw09_OrderStable.j4 kj26 l0 t228 x5_2 t243 x8_2 false))) else (none)) else (none)) else (none)) else (none)) else (none)) else (none))=some r:=by first|(rw [hji39] at H;exact H)|(simp only [hji39] at H ⊢;exact H)
            have hji39w : (IntKind.i64.wrap (x8_2 - 1))=ji39:=(i64_w _).trans hji39
            by_cases c40 : 0≤(ji39)
            ·rw [if_pos c40] at H
             have c40b0 : decide (0≤(ji39))=true:=decide_eq_true c40
             clear c40
             by_cases c41 : (ji39) < (t243.length : Int)
             ·rw [if_pos c41] at H
              have c41b0 : decide ((ji39) < (t243.length : Int))=true:=decide_eq_true c41
              clear c41
              by_cases c42 : 0 < ((rd_L5 t243 (ji39)).length : Int)
              ·rw [if_pos c42] at H
               have c42b0 : decide (0 < ((rd_L5 t243 (ji39)).length : Int))=true:=decide_eq_true c42
               have c42b1 : decide (0 < (rd_L5 t243 (ji39)).length)=true:=decide_eq_true (by omega)
               clear c42
               by_cases c43 : 0≤x8_2
               ·rw [if_pos c43] at H
                have c43b0 : decide (0≤x8_2)=true:=decide_eq_true c43
                clear c43
                by_cases c44 : x8_2 < (t243.length : Int)
                ·rw [if_pos c44] at H
                 have c44b0 : decide (x8_2 < (t243.length : Int))=true:=decide_eq_true c44
                 clear c44
                 by_cases c45 : 0 < ((rd_L5 t243 x8_2).length : Int)
                 ·rw [if_pos c45] at H
                  have c45b0 : decide (0 < ((rd_L5 t243 x8_2).length : Int))=true:=decide_eq_true c45
                  have c45b1 : decide (0 < (rd_L5 t243 x8_2).length)=true:=decide_eq_true (by omega)
                  clear c45
                  by_cases c46 : ((rd_T41 (rd_L5 t243 (ji39)) 0).f0) > ((rd_T41 (rd_L5 t243 x8_2) 0).f0)
                  ·rw [if_pos c46] at H
                   have c46b0 : decide (((rd_T41 (rd_L5 t243 x8_2) 0).f0) < ((rd_T41 (rd_L5 t243 (ji39)) 0).f0))=true:=decide_eq_true c46
                   clear c46
                   have H':=Aside0.mk H
                   clear H
                   have p256 : 0≤((ji39) : Int):=of_decide_eq_true (by first|(with_reducible assumption)|assumption)
                   have q256 : (ji39) < (t243.length : Int):=of_decide_eq_true (by first|(with_reducible assumption)|assumption)
                   obtain ⟨ad256,A256_0,c256_0,e256,hx256_0,hl256_0,hi256_0⟩:=at_L5 (Kd.N_reads' HO_7.out).2.2 (ji39) p256 q256
                   cases e256
                   obtain ⟨ce256,hce256,hMe256,hcc256⟩:=Kd.N_get HO_7.out [] (ji39) p256 (by first|exact q256|exact of_decide_eq_true (by first|(with_reducible assumption)|assumption)|(have e_:=(Kd.N_reads' HO_7.out).1;omega))
                   obtain ⟨ua256_0,uc256_0,rfl,ul256_0,ge256_0⟩:=Kd.FK_slice_open hMe256
                   have hv256_0:=hcc256 0 _ rfl
                   rw [Nat.add_zero,show ((Kd.slice 41 k41)).sz=1 from rfl,Nat.mul_one] at hv256_0
                   replace hv256_0:=Option.some.inj (hv256_0.symm.trans hx256_0)
                   injection hv256_0 with hva_ hvn_ hvc_
                   rw [hva_] at ge256_0
                   rw [hvc_] at ul256_0
                   have HL256_0:=Aside0.mk (show Kd.V k41 41 _ w.heap.size _ _ (rd_L5 t243 (ji39)) from Kd.V_mk ul256_0 ge256_0)
                   clear hva_ hvn_ hvc_ ge256_0 ul256_0
                   clear hcc256 hce256
                   have HR256_0:=Aside0.mk hi256_0
                   have HC256_0:=Aside0.mk hl256_0
                   clear hi256_0 hl256_0
                   replace p256:=eq_true p256
                   replace q256:=eq_true q256
                   have p257 : 0≤(0 : Int):=(by omega)
                   have q257 : 0 < ((rd_L5 t243 (ji39)).length : Int):=of_decide_eq_true (by first|(with_reducible assumption)|assumption)
                   obtain ⟨ad257,e257,hx257_0,hx257_1⟩:=at_T41 (by repeat (first|(with_reducible exact HR256_0.out)|(with_reducible refine Kd.C_alloc ?_ _)|(with_reducible refine Kd.C_drewN ?_ _)|(with_reducible refine Kd.C_drew ?_)|exact HR256_0.out)) 0 p257 q257
                   cases e257
                   have qi257 : (0 < (rd_L5 t243 (ji39)).length)=True:=eq_true (by omega)
                   (try rw [show ((0 : Int)).toNat=0 from rfl] at hx257_0)
                   (try rw [show 0 * 2=0 from rfl] at hx257_0)
                   (try rw [Addr.add_zero'] at hx257_0)
                   (try rw [show ((0 : Int)).toNat=0 from rfl] at hx257_1)
                   (try rw [show 0 * 2=0 from rfl] at hx257_1)
                   (try rw [Addr.add_zero'] at hx257_1)
                   replace p257:=eq_true p257
                   replace q257:=eq_true q257
                   have p258 : 0≤(x8_2 : Int):=of_decide_eq_true (by first|(with_reducible assumption)|assumption)
                   have q258 : x8_2 < (t243.length : Int):=of_decide_eq_true (by first|(with_reducible assumption)|assumption)
                   obtain ⟨ad258,A258_0,c258_0,e258,hx258_0,hl258_0,hi258_0⟩:=at_L5 (Kd.N_reads' HO_7.out).2.2 x8_2 p258 q258
                   obtain rfl : ad256=ad258:=(by injection e258)
                   obtain ⟨ce258,hce258,hMe258,hcc258⟩:=Kd.N_get HO_7.out [] x8_2 p258 (by first|exact q258|exact of_decide_eq_true (by first|(with_reducible assumption)|assumption)|(have e_:=(Kd.N_reads' HO_7.out).1;omega))
                   obtain ⟨ua258_0,uc258_0,rfl,ul258_0,ge258_0⟩:=Kd.FK_slice_open hMe258
                   have hv258_0:=hcc258 0 _ rfl
                   rw [Nat.add_zero,show ((Kd.slice 41 k41)).sz=1 from rfl,Nat.mul_one] at hv258_0
                   replace hv258_0:=Option.some.inj (hv258_0.symm.trans hx258_0)
                   injection hv258_0 with hva_ hvn_ hvc_
                   rw [hva_] at ge258_0
                   rw [hvc_] at ul258_0
                   have HL258_0:=Aside0.mk (show Kd.V k41 41 _ w.heap.size _ _ (rd_L5 t243 x8_2) from Kd.V_mk ul258_0 ge258_0)
                   clear hva_ hvn_ hvc_ ge258_0 ul258_0
                   clear hcc258 hce258
                   have HR258_0:=Aside0.mk hi258_0
                   have HC258_0:=Aside0.mk hl258_0
                   clear hi258_0 hl258_0
                   replace p258:=eq_true p258
                   replace q258:=eq_true q258
                   have p259 : 0≤(0 : Int):=(by omega)
                   have q259 : 0 < ((rd_L5 t243 x8_2).length : Int):=of_decide_eq_true (by first|(with_reducible assumption)|assumption)
                   obtain ⟨ad259,e259,hx259_0,hx259_1⟩:=at_T41 (by repeat (first|(with_reducible exact HR258_0.out)|(with_reducible refine Kd.C_alloc ?_ _)|(with_reducible refine Kd.C_drewN ?_ _)|(with_reducible refine Kd.C_drew ?_)|exact HR258_0.out)) 0 p259 q259
                   cases e259
                   have qi259 : (0 < (rd_L5 t243 x8_2).length)=True:=eq_true (by omega)
                   (try rw [show ((0 : Int)).toNat=0 from rfl] at hx259_0)
                   (try rw [show 0 * 2=0 from rfl] at hx259_0)
                   (try rw [Addr.add_zero'] at hx259_0)
                   (try rw [show ((0 : Int)).toNat=0 from rfl] at hx259_1)
                   (try rw [show 0 * 2=0 from rfl] at hx259_1)
                   (try rw [Addr.add_zero'] at hx259_1)
                   replace p259:=eq_true p259
                   replace q259:=eq_true q259
                   go_wp2
                   repeat (go_quiet (fail);try go_wp2)
                   go_meet
                   case rel=>exact ⟨_,(true),(by first|rfl|(simp;done)|(simp [*];done)),(by first|exact H'|(subst_vars;exact H')),⟨by have:=HJ2.out;have:=HK2.out;have:=HJ26.out;first|omega|exact Nat.le_refl _⟩,⟨by (with_reducible repeat (first|apply Kd.N_alloc|apply Kd.N_drewN|apply Kd.N_drew));exact HO_5.out⟩,⟨by (with_reducible repeat (first|apply Kd.N_alloc|apply Kd.N_drewN|apply Kd.N_drew));exact HO_7.out⟩,⟨by (with_reducible repeat (first|apply Kd.R_alloc|apply Kd.R_drewN|apply Kd.R_drew));exact HO_233000.out⟩,⟨by (with_reducible repeat (first|refine blk_drewN ?_ _|refine blk_drew ?_|refine blk_alloc ?_ _));exact BK232.out⟩,⟨by repeat (first|(with_reducible first|exact HB.out|apply below_alloc|apply pw_below_drewN|apply below_drew1|refine below_set ?_ GE232.out)|exact HB.out)⟩⟩
                  ·rw [if_neg c46] at H
                   have c46b0 : decide (((rd_T41 (rd_L5 t243 x8_2) 0).f0) < ((rd_T41 (rd_L5 t243 (ji39)) 0).f0))=false:=decide_eq_false c46
                   clear c46
                   by_cases c47 : ((rd_T41 (rd_L5 t243 (ji39)) 0).f0)=((rd_T41 (rd_L5 t243 x8_2) 0).f0)
                   ·rw [if_pos c47] at H
                    have c47b0 : (((rd_T41 (rd_L5 t243 (ji39)) 0).f0) == ((rd_T41 (rd_L5 t243 x8_2) 0).f0))=true:=beq_iff_eq.mpr c47
                    have c47b1 : (((rd_T41 (rd_L5 t243 (ji39)) 0).f0) != ((rd_T41 (rd_L5 t243 x8_2) 0).f0))=false:=bne_eq_false_iff_eq.mpr c47
                    clear c47
                    by_cases c48 : 1 < ((rd_L5 t243 (ji39)).length : Int)
                    ·rw [if_pos c48] at H
                     have c48b0 : decide (1 < ((rd_L5 t243 (ji39)).length : Int))=true:=decide_eq_true c48
                     have c48b1 : decide (1 < (rd_L5 t243 (ji39)).length)=true:=decide_eq_true (by omega)
                     clear c48
                     by_cases c49 : 1 < ((rd_L5 t243 x8_2).length : Int)
                     ·rw [if_pos c49] at H
                      have c49b0 : decide (1 < ((rd_L5 t243 x8_2).length : Int))=true:=decide_eq_true c49
                      have c49b1 : decide (1 < (rd_L5 t243 x8_2).length)=true:=decide_eq_true (by omega)
                      clear c49
                      have H':=Aside0.mk H
                      clear H
                      have p256 : 0≤((ji39) : Int):=of_decide_eq_true (by first|(with_reducible assumption)|assumption)
                      have q256 : (ji39) < (t243.length : Int):=of_decide_eq_true (by first|(with_reducible assumption)|assumption)
                      obtain ⟨ad256,A256_0,c256_0,e256,hx256_0,hl256_0,hi256_0⟩:=at_L5 (Kd.N_reads' HO_7.out).2.2 (ji39) p256 q256
                      cases e256
                      obtain ⟨ce256,hce256,hMe256,hcc256⟩:=Kd.N_get HO_7.out [] (ji39) p256 (by first|exact q256|exact of_decide_eq_true (by first|(with_reducible assumption)|assumption)|(have e_:=(Kd.N_reads' HO_7.out).1;omega))
                      obtain ⟨ua256_0,uc256_0,rfl,ul256_0,ge256_0⟩:=Kd.FK_slice_open hMe256
                      have hv256_0:=hcc256 0 _ rfl
                      rw [Nat.add_zero,show ((Kd.slice 41 k41)).sz=1 from rfl,Nat.mul_one] at hv256_0
                      replace hv256_0:=Option.some.inj (hv256_0.symm.trans hx256_0)
                      injection hv256_0 with hva_ hvn_ hvc_
                      rw [hva_] at ge256_0
                      rw [hvc_] at ul256_0
                      have HL256_0:=Aside0.mk (show Kd.V k41 41 _ w.heap.size _ _ (rd_L5 t243 (ji39)) from Kd.V_mk ul256_0 ge256_0)
                      clear hva_ hvn_ hvc_ ge256_0 ul256_0
                      clear hcc256 hce256
                      have HR256_0:=Aside0.mk hi256_0
                      have HC256_0:=Aside0.mk hl256_0
                      clear hi256_0 hl256_0
                      replace p256:=eq_true p256
                      replace q256:=eq_true q256
                      have p257 : 0≤(0 : Int):=(by omega)
                      have q257 : 0 < ((rd_L5 t243 (ji39)).length : Int):=of_decide_eq_true (by first|(with_reducible assumption)|assumption)
                      obtain ⟨ad257,e257,hx257_0,hx257_1⟩:=at_T41 (by repeat (first|(with_reducible exact HR256_0.out)|(with_reducible refine Kd.C_alloc ?_ _)|(with_reducible refine Kd.C_drewN ?_ _)|(with_reducible refine Kd.C_drew ?_)|exact HR256_0.out)) 0 p257 q257
                      cases e257
                      have qi257 : (0 < (rd_L5 t243 (ji39)).length)=True:=eq_true (by omega)
                      (try rw [show ((0 : Int)).toNat=0 from rfl] at hx257_0)
                      (try rw [show 0 * 2=0 from rfl] at hx257_0)
                      (try rw [Addr.add_zero'] at hx257_0)
                      (try rw [show ((0 : Int)).toNat=0 from rfl] at hx257_1)
                      (try rw [show 0 * 2=0 from rfl] at hx257_1)
                      (try rw [Addr.add_zero'] at hx257_1)
                      replace p257:=eq_true p257
                      replace q257:=eq_true q257
                      have p258 : 0≤(x8_2 : Int):=of_decide_eq_true (by first|(with_reducible assumption)|assumption)
                      have q258 : x8_2 < (t243.length : Int):=of_decide_eq_true (by first|(with_reducible assumption)|assumption)
                      obtain ⟨ad258,A258_0,c258_0,e258,hx258_0,hl258_0,hi258_0⟩:=at_L5 (Kd.N_reads' HO_7.out).2.2 x8_2 p258 q258
                      obtain rfl : ad256=ad258:=(by injection e258)
                      obtain ⟨ce258,hce258,hMe258,hcc258⟩:=Kd.N_get HO_7.out [] x8_2 p258 (by first|exact q258|exact of_decide_eq_true (by first|(with_reducible assumption)|assumption)|(have e_:=(Kd.N_reads' HO_7.out).1;omega))
                      obtain ⟨ua258_0,uc258_0,rfl,ul258_0,ge258_0⟩:=Kd.FK_slice_open hMe258
                      have hv258_0:=hcc258 0 _ rfl
                      rw [Nat.add_zero,show ((Kd.slice 41 k41)).sz=1 from rfl,Nat.mul_one] at hv258_0
                      replace hv258_0:=Option.some.inj (hv258_0.symm.trans hx258_0)
                      injection hv258_0 with hva_ hvn_ hvc_
                      rw [hva_] at ge258_0
                      rw [hvc_] at ul258_0
                      have HL258_0:=Aside0.mk (show Kd.V k41 41 _ w.heap.size _ _ (rd_L5 t243 x8_2) from Kd.V_mk ul258_0 ge258_0)
                      clear hva_ hvn_ hvc_ ge258_0 ul258_0
                      clear hcc258 hce258
                      have HR258_0:=Aside0.mk hi258_0
                      have HC258_0:=Aside0.mk hl258_0
                      clear hi258_0 hl258_0
                      replace p258:=eq_true p258
                      replace q258:=eq_true q258
                      have p259 : 0≤(0 : Int):=(by omega)
                      have q259 : 0 < ((rd_L5 t243 x8_2).length : Int):=of_decide_eq_true (by first|(with_reducible assumption)|assumption)
                      obtain ⟨ad259,e259,hx259_0,hx259_1⟩:=at_T41 (by repeat (first|(with_reducible exact HR258_0.out)|(with_reducible refine Kd.C_alloc ?_ _)|(with_reducible refine Kd.C_drewN ?_ _)|(with_reducible refine Kd.C_drew ?_)|exact HR258_0.out)) 0 p259 q259
                      cases e259
                      have qi259 : (0 < (rd_L5 t243 x8_2).length)=True:=eq_true (by omega)
                      (try rw [show ((0 : Int)).toNat=0 from rfl] at hx259_0)
                      (try rw [show 0 * 2=0 from rfl] at hx259_0)
                      (try rw [Addr.add_zero'] at hx259_0)
                      (try rw [show ((0 : Int)).toNat=0 from rfl] at hx259_1)
                      (try rw [show 0 * 2=0 from rfl] at hx259_1)
                      (try rw [Addr.add_zero'] at hx259_1)
                      replace p259:=eq_true p259
                      replace q259:=eq_true q259
                      have p260 : 0≤((ji39) : Int):=of_decide_eq_true (by first|(with_reducible assumption)|assumption)
                      have q260 : (ji39) < (t243.length : Int):=of_decide_eq_true (by first|(with_reducible assumption)|assumption)
                      obtain ⟨ad260,A260_0,c260_0,e260,hx260_0,hl260_0,hi260_0⟩:=at_L5 (Kd.N_reads' HO_7.out).2.2 (ji39) p260 q260
                      obtain rfl : ad256=ad260:=(by injection e260)
                      obtain ⟨ce260,hce260,hMe260,hcc260⟩:=Kd.N_get HO_7.out [] (ji39) p260 (by first|exact q260|exact of_decide_eq_true (by first|(with_reducible assumption)|assumption)|(have e_:=(Kd.N_reads' HO_7.out).1;omega))
                      obtain ⟨ua260_0,uc260_0,rfl,ul260_0,ge260_0⟩:=Kd.FK_slice_open hMe260
                      have hv260_0:=hcc260 0 _ rfl
                      rw [Nat.add_zero,show ((Kd.slice 41 k41)).sz=1 from rfl,Nat.mul_one] at hv260_0
                      replace hv260_0:=Option.some.inj (hv260_0.symm.trans hx260_0)
                      injection hv260_0 with hva_ hvn_ hvc_
                      rw [hva_] at ge260_0
                      rw [hvc_] at ul260_0
                      have HL260_0:=Aside0.mk (show Kd.V k41 41 _ w.heap.size _ _ (rd_L5 t243 (ji39)) from Kd.V_mk ul260_0 ge260_0)
                      clear hva_ hvn_ hvc_ ge260_0 ul260_0
                      clear hcc260 hce260
                      have HR260_0:=Aside0.mk hi260_0
                      have HC260_0:=Aside0.mk hl260_0
                      clear hi260_0 hl260_0
                      replace p260:=eq_true p260
                      replace q260:=eq_true q260
                      have ea_:=Option.some.inj (hx256_0.symm.trans hx260_0)
                      injection ea_ with ea_ en_ ec_
                      subst ea_
                      subst ec_
                      clear en_
                      have p261 : 0≤(0 : Int):=(by omega)
                      have q261 : 0 < ((rd_L5 t243 (ji39)).length : Int):=of_decide_eq_true (by first|(with_reducible assumption)|assumption)
                      obtain ⟨ad261,e261,hx261_0,hx261_1⟩:=at_T41 (by repeat (first|(with_reducible exact HR260_0.out)|(with_reducible refine Kd.C_alloc ?_ _)|(with_reducible refine Kd.C_drewN ?_ _)|(with_reducible refine Kd.C_drew ?_)|exact HR260_0.out)) 0 p261 q261
                      cases e261
                      have qi261 : (0 < (rd_L5 t243 (ji39)).length)=True:=eq_true (by omega)
                      (try rw [show ((0 : Int)).toNat=0 from rfl] at hx261_0)
                      (try rw [show 0 * 2=0 from rfl] at hx261_0)
                      (try rw [Addr.add_zero'] at hx261_0)
                      (try rw [show ((0 : Int)).toNat=0 from rfl] at hx261_1)
                      (try rw [show 0 * 2=0 from rfl] at hx261_1)
                      (try rw [Addr.add_zero'] at hx261_1)
                      replace p261:=eq_true p261
                      replace q261:=eq_true q261
                      have p262 : 0≤(x8_2 : Int):=of_decide_eq_true (by first|(with_reducible assumption)|assumption)
                      have q262 : x8_2 < (t243.length : Int):=of_decide_eq_true (by first|(with_reducible assumption)|assumption)
                      obtain ⟨ad262,A262_0,c262_0,e262,hx262_0,hl262_0,hi262_0⟩:=at_L5 (Kd.N_reads' HO_7.out).2.2 x8_2 p262 q262
                      obtain rfl : ad256=ad262:=(by injection e262)
                      obtain ⟨ce262,hce262,hMe262,hcc262⟩:=Kd.N_get HO_7.out [] x8_2 p262 (by first|exact q262|exact of_decide_eq_true (by first|(with_reducible assumption)|assumption)|(have e_:=(Kd.N_reads' HO_7.out).1;omega))
                      obtain ⟨ua262_0,uc262_0,rfl,ul262_0,ge262_0⟩:=Kd.FK_slice_open hMe262
                      have hv262_0:=hcc262 0 _ rfl
                      rw [Nat.add_zero,show ((Kd.slice 41 k41)).sz=1 from rfl,Nat.mul_one] at hv262_0
                      replace hv262_0:=Option.some.inj (hv262_0.symm.trans hx262_0)
                      injection hv262_0 with hva_ hvn_ hvc_
                      rw [hva_] at ge262_0
                      rw [hvc_] at ul262_0
                      have HL262_0:=Aside0.mk (show Kd.V k41 41 _ w.heap.size _ _ (rd_L5 t243 x8_2) from Kd.V_mk ul262_0 ge262_0)
                      clear hva_ hvn_ hvc_ ge262_0 ul262_0
                      clear hcc262 hce262
                      have HR262_0:=Aside0.mk hi262_0
                      have HC262_0:=Aside0.mk hl262_0
                      clear hi262_0 hl262_0
                      replace p262:=eq_true p262
                      replace q262:=eq_true q262
                      have ea_:=Option.some.inj (hx258_0.symm.trans hx262_0)
                      injection ea_ with ea_ en_ ec_
                      subst ea_
                      subst ec_
                      clear en_
                      have p263 : 0≤(0 : Int):=(by omega)
                      have q263 : 0 < ((rd_L5 t243 x8_2).length : Int):=of_decide_eq_true (by first|(with_reducible assumption)|assumption)
                      obtain ⟨ad263,e263,hx263_0,hx263_1⟩:=at_T41 (by repeat (first|(with_reducible exact HR262_0.out)|(with_reducible refine Kd.C_alloc ?_ _)|(with_reducible refine Kd.C_drewN ?_ _)|(with_reducible refine Kd.C_drew ?_)|exact HR262_0.out)) 0 p263 q263
                      cases e263
                      have qi263 : (0 < (rd_L5 t243 x8_2).length)=True:=eq_true (by omega)
                      (try rw [show ((0 : Int)).toNat=0 from rfl] at hx263_0)
                      (try rw [show 0 * 2=0 from rfl] at hx263_0)
                      (try rw [Addr.add_zero'] at hx263_0)
                      (try rw [show ((0 : Int)).toNat=0 from rfl] at hx263_1)
                      (try rw [show 0 * 2=0 from rfl] at hx263_1)
                      (try rw [Addr.add_zero'] at hx263_1)
                      replace p263:=eq_true p263
                      replace q263:=eq_true q263
                      have p264 : 0≤((ji39) : Int):=of_decide_eq_true (by first|(with_reducible assumption)|assumption)
                      have q264 : (ji39) < (t243.length : Int):=of_decide_eq_true (by first|(with_reducible assumption)|assumption)
                      obtain ⟨ad264,A264_0,c264_0,e264,hx264_0,hl264_0,hi264_0⟩:=at_L5 (Kd.N_reads' HO_7.out).2.2 (ji39) p264 q264
                      obtain rfl : ad256=ad264:=(by injection e264)
                      obtain ⟨ce264,hce264,hMe264,hcc264⟩:=Kd.N_get HO_7.out [] (ji39) p264 (by first|exact q264|exact of_decide_eq_true (by first|(with_reducible assumption)|assumption)|(have e_:=(Kd.N_reads' HO_7.out).1;omega))
                      obtain ⟨ua264_0,uc264_0,rfl,ul264_0,ge264_0⟩:=Kd.FK_slice_open hMe264
                      have hv264_0:=hcc264 0 _ rfl
                      rw [Nat.add_zero,show ((Kd.slice 41 k41)).sz=1 from rfl,Nat.mul_one] at hv264_0
                      replace hv264_0:=Option.some.inj (hv264_0.symm.trans hx264_0)
                      injection hv264_0 with hva_ hvn_ hvc_
                      rw [hva_] at ge264_0
                      rw [hvc_] at ul264_0
                      have HL264_0:=Aside0.mk (show Kd.V k41 41 _ w.heap.size _ _ (rd_L5 t243 (ji39)) from Kd.V_mk ul264_0 ge264_0)
                      clear hva_ hvn_ hvc_ ge264_0 ul264_0
                      clear hcc264 hce264
                      have HR264_0:=Aside0.mk hi264_0
                      have HC264_0:=Aside0.mk hl264_0
                      clear hi264_0 hl264_0
                      replace p264:=eq_true p264
                      replace q264:=eq_true q264
                      have ea_:=Option.some.inj (hx256_0.symm.trans hx264_0)
                      injection ea_ with ea_ en_ ec_
                      subst ea_
                      subst ec_
                      clear en_
                      have p265 : 0≤(1 : Int):=(by omega)
                      have q265 : 1 < ((rd_L5 t243 (ji39)).length : Int):=of_decide_eq_true (by first|(with_reducible assumption)|assumption)
                      obtain ⟨ad265,e265,hx265_0,hx265_1⟩:=at_T41 (by repeat (first|(with_reducible exact HR264_0.out)|(with_reducible refine Kd.C_alloc ?_ _)|(with_reducible refine Kd.C_drewN ?_ _)|(with_reducible refine Kd.C_drew ?_)|exact HR264_0.out)) 1 p265 q265
                      cases e265
                      (try simp only [show (1 : Int).toNat=1 from rfl,Nat.reduceMul,Nat.reduceEqDiff,Go.Addr.add,↓reduceIte] at hx265_0)
                      (try simp only [show (1 : Int).toNat=1 from rfl,Nat.reduceMul,Nat.reduceEqDiff,Go.Addr.add,↓reduceIte] at hx265_1)
                      have qi265 : (1 < (rd_L5 t243 (ji39)).length)=True:=eq_true (by omega)
                      (try rw [show ((1 : Int)).toNat=1 from rfl] at hx265_0)
                      (try rw [show 1 * 2=2 from rfl] at hx265_0)
                      (try rw [show ((1 : Int)).toNat=1 from rfl] at hx265_1)
                      (try rw [show 1 * 2=2 from rfl] at hx265_1)
                      replace p265:=eq_true p265
                      replace q265:=eq_true q265
                      have p266 : 0≤(x8_2 : Int):=of_decide_eq_true (by first|(with_reducible assumption)|assumption)
                      have q266 : x8_2 < (t243.length : Int):=of_decide_eq_true (by first|(with_reducible assumption)|assumption)
                      obtain ⟨ad266,A266_0,c266_0,e266,hx266_0,hl266_0,hi266_0⟩:=at_L5 (Kd.N_reads' HO_7.out).2.2 x8_2 p266 q266
                      obtain rfl : ad256=ad266:=(by injection e266)
                      obtain ⟨ce266,hce266,hMe266,hcc266⟩:=Kd.N_get HO_7.out [] x8_2 p266 (by first|exact q266|exact of_decide_eq_true (by first|(with_reducible assumption)|assumption)|(have e_:=(Kd.N_reads' HO_7.out).1;omega))
                      obtain ⟨ua266_0,uc266_0,rfl,ul266_0,ge266_0⟩:=Kd.FK_slice_open hMe266
                      have hv266_0:=hcc266 0 _ rfl
                      rw [Nat.add_zero,show ((Kd.slice 41 k41)).sz=1 from rfl,Nat.mul_one] at hv266_0
                      replace hv266_0:=Option.some.inj (hv266_0.symm.trans hx266_0)
                      injection hv266_0 with hva_ hvn_ hvc_
                      rw [hva_] at ge266_0
                      rw [hvc_] at ul266_0
                      have HL266_0:=Aside0.mk (show Kd.V k41 41 _ w.heap.size _ _ (rd_L5 t243 x8_2) from Kd.V_mk ul266_0 ge266_0)
                      clear hva_ hvn_ hvc_ ge266_0 ul266_0
                      clear hcc266 hce266
                      have HR266_0:=Aside0.mk hi266_0
                      have HC266_0:=Aside0.mk hl266_0
                      clear hi266_0 hl266_0
                      replace p266:=eq_true p266
                      replace q266:=eq_true q266
                      have ea_:=Option.some.inj (hx258_0.symm.trans hx266_0)
                      injection ea_ with ea_ en_ ec_
                      subst ea_
                      subst ec_
                      clear en_
                      have p267 : 0≤(1 : Int):=(by omega)
                      have q267 : 1 < ((rd_L5 t243 x8_2).length : Int):=of_decide_eq_true (by first|(with_reducible assumption)|assumption)
                      obtain ⟨ad267,e267,hx267_0,hx267_1⟩:=at_T41 (by repeat (first|(with_reducible exact HR266_0.out)|(with_reducible refine Kd.C_alloc ?_ _)|(with_reducible refine Kd.C_drewN ?_ _)|(with_reducible refine Kd.C_drew ?_)|exact HR266_0.out)) 1 p267 q267
                      cases e267
                      (try simp only [show (1 : Int).toNat=1 from rfl,Nat.reduceMul,Nat.reduceEqDiff,Go.Addr.add,↓reduceIte] at hx267_0)
                      (try simp only [show (1 : Int).toNat=1 from rfl,Nat.reduceMul,Nat.reduceEqDiff,Go.Addr.add,↓reduceIte] at hx267_1)
                      have qi267 : (1 < (rd_L5 t243 x8_2).length)=True:=eq_true (by omega)
                      (try rw [show ((1 : Int)).toNat=1 from rfl] at hx267_0)
                      (try rw [show 1 * 2=2 from rfl] at hx267_0)
                      (try rw [show ((1 : Int)).toNat=1 from rfl] at hx267_1)
                      (try rw [show 1 * 2=2 from rfl] at hx267_1)
                      replace p267:=eq_true p267
                      replace q267:=eq_true q267
                      go_wp2
                      repeat (go_quiet (fail);try go_wp2)
                      go_meet
                      case rel=>exact ⟨_,(decide (((rd_T41 (rd_L5 t243 (ji39)) 1).f0) ≥ ((rd_T41 (rd_L5 t243 x8_2) 1).f0))),(by first|rfl|(simp;done)|(simp only [← hji39] <;> (first|rfl|simp))|(simp [*];done)),(by first|exact H'|(subst_vars;exact H')),⟨by have:=HJ2.out;have:=HK2.out;have:=HJ26.out;first|omega|exact Nat.le_refl _⟩,⟨by (with_reducible repeat (first|apply Kd.N_alloc|apply Kd.N_drewN|apply Kd.N_drew));exact HO_5.out⟩,⟨by (with_reducible repeat (first|apply Kd.N_alloc|apply Kd.N_drewN|apply Kd.N_drew));exact HO_7.out⟩,⟨by (with_reducible repeat (first|apply Kd.R_alloc|apply Kd.R_drewN|apply Kd.R_drew));exact HO_233000.out⟩,⟨by (with_reducible repeat (first|refine blk_drewN ?_ _|refine blk_drew ?_|refine blk_alloc ?_ _));exact BK232.out⟩,⟨by repeat (first|(with_reducible first|exact HB.out|apply below_alloc|apply pw_below_drewN|apply below_drew1|refine below_set ?_ GE232.out)|exact HB.out)⟩⟩
                     ·rw [if_neg c49] at H
                      exact absurd H (by simp)
                    ·rw [if_neg c48] at H
                     exact absurd H (by simp)
                   ·rw [if_neg c47] at H
                    have c47b0 : (((rd_T41 (rd_L5 t243 (ji39)) 0).f0) == ((rd_T41 (rd_L5 t243 x8_2) 0).f0))=false:=beq_eq_false_iff_ne.mpr c47
                    have c47b1 : (((rd_T41 (rd_L5 t243 (ji39)) 0).f0) != ((rd_T41 (rd_L5 t243 x8_2) 0).f0))=true:=bne_iff_ne.mpr c47
                    have H':=Aside0.mk H
                    clear H
                    have p256 : 0≤((ji39) : Int):=of_decide_eq_true (by first|(with_reducible assumption)|assumption)
                    have q256 : (ji39) < (t243.length : Int):=of_decide_eq_true (by first|(with_reducible assumption)|assumption)
                    obtain ⟨ad256,A256_0,c256_0,e256,hx256_0,hl256_0,hi256_0⟩:=at_L5 (Kd.N_reads' HO_7.out).2.2 (ji39) p256 q256
                    cases e256
                    obtain ⟨ce256,hce256,hMe256,hcc256⟩:=Kd.N_get HO_7.out [] (ji39) p256 (by first|exact q256|exact of_decide_eq_true (by first|(with_reducible assumption)|assumption)|(have e_:=(Kd.N_reads' HO_7.out).1;omega))
                    obtain ⟨ua256_0,uc256_0,rfl,ul256_0,ge256_0⟩:=Kd.FK_slice_open hMe256
                    have hv256_0:=hcc256 0 _ rfl
                    rw [Nat.add_zero,show ((Kd.slice 41 k41)).sz=1 from rfl,Nat.mul_one] at hv256_0
                    replace hv256_0:=Option.some.inj (hv256_0.symm.trans hx256_0)
                    injection hv256_0 with hva_ hvn_ hvc_
                    rw [hva_] at ge256_0
                    rw [hvc_] at ul256_0
                    have HL256_0:=Aside0.mk (show Kd.V k41 41 _ w.heap.size _ _ (rd_L5 t243 (ji39)) from Kd.V_mk ul256_0 ge256_0)
                    clear hva_ hvn_ hvc_ ge256_0 ul256_0
                    clear hcc256 hce256
                    have HR256_0:=Aside0.mk hi256_0
                    have HC256_0:=Aside0.mk hl256_0
                    clear hi256_0 hl256_0
                    replace p256:=eq_true p256
                    replace q256:=eq_true q256
                    have p257 : 0≤(0 : Int):=(by omega)
                    have q257 : 0 < ((rd_L5 t243 (ji39)).length : Int):=of_decide_eq_true (by first|(with_reducible assumption)|assumption)
                    obtain ⟨ad257,e257,hx257_0,hx257_1⟩:=at_T41 (by repeat (first|(with_reducible exact HR256_0.out)|(with_reducible refine Kd.C_alloc ?_ _)|(with_reducible refine Kd.C_drewN ?_ _)|(with_reducible refine Kd.C_drew ?_)|exact HR256_0.out)) 0 p257 q257
                    cases e257
                    have qi257 : (0 < (rd_L5 t243 (ji39)).length)=True:=eq_true (by omega)
                    (try rw [show ((0 : Int)).toNat=0 from rfl] at hx257_0)
                    (try rw [show 0 * 2=0 from rfl] at hx257_0)
                    (try rw [Addr.add_zero'] at hx257_0)
                    (try rw [show ((0 : Int)).toNat=0 from rfl] at hx257_1)
                    (try rw [show 0 * 2=0 from rfl] at hx257_1)
                    (try rw [Addr.add_zero'] at hx257_1)
                    replace p257:=eq_true p257
                    replace q257:=eq_true q257
                    have p258 : 0≤(x8_2 : Int):=of_decide_eq_true (by first|(with_reducible assumption)|assumption)
                    have q258 : x8_2 < (t243.length : Int):=of_decide_eq_true (by first|(with_reducible assumption)|assumption)
                    obtain ⟨ad258,A258_0,c258_0,e258,hx258_0,hl258_0,hi258_0⟩:=at_L5 (Kd.N_reads' HO_7.out).2.2 x8_2 p258 q258
                    obtain rfl : ad256=ad258:=(by injection e258)
                    obtain ⟨ce258,hce258,hMe258,hcc258⟩:=Kd.N_get HO_7.out [] x8_2 p258 (by first|exact q258|exact of_decide_eq_true (by first|(with_reducible assumption)|assumption)|(have e_:=(Kd.N_reads' HO_7.out).1;omega))
                    obtain ⟨ua258_0,uc258_0,rfl,ul258_0,ge258_0⟩:=Kd.FK_slice_open hMe258
                    have hv258_0:=hcc258 0 _ rfl
                    rw [Nat.add_zero,show ((Kd.slice 41 k41)).sz=1 from rfl,Nat.mul_one] at hv258_0
                    replace hv258_0:=Option.some.inj (hv258_0.symm.trans hx258_0)
                    injection hv258_0 with hva_ hvn_ hvc_
                    rw [hva_] at ge258_0
                    rw [hvc_] at ul258_0
                    have HL258_0:=Aside0.mk (show Kd.V k41 41 _ w.heap.size _ _ (rd_L5 t243 x8_2) from Kd.V_mk ul258_0 ge258_0)
                    clear hva_ hvn_ hvc_ ge258_0 ul258_0
                    clear hcc258 hce258
                    have HR258_0:=Aside0.mk hi258_0
                    have HC258_0:=Aside0.mk hl258_0
                    clear hi258_0 hl258_0
                    replace p258:=eq_true p258
                    replace q258:=eq_true q258
                    have p259 : 0≤(0 : Int):=(by omega)
                    have q259 : 0 < ((rd_L5 t243 x8_2).length : Int):=of_decide_eq_true (by first|(with_reducible assumption)|assumption)
                    obtain ⟨ad259,e259,hx259_0,hx259_1⟩:=at_T41 (by repeat (first|(with_reducible exact HR258_0.out)|(with_reducible refine Kd.C_alloc ?_ _)|(with_reducible refine Kd.C_drewN ?_ _)|(with_reducible refine Kd.C_drew ?_)|exact HR258_0.out)) 0 p259 q259
                    cases e259
                    have qi259 : (0 < (rd_L5 t243 x8_2).length)=True:=eq_true (by omega)
                    (try rw [show ((0 : Int)).toNat=0 from rfl] at hx259_0)
                    (try rw [show 0 * 2=0 from rfl] at hx259_0)
                    (try rw [Addr.add_zero'] at hx259_0)
                    (try rw [show ((0 : Int)).toNat=0 from rfl] at hx259_1)
                    (try rw [show 0 * 2=0 from rfl] at hx259_1)
                    (try rw [Addr.add_zero'] at hx259_1)
                    replace p259:=eq_true p259
                    replace q259:=eq_true q259
                    have p260 : 0≤((ji39) : Int):=of_decide_eq_true (by first|(with_reducible assumption)|assumption)
                    have q260 : (ji39) < (t243.length : Int):=of_decide_eq_true (by first|(with_reducible assumption)|assumption)
                    obtain ⟨ad260,A260_0,c260_0,e260,hx260_0,hl260_0,hi260_0⟩:=at_L5 (Kd.N_reads' HO_7.out).2.2 (ji39) p260 q260
                    obtain rfl : ad256=ad260:=(by injection e260)
                    obtain ⟨ce260,hce260,hMe260,hcc260⟩:=Kd.N_get HO_7.out [] (ji39) p260 (by first|exact q260|exact of_decide_eq_true (by first|(with_reducible assumption)|assumption)|(have e_:=(Kd.N_reads' HO_7.out).1;omega))
                    obtain ⟨ua260_0,uc260_0,rfl,ul260_0,ge260_0⟩:=Kd.FK_slice_open hMe260
                    have hv260_0:=hcc260 0 _ rfl
                    rw [Nat.add_zero,show ((Kd.slice 41 k41)).sz=1 from rfl,Nat.mul_one] at hv260_0
                    replace hv260_0:=Option.some.inj (hv260_0.symm.trans hx260_0)
                    injection hv260_0 with hva_ hvn_ hvc_
                    rw [hva_] at ge260_0
                    rw [hvc_] at ul260_0
                    have HL260_0:=Aside0.mk (show Kd.V k41 41 _ w.heap.size _ _ (rd_L5 t243 (ji39)) from Kd.V_mk ul260_0 ge260_0)
                    clear hva_ hvn_ hvc_ ge260_0 ul260_0
                    clear hcc260 hce260
                    have HR260_0:=Aside0.mk hi260_0
                    have HC260_0:=Aside0.mk hl260_0
                    clear hi260_0 hl260_0
                    replace p260:=eq_true p260
                    replace q260:=eq_true q260
                    have ea_:=Option.some.inj (hx256_0.symm.trans hx260_0)
                    injection ea_ with ea_ en_ ec_
                    subst ea_
                    subst ec_
                    clear en_
                    have p261 : 0≤(0 : Int):=(by omega)
                    have q261 : 0 < ((rd_L5 t243 (ji39)).length : Int):=of_decide_eq_true (by first|(with_reducible assumption)|assumption)
                    obtain ⟨ad261,e261,hx261_0,hx261_1⟩:=at_T41 (by repeat (first|(with_reducible exact HR260_0.out)|(with_reducible refine Kd.C_alloc ?_ _)|(with_reducible refine Kd.C_drewN ?_ _)|(with_reducible refine Kd.C_drew ?_)|exact HR260_0.out)) 0 p261 q261
                    cases e261
                    have qi261 : (0 < (rd_L5 t243 (ji39)).length)=True:=eq_true (by omega)
                    (try rw [show ((0 : Int)).toNat=0 from rfl] at hx261_0)
                    (try rw [show 0 * 2=0 from rfl] at hx261_0)
                    (try rw [Addr.add_zero'] at hx261_0)
                    (try rw [show ((0 : Int)).toNat=0 from rfl] at hx261_1)
                    (try rw [show 0 * 2=0 from rfl] at hx261_1)
                    (try rw [Addr.add_zero'] at hx261_1)
                    replace p261:=eq_true p261
                    replace q261:=eq_true q261
                    have p262 : 0≤(x8_2 : Int):=of_decide_eq_true (by first|(with_reducible assumption)|assumption)
                    have q262 : x8_2 < (t243.length : Int):=of_decide_eq_true (by first|(with_reducible assumption)|assumption)
                    obtain ⟨ad262,A262_0,c262_0,e262,hx262_0,hl262_0,hi262_0⟩:=at_L5 (Kd.N_reads' HO_7.out).2.2 x8_2 p262 q262
                    obtain rfl : ad256=ad262:=(by injection e262)
                    obtain ⟨ce262,hce262,hMe262,hcc262⟩:=Kd.N_get HO_7.out [] x8_2 p262 (by first|exact q262|exact of_decide_eq_true (by first|(with_reducible assumption)|assumption)|(have e_:=(Kd.N_reads' HO_7.out).1;omega))
                    obtain ⟨ua262_0,uc262_0,rfl,ul262_0,ge262_0⟩:=Kd.FK_slice_open hMe262
                    have hv262_0:=hcc262 0 _ rfl
                    rw [Nat.add_zero,show ((Kd.slice 41 k41)).sz=1 from rfl,Nat.mul_one] at hv262_0
                    replace hv262_0:=Option.some.inj (hv262_0.symm.trans hx262_0)
                    injection hv262_0 with hva_ hvn_ hvc_
                    rw [hva_] at ge262_0
                    rw [hvc_] at ul262_0
                    have HL262_0:=Aside0.mk (show Kd.V k41 41 _ w.heap.size _ _ (rd_L5 t243 x8_2) from Kd.V_mk ul262_0 ge262_0)
                    clear hva_ hvn_ hvc_ ge262_0 ul262_0
                    clear hcc262 hce262
                    have HR262_0:=Aside0.mk hi262_0
                    have HC262_0:=Aside0.mk hl262_0
                    clear hi262_0 hl262_0
                    replace p262:=eq_true p262
                    replace q262:=eq_true q262
                    have ea_:=Option.some.inj (hx258_0.symm.trans hx262_0)
                    injection ea_ with ea_ en_ ec_
                    subst ea_
                    subst ec_
                    clear en_
                    have p263 : 0≤(0 : Int):=(by omega)
                    have q263 : 0 < ((rd_L5 t243 x8_2).length : Int):=of_decide_eq_true (by first|(with_reducible assumption)|assumption)
                    obtain ⟨ad263,e263,hx263_0,hx263_1⟩:=at_T41 (by repeat (first|(with_reducible exact HR262_0.out)|(with_reducible refine Kd.C_alloc ?_ _)|(with_reducible refine Kd.C_drewN ?_ _)|(with_reducible refine Kd.C_drew ?_)|exact HR262_0.out)) 0 p263 q263
                    cases e263
                    have qi263 : (0 < (rd_L5 t243 x8_2).length)=True:=eq_true (by omega)
                    (try rw [show ((0 : Int)).toNat=0 from rfl] at hx263_0)
                    (try rw [show 0 * 2=0 from rfl] at hx263_0)
                    (try rw [Addr.add_zero'] at hx263_0)
                    (try rw [show ((0 : Int)).toNat=0 from rfl] at hx263_1)
                    (try rw [show 0 * 2=0 from rfl] at hx263_1)
                    (try rw [Addr.add_zero'] at hx263_1)
                    replace p263:=eq_true p263
                    replace q263:=eq_true q263
                    go_wp2
                    repeat (go_quiet (fail);try go_wp2)
                    go_meet
                    case rel=>exact ⟨_,(false),(by first|rfl|(simp;done)|(simp [*];done)),(by first|exact H'|(subst_vars;exact H')),⟨by have:=HJ2.out;have:=HK2.out;have:=HJ26.out;first|omega|exact Nat.le_refl _⟩,⟨by (with_reducible repeat (first|apply Kd.N_alloc|apply Kd.N_drewN|apply Kd.N_drew));exact HO_5.out⟩,⟨by (with_reducible repeat (first|apply Kd.N_alloc|apply Kd.N_drewN|apply Kd.N_drew));exact HO_7.out⟩,⟨by (with_reducible repeat (first|apply Kd.R_alloc|apply Kd.R_drewN|apply Kd.R_drew));exact HO_233000.out⟩,⟨by (with_reducible repeat (first|refine blk_drewN ?_ _|refine blk_drew ?_|refine blk_alloc ?_ _));exact BK232.out⟩,⟨by repeat (first|(with_reducible first|exact HB.out|apply below_alloc|apply pw_below_drewN|apply below_drew1|refine below_set ?_ GE232.out)|exact HB.out)⟩⟩
                 ·rw [if_neg c45] at H
                  exact absurd H (by simp)
                ·rw [if_neg c44] at H
                 exact absurd H (by simp)
               ·rw [if_neg c43] at H
                exact absurd H (by simp)
              ·rw [if_neg c42] at H
               exact absurd H (by simp)
             ·rw [if_neg c41] at H
              exact absurd H (by simp)
            ·rw [if_neg c40] at H
             exact absurd H (by simp)
           ·rw [if_neg c38] at H
            have c38b0 : decide (0 < x8_2)=false:=decide_eq_false c38
            clear c38
            (first|rw [c38b0]|(simp only [i64_w,i32_w];rw [c38b0])|skip)
            have H':=Aside0.mk H
            clear H
            go_wp2
            repeat (go_quiet (fail);try go_wp2)
            go_meet
            case rel=>exact ⟨_,(false),(by first|rfl|(simp;done)|(simp [*];done)),(by first|exact H'|(subst_vars;exact H')),⟨by have:=HJ2.out;have:=HK2.out;have:=HJ26.out;first|omega|exact Nat.le_refl _⟩,⟨by (with_reducible repeat (first|apply Kd.N_alloc|apply Kd.N_drewN|apply Kd.N_drew));exact HO_5.out⟩,⟨by (with_reducible repeat (first|apply Kd.N_alloc|apply Kd.N_drewN|apply Kd.N_drew));exact HO_7.out⟩,⟨by (with_reducible repeat (first|apply Kd.R_alloc|apply Kd.R_drewN|apply Kd.R_drew));exact HO_233000.out⟩,⟨by (with_reducible repeat (first|refine blk_drewN ?_ _|refine blk_drew ?_|refine blk_alloc ?_ _));exact BK232.out⟩,⟨by repeat (first|(with_reducible first|exact HB.out|apply below_alloc|apply pw_below_drewN|apply below_drew1|refine below_set ?_ GE232.out)|exact HB.out)⟩⟩
          case rest =>
           clear HC37
           try clear c2
           try clear p2
           try clear q2
           try clear hx2
           try clear qi2
           try clear c3
           try clear c4
           try clear p6
           try clear p23
           try clear q23
           try clear p24
           try clear q24
           try clear hx24
           try clear c25
           try clear p25
           try clear q25
           try clear hx25
           try clear qi25
           try clear c26
           try clear p26
           try clear q26
           try clear hx26
           try clear qi26
           try clear c36
           try clear c38
           try clear c38b0
           try clear c40
           try clear c40b0
           try clear c41
           try clear c41b0
           try clear c42
           try clear c42b0
           try clear c42b1
           try clear c43
           try clear c43b0
           try clear c44
           try clear c44b0
           try clear c45
           try clear c45b0
           try clear c45b1
           try clear c46
           try clear c46b0
           try clear c47
           try clear c47b0
           try clear c47b1
           try clear c48
           try clear c48b0
           try clear c48b1
           try clear c49
           try clear c49b0
           try clear c49b1
           try clear hx249_0
           try clear hx250_0
           try clear hx250_1
           try clear hx251_0
           try clear hx252_0
           try clear hx252_1
           try clear hx253_0
           try clear hx254_0
           try clear hx255_0
           try clear hx255_1
           try clear hx256_0
           try clear hx257_0
           try clear hx257_1
           try clear hx258_0
           try clear hx259_0
           try clear hx259_1
           try clear hx260_0
           try clear hx261_0
           try clear hx261_1
           try clear hx262_0
           try clear hx263_0
           try clear hx263_1
           try clear hx264_0
           try clear hx265_0
           try clear hx265_1
           try clear hx266_0
           try clear hx267_0
           try clear hx267_1
           try clear p2
           try clear p23
           try clear p236
           try clear p246
           try clear p247
           try clear p248
           try clear p249
           try clear p250
           try clear p251
           try clear p252
           try clear p253
           try clear p254
           try clear p255
           try clear p256
           try clear p257
           try clear p258
           try clear p259
           try clear p260
           try clear p261
           try clear p262
           try clear p263
           try clear p264
           try clear p265
           try clear p266
           try clear p267
           try clear p6
           try clear q2
           try clear q23
           try clear q236
           try clear q246
           try clear q247
           try clear q248
           try clear q249
           try clear q250
           try clear q251
           try clear q252
           try clear q253
           try clear q254
           try clear q255
           try clear q256
           try clear q257
           try clear q258
           try clear q259
           try clear q260
           try clear q261
           try clear q262
           try clear q263
           try clear q264
           try clear q265
           try clear q266
           try clear q267
           obtain ⟨kq,x151_36,rfl,HA,HJ36,HO_5,HO_7,HO_233000,BK232,HB⟩:=hcut
           cases kq with
           | zero=>exact absurd HA.out (by simp [thresherlaw09_OrderStable.j4])
           | succ kj36 =>
            have H:=HA.out
            clear HA
            simp only [thresherlaw09_OrderStable.j4] at H
            by_cases c50 : x151_36=true
            ·subst c50
             have H1 : (some false)=some r:=by rw [if_pos rfl] at H;exact H
             clear H
             have H:=H1
             clear H1
             obtain rfl:=Option.some.inj H
             go_wp2
             repeat (go_quiet (fail);try go_wp2)
             go_ret
             exact ⟨by first|rfl|(simp [errW_none,errW_some] <;> rfl)|(simp [*,errW_none,errW_some] <;> rfl),by repeat (first|(with_reducible first|exact HB.out|apply below_alloc|apply pw_below_drewN|apply below_drew1|refine below_set ?_ GE232.out)|exact HB.out)⟩
            ·replace c50:=Bool.eq_false_iff.mpr c50
             subst c50
             have H1 : (thresherlaw09_OrderStable.l1 kj36 l0 t228 x5_2 t243 (wrap64 (x8_2 + 1)))=some r:=by rw [if_neg (show ¬ (false=true) by decide)] at H;exact H
             clear H
             have H:=H1
             clear H1
             have H':=Aside0.mk H
             clear H
             go_wp2
             repeat (go_quiet (fail);try go_wp2)
             go_roundg kj36
             case measure=>have:=HJ2.out;have:=HK2.out;have:=HJ26.out;have:=HJ36.out;omega
             case rel=>exact ⟨(wrap64 (x8_2 + 1)),(by first|rfl|(simp;done)|(simp [*];done)),(by first|exact H'|(subst_vars;exact H')),⟨by have:=HJ2.out;have:=HK2.out;have:=HJ26.out;have:=HJ36.out;omega⟩,⟨by (with_reducible repeat (first|apply Kd.N_alloc|apply Kd.N_drewN|apply Kd.N_drew));exact HO_5.out⟩,⟨by (with_reducible repeat (first|apply Kd.N_alloc|apply Kd.N_drewN|apply Kd.N_drew));exact HO_7.out⟩,⟨by (with_reducible repeat (first|apply Kd.R_alloc|apply Kd.R_drewN|apply Kd.R_drew));exact HO_233000.out⟩,⟨by (with_reducible repeat (first|refine blk_drewN ?_ _|refine blk_drew ?_|refine blk_alloc ?_ _));exact BK232.out⟩,⟨by repeat (first|(with_reducible first|exact HB.out|apply below_alloc|apply pw_below_drewN|apply below_drew1|refine below_set ?_ GE232.out)|exact HB.out)⟩⟩
      ·rw [if_neg c26] at H
       have c26b0 : decide (x8_2 < (t243.length : Int))=false:=decide_eq_false c26
       clear c26
       obtain rfl:=Option.some.inj H
       go_wp2
       repeat (go_quiet (fail);try go_wp2)
       go_ret
       exact ⟨by first|rfl|(simp [errW_none,errW_some] <;> rfl)|(simp [*,errW_none,errW_some] <;> rfl),by repeat (first|(with_reducible first|exact HB.out|apply below_alloc|apply pw_below_drewN|apply below_drew1|refine below_set ?_ GE232.out)|exact HB.out)⟩
   ·rw [if_neg c21] at H
    have c21b0 : ((t243.length : Int) == (x5_2.length : Int))=false:=beq_eq_false_iff_ne.mpr c21
    have c21b1 : ((t243.length : Int) != (x5_2.length : Int))=true:=bne_iff_ne.mpr c21
    have c21b2 : (t243.length == x5_2.length)=false:=by first|simpa using c21|(simp at c21 ⊢;omega)
    obtain rfl:=Option.some.inj H
    have hcz51_0 : wc.cell? ⟨gb232,0,none⟩=some (.slice Ao7 y229.length co7):=(blk_cell BK232.out 0).trans rfl
    have hcz51_1 : wc.cell? ⟨gb232,1,none⟩=some (.int .i64 1):=(blk_cell BK232.out 1).trans rfl
    have hcz51_2 : wc.cell? ⟨gb232,2,none⟩=some (.int .i64 1):=(blk_cell BK232.out 2).trans rfl
    have hcz51_3 : wc.cell? ⟨gb232,3,none⟩=some (.int .i64 4):=(blk_cell BK232.out 3).trans rfl
    have hfz51_0:=blk_frozen BK232.out 0
    have hfz51_1:=blk_frozen BK232.out 1
    have hfz51_2:=blk_frozen BK232.out 2
    have hfz51_3:=blk_frozen BK232.out 3
    obtain ⟨Ao52,co52,eo52⟩:=Kd.N_slice HO_5.out
    subst eo52
    go_wp2_with (first|(go_at_call 10;(with_reducible refine (order_Sort.calls kj2 _ _ y229 1 1 4 (fun k_=>(some k_≠(.slice Ao7 y229.length co7 : Value).ownBlock∧k_≠gb232)) _ _ x5_2 t243 _ ?side1 ?side2 ?side3 A20.out).mono ?_);(case side1=>repeat (first|exact (Kd.R_reads' HO_233000.out).2.2|(with_reducible refine Kd.C_alloc ?_ _)|(with_reducible refine Kd.C_drewN ?_ _)|(with_reducible refine Kd.C_drew ?_)));(case side2=>exact (Kd.R_reads' HO_233000.out).2.1);(case side3=>exact Kd.N_V (HO_5.out));rintro e w53 ⟨v244,rfl,ho0,hb⟩;have n0_:=Aside0.mk (Kd.N_elder' (by (with_reducible repeat (first|apply Kd.N_alloc|apply Kd.N_drewN|apply Kd.N_drew));exact HO_5.out) (by first|exact Kd.N_base ho0|exact Kd.S_base ho0) hb);have n1_:=Aside0.mk (Kd.R_below (by (with_reducible repeat (first|apply Kd.R_alloc|apply Kd.R_drewN|apply Kd.R_drew));exact HO_233000.out) hb);have n2_:=Aside0.mk (Kd.N_lower (Kd.N_mono (ok':=fun k_=>some k_≠(.slice Ao7 y229.length co7 : Value).ownBlock∧k_≠gb232) ho0 (fun k_ hk_=>⟨Or.elim hk_ (fun hs_=>hs_.1) (fun hn_=>(Kd.fresh' (Kd.R_lt (by (with_reducible repeat (first|apply Kd.R_alloc|apply Kd.R_drewN|apply Kd.R_drew));exact HO_233000.out)) k_ hn_)),Or.elim hk_ (fun hs_=>hs_.2) (fun hn_=>(Kd.freshB (g:=gb232) (o:=.cells #[.slice Ao7 y229.length co7,.int .i64 1,.int .i64 1,.int .i64 4] 31 (0,0)) (by (with_reducible repeat (first|refine blk_drewN ?_ _|refine blk_drew ?_|refine blk_alloc ?_ _));exact BK232.out) k_ hn_))⟩)) (below_size (by repeat (first|(with_reducible first|exact HB.out|apply below_alloc|apply pw_below_drewN|apply below_drew1|refine below_set ?_ GE232.out)|exact HB.out))));have n3_:=Aside0.mk (blk_below (g:=gb232) (o:=.cells #[.slice Ao7 y229.length co7,.int .i64 1,.int .i64 1,.int .i64 4] 31 (0,0)) (by (with_reducible repeat (first|refine blk_drewN ?_ _|refine blk_drew ?_|refine blk_alloc ?_ _));exact BK232.out) hb);have n4_:=Aside0.mk (below_step (by repeat (first|(with_reducible first|exact HB.out|apply below_alloc|apply pw_below_drewN|apply below_drew1|refine below_set ?_ GE232.out)|exact HB.out)) hb);clear HO_5;clear HO_233000;clear BK232;clear HB;have HO_5:=n0_;have HO_233000:=n1_;have HO245:=n2_;have BK232:=n3_;have HB:=n4_;clear n0_ n1_ n2_ n3_ n4_;(try clear hb);(try clear hb2);(try clear hk);(try clear hi);(try clear ho0);obtain ⟨Ao54,co54,eo54⟩:=Kd.N_slice HO245.out;subst eo54))
    repeat (go_quiet (first|(go_at_call 10;(with_reducible refine (order_Sort.calls kj2 _ _ y229 1 1 4 (fun k_=>(some k_≠(.slice Ao7 y229.length co7 : Value).ownBlock∧k_≠gb232)) _ _ x5_2 t243 _ ?side1 ?side2 ?side3 A20.out).mono ?_);(case side1=>repeat (first|exact (Kd.R_reads' HO_233000.out).2.2|(with_reducible refine Kd.C_alloc ?_ _)|(with_reducible refine Kd.C_drewN ?_ _)|(with_reducible refine Kd.C_drew ?_)));(case side2=>exact (Kd.R_reads' HO_233000.out).2.1);(case side3=>exact Kd.N_V (HO_5.out));rintro e w53 ⟨v244,rfl,ho0,hb⟩;have n0_:=Aside0.mk (Kd.N_elder' (by (with_reducible repeat (first|apply Kd.N_alloc|apply Kd.N_drewN|apply Kd.N_drew));exact HO_5.out) (by first|exact Kd.N_base ho0|exact Kd.S_base ho0) hb);have n1_:=Aside0.mk (Kd.R_below (by (with_reducible repeat (first|apply Kd.R_alloc|apply Kd.R_drewN|apply Kd.R_drew));exact HO_233000.out) hb);have n2_:=Aside0.mk (Kd.N_lower (Kd.N_mono (ok':=fun k_=>some k_≠(.slice Ao7 y229.length co7 : Value).ownBlock∧k_≠gb232) ho0 (fun k_ hk_=>⟨Or.elim hk_ (fun hs_=>hs_.1) (fun hn_=>(Kd.fresh' (Kd.R_lt (by (with_reducible repeat (first|apply Kd.R_alloc|apply Kd.R_drewN|apply Kd.R_drew));exact HO_233000.out)) k_ hn_)),Or.elim hk_ (fun hs_=>hs_.2) (fun hn_=>(Kd.freshB (g:=gb232) (o:=.cells #[.slice Ao7 y229.length co7,.int .i64 1,.int .i64 1,.int .i64 4] 31 (0,0)) (by (with_reducible repeat (first|refine blk_drewN ?_ _|refine blk_drew ?_|refine blk_alloc ?_ _));exact BK232.out) k_ hn_))⟩)) (below_size (by repeat (first|(with_reducible first|exact HB.out|apply below_alloc|apply pw_below_drewN|apply below_drew1|refine below_set ?_ GE232.out)|exact HB.out))));have n3_:=Aside0.mk (blk_below (g:=gb232) (o:=.cells #[.slice Ao7 y229.length co7,.int .i64 1,.int .i64 1,.int .i64 4] 31 (0,0)) (by (with_reducible repeat (first|refine blk_drewN ?_ _|refine blk_drew ?_|refine blk_alloc ?_ _));exact BK232.out) hb);have n4_:=Aside0.mk (below_step (by repeat (first|(with_reducible first|exact HB.out|apply below_alloc|apply pw_below_drewN|apply below_drew1|refine below_set ?_ GE232.out)|exact HB.out)) hb);clear HO_5;clear HO_233000;clear BK232;clear HB;have HO_5:=n0_;have HO_233000:=n1_;have HO245:=n2_;have BK232:=n3_;have HB:=n4_;clear n0_ n1_ n2_ n3_ n4_;(try clear hb);(try clear hb2);(try clear hk);(try clear hi);(try clear ho0);obtain ⟨Ao54,co54,eo54⟩:=Kd.N_slice HO245.out;subst eo54));try go_wp2_with (first|(go_at_call 10;(with_reducible refine (order_Sort.calls kj2 _ _ y229 1 1 4 (fun k_=>(some k_≠(.slice Ao7 y229.length co7 : Value).ownBlock∧k_≠gb232)) _ _ x5_2 t243 _ ?side1 ?side2 ?side3 A20.out).mono ?_);(case side1=>repeat (first|exact (Kd.R_reads' HO_233000.out).2.2|(with_reducible refine Kd.C_alloc ?_ _)|(with_reducible refine Kd.C_drewN ?_ _)|(with_reducible refine Kd.C_drew ?_)));(case side2=>exact (Kd.R_reads' HO_233000.out).2.1);(case side3=>exact Kd.N_V (HO_5.out));rintro e w53 ⟨v244,rfl,ho0,hb⟩;have n0_:=Aside0.mk (Kd.N_elder' (by (with_reducible repeat (first|apply Kd.N_alloc|apply Kd.N_drewN|apply Kd.N_drew));exact HO_5.out) (by first|exact Kd.N_base ho0|exact Kd.S_base ho0) hb);have n1_:=Aside0.mk (Kd.R_below (by (with_reducible repeat (first|apply Kd.R_alloc|apply Kd.R_drewN|apply Kd.R_drew));exact HO_233000.out) hb);have n2_:=Aside0.mk (Kd.N_lower (Kd.N_mono (ok':=fun k_=>some k_≠(.slice Ao7 y229.length co7 : Value).ownBlock∧k_≠gb232) ho0 (fun k_ hk_=>⟨Or.elim hk_ (fun hs_=>hs_.1) (fun hn_=>(Kd.fresh' (Kd.R_lt (by (with_reducible repeat (first|apply Kd.R_alloc|apply Kd.R_drewN|apply Kd.R_drew));exact HO_233000.out)) k_ hn_)),Or.elim hk_ (fun hs_=>hs_.2) (fun hn_=>(Kd.freshB (g:=gb232) (o:=.cells #[.slice Ao7 y229.length co7,.int .i64 1,.int .i64 1,.int .i64 4] 31 (0,0)) (by (with_reducible repeat (first|refine blk_drewN ?_ _|refine blk_drew ?_|refine blk_alloc ?_ _));exact BK232.out) k_ hn_))⟩)) (below_size (by repeat (first|(with_reducible first|exact HB.out|apply below_alloc|apply pw_below_drewN|apply below_drew1|refine below_set ?_ GE232.out)|exact HB.out))));have n3_:=Aside0.mk (blk_below (g:=gb232) (o:=.cells #[.slice Ao7 y229.length co7,.int .i64 1,.int .i64 1,.int .i64 4] 31 (0,0)) (by (with_reducible repeat (first|refine blk_drewN ?_ _|refine blk_drew ?_|refine blk_alloc ?_ _));exact BK232.out) hb);have n4_:=Aside0.mk (below_step (by repeat (first|(with_reducible first|exact HB.out|apply below_alloc|apply pw_below_drewN|apply below_drew1|refine below_set ?_ GE232.out)|exact HB.out)) hb);clear HO_5;clear HO_233000;clear BK232;clear HB;have HO_5:=n0_;have HO_233000:=n1_;have HO245:=n2_;have BK232:=n3_;have HB:=n4_;clear n0_ n1_ n2_ n3_ n4_;(try clear hb);(try clear hb2);(try clear hk);(try clear hi);(try clear ho0);obtain ⟨Ao54,co54,eo54⟩:=Kd.N_slice HO245.out;subst eo54)))
    go_ret
    exact ⟨by first|rfl|(simp [errW_none,errW_some] <;> rfl)|(simp [*,errW_none,errW_some] <;> rfl),by repeat (first|(with_reducible first|exact HB.out|apply below_alloc|apply pw_below_drewN|apply below_drew1|refine below_set ?_ GE232.out)|exact HB.out)⟩
def thresherlaw09_OrderStable.Pure : Prop:=∀ (l0 : List Int),l0.length≤maxLen→l0.length * 8≤140737488351232→(∀ x ∈ l0,(Lit.int .i64 x).wf=true)→∃ k,thresherlaw09_OrderStable.f k l0=some true
theorem thresherlaw09_OrderStable.walk (P : thresherlaw09_OrderStable.Pure) (a0 : Option Addr) (len0 cap0 : Nat) (z0 : List Int) (w : World) (w0 : (a0=none∧len0=0∧cap0=0∧z0=[]) ∨ ∃ x,a0=some x∧len0≤cap0∧cap0≤maxLen∧z0.length=cap0∧(∀ i,i < z0.length→w.cell? (x.add i)=some (.int .i64 (z0.getD i 0)))∧∀ n ∈ z0,(Lit.int .i64 n).wf=true) (y0 : len0 * 8≤140737488351232) :
  Calls Try.prog 4 #[.slice a0 len0 cap0] w fun e w'=>e=.returned (.bool true)∧Below w.heap.size w w':=by
 obtain ⟨l0,rfl,hr0,hm0,hw0,hc0⟩:=ReadsInt.ofRowC w0
 obtain ⟨k,h⟩:=P l0 hm0 y0 hw0
 refine (thresherlaw09_OrderStable.calls k _ _ l0 true w (Kd.C_of_reads (d:=(0 : Int)) (h1:=fun _=>rfl) hr0) hc0 h).mono ?_
 rintro e w' ⟨rfl,hd⟩
 exact ⟨rfl,hd⟩
end Go.Proofs.Ytojbeofipedolaa.P

