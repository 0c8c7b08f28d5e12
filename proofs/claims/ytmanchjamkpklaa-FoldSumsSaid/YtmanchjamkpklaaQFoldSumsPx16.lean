/- Texts of FoldSums. Merged: Px16. -/
import Derived.Test.YtmanchjamkpklaaQFoldSumsPx0
import Derived.Test.YtmanchjamkpklaaQFoldSumsPx4
import Derived.Test.YtmanchjamkpklaaQFoldSumsPx5
import Derived.Test.YtmanchjamkpklaaQFoldSumsPx10
namespace Go.Proofs.Ytmanchjamkpklaa.P
open Go.RowKit Go.Proofs.YtmanchjamkpklaaW.PrintWords Go.Proofs.YtmanchjamkpklaaW.PrintLast Go.Proofs.YtmanchjamkpklaaW.PrintMore
attribute [local go_sem] max2_int min2_int max_two min_two max_three min_three max_four min_four   -- for this text's walks alone
set_option linter.unusedVariables false
set_option linter.unusedSimpArgs false
mutual
def thresherlaw13_FoldSums.l0 : Nat→List Int→List ByteArray→Bool→List (List (S45))→Int→ByteArray→Int→List Int→Int→Int→Int→Option (Bool)
 | 0,_,_,_,_,_,_,_,_,_,_,_=>none
 | k + 1,x0,x1,x5,x7,x8,x9,x10,x434000,x434001,x434002,x434003=>if x10 < (x0.length : Int) then (thresherlaw13_FoldSums.j1 k x0 x1 x5 x7 x8 x9 x10 (decide (x10 < 60)) x434000 x434001 x434002 x434003) else (thresherlaw13_FoldSums.j1 k x0 x1 x5 x7 x8 x9 x10 false x434000 x434001 x434002 x434003)
def thresherlaw13_FoldSums.j1 : Nat→List Int→List ByteArray→Bool→List (List (S45))→Int→ByteArray→Int→Bool→List Int→Int→Int→Int→Option (Bool)
 | 0,_,_,_,_,_,_,_,_,_,_,_,_=>none
 | k + 1,x0,x1,x5,x7,x8,x9,x10,x24,x434000,x434001,x434002,x434003=>if x24=true then (if x10 < (x1.length : Int) then (if 0≤x10 then (thresherlaw13_FoldSums.j2 k x0 x1 x5 x7 x8 (rdOf ByteArray.empty x1 x10) x10 x434000 x434001 x434002 x434003) else (none)) else (thresherlaw13_FoldSums.j2 k x0 x1 x5 x7 x8 (⟨#[]⟩ : ByteArray) x10 x434000 x434001 x434002 x434003)) else ((fold_Rows.f k x434000 x434001 x434002 x434003 x7).bind fun t456=>(if (x7.length : Int)=0 then (if x5=true then (some ((t456.length : Int) == 0)) else (some false)) else (if x5=true then (if (t456.length : Int)=1 then (if 0 < (t456.length : Int) then ((thresherref04_One.f k (rd_L5 t456 0) (([(⟨5,(⟨#[]⟩ : ByteArray)⟩ : S45),(⟨x8,(⟨#[]⟩ : ByteArray)⟩ : S45),(⟨wrap64 (-x8),(⟨#[]⟩ : ByteArray)⟩ : S45),(⟨0,x9⟩ : S45)] : List (S45)))).bind fun t463=>(some t463)) else (none)) else (some false)) else (some false))))
def thresherlaw13_FoldSums.j2 : Nat→List Int→List ByteArray→Bool→List (List (S45))→Int→ByteArray→Int→List Int→Int→Int→Int→Option (Bool)
 | 0,_,_,_,_,_,_,_,_,_,_,_=>none
 | k + 1,x0,x1,x5,x7,x8,x9,x10,x434000,x434001,x434002,x434003=>if (x9.size : Int) > 60 then (if 0≤60 then (if 60≤(x9.size : Int) then (if 0≤x10 then (if x10 < (x0.length : Int) then (if x7.length < 5864062014805 then (thresherlaw13_FoldSums.l0 k x0 x1 x5 (x7 ++ [(([(⟨5,(⟨#[]⟩ : ByteArray)⟩ : S45),(⟨rd x0 x10,(⟨#[]⟩ : ByteArray)⟩ : S45),(⟨wrap64 (-(rd x0 x10)),(⟨#[]⟩ : ByteArray)⟩ : S45),(⟨0,x9.extract 0 60⟩ : S45)] : List (S45)))]) (wrap64 (x8 + (rd x0 x10))) (x9.extract 0 60) (wrap64 (x10 + 1)) x434000 x434001 x434002 x434003) else (none)) else (none)) else (none)) else (none)) else (none)) else (if 0≤x10 then (if x10 < (x0.length : Int) then (if x7.length < 5864062014805 then (thresherlaw13_FoldSums.l0 k x0 x1 x5 (x7 ++ [(([(⟨5,(⟨#[]⟩ : ByteArray)⟩ : S45),(⟨rd x0 x10,(⟨#[]⟩ : ByteArray)⟩ : S45),(⟨wrap64 (-(rd x0 x10)),(⟨#[]⟩ : ByteArray)⟩ : S45),(⟨0,x9⟩ : S45)] : List (S45)))]) (wrap64 (x8 + (rd x0 x10))) x9 (wrap64 (x10 + 1)) x434000 x434001 x434002 x434003) else (none)) else (none)) else (none))
end
def thresherlaw13_FoldSums.f (k : Nat) (l0 : List Int) (l1 : List ByteArray) : Option (Bool):=(thresherlaw13_shown.f k).bind fun t429=>(thresherlaw13_FoldSums.l0 k l0 l1 t429 (([] : List (List (S45)))) 0 (⟨#[]⟩ : ByteArray) 0 (([1,2,1,3] : List Int)) 1 3 1)
theorem thresherlaw13_FoldSums.mono_l : ∀ k,(∀ y0 y1 y2 y3 y4 y5 y6 y7 y8 y9 y10,LeO (thresherlaw13_FoldSums.l0 k y0 y1 y2 y3 y4 y5 y6 y7 y8 y9 y10) (thresherlaw13_FoldSums.l0 (k + 1) y0 y1 y2 y3 y4 y5 y6 y7 y8 y9 y10))∧(∀ y0 y1 y2 y3 y4 y5 y6 y7 y8 y9 y10 y11,LeO (thresherlaw13_FoldSums.j1 k y0 y1 y2 y3 y4 y5 y6 y7 y8 y9 y10 y11) (thresherlaw13_FoldSums.j1 (k + 1) y0 y1 y2 y3 y4 y5 y6 y7 y8 y9 y10 y11))∧(∀ y0 y1 y2 y3 y4 y5 y6 y7 y8 y9 y10,LeO (thresherlaw13_FoldSums.j2 k y0 y1 y2 y3 y4 y5 y6 y7 y8 y9 y10) (thresherlaw13_FoldSums.j2 (k + 1) y0 y1 y2 y3 y4 y5 y6 y7 y8 y9 y10))
 | 0=>⟨fun _ _ _ _ _ _ _ _ _ _ _ r h=>by simp [thresherlaw13_FoldSums.l0] at h,fun _ _ _ _ _ _ _ _ _ _ _ _ r h=>by simp [thresherlaw13_FoldSums.j1] at h,fun _ _ _ _ _ _ _ _ _ _ _ r h=>by simp [thresherlaw13_FoldSums.j2] at h⟩
 | k + 1=>by
  obtain ⟨ih0,ih1,ih2⟩:=thresherlaw13_FoldSums.mono_l k
  refine ⟨?_,?_,?_⟩
  ·intro y0 y1 y2 y3 y4 y5 y6 y7 y8 y9 y10
   unfold thresherlaw13_FoldSums.l0
   repeat' first
   | (with_reducible exact ih0 _ _ _ _ _ _ _ _ _ _ _)
   | (with_reducible exact ih1 _ _ _ _ _ _ _ _ _ _ _ _)
   | (with_reducible exact ih2 _ _ _ _ _ _ _ _ _ _ _)
   | (with_reducible exact fold_Rows.mono _ _ _ _ _ _)
   | (with_reducible exact thresherlaw13_shown.mono _)
   | (with_reducible exact thresherref04_One.mono _ _ _)
   | (with_reducible exact LeO.refl _)
   | (with_reducible exact LeO.none _)
   | (with_reducible refine LeO.ite ?_ ?_)
   | (with_reducible refine LeO.bind ?_ (fun _=>?_))
   | exact ih0 _ _ _ _ _ _ _ _ _ _ _
   | exact ih1 _ _ _ _ _ _ _ _ _ _ _ _
   | exact ih2 _ _ _ _ _ _ _ _ _ _ _
   | exact fold_Rows.mono _ _ _ _ _ _
   | exact thresherlaw13_shown.mono _
   | exact thresherref04_One.mono _ _ _
   | exact LeO.none _
   | refine LeO.ite ?_ ?_
   | refine LeO.bind ?_ (fun _=>?_)
  ·intro y0 y1 y2 y3 y4 y5 y6 y7 y8 y9 y10 y11
   unfold thresherlaw13_FoldSums.j1
   repeat' first
   | (with_reducible exact ih0 _ _ _ _ _ _ _ _ _ _ _)
   | (with_reducible exact ih1 _ _ _ _ _ _ _ _ _ _ _ _)
   | (with_reducible exact ih2 _ _ _ _ _ _ _ _ _ _ _)
   | (with_reducible exact fold_Rows.mono _ _ _ _ _ _)
   | (with_reducible exact thresherlaw13_shown.mono _)
   | (with_reducible exact thresherref04_One.mono _ _ _)
   | (with_reducible exact LeO.refl _)
   | (with_reducible exact LeO.none _)
   | (with_reducible refine LeO.ite ?_ ?_)
   | (with_reducible refine LeO.bind ?_ (fun _=>?_))
   | exact ih0 _ _ _ _ _ _ _ _ _ _ _
   | exact ih1 _ _ _ _ _ _ _ _ _ _ _ _
   | exact ih2 _ _ _ _ _ _ _ _ _ _ _
   | exact fold_Rows.mono _ _ _ _ _ _
   | exact thresherlaw13_shown.mono _
   | exact thresherref04_One.mono _ _ _
   | exact LeO.none _
   | refine LeO.ite ?_ ?_
   | refine LeO.bind ?_ (fun _=>?_)
  ·intro y0 y1 y2 y3 y4 y5 y6 y7 y8 y9 y10
   unfold thresherlaw13_FoldSums.j2
   repeat' first
   | (with_reducible exact ih0 _ _ _ _ _ _ _ _ _ _ _)
   | (with_reducible exact ih1 _ _ _ _ _ _ _ _ _ _ _ _)
   | (with_reducible exact ih2 _ _ _ _ _ _ _ _ _ _ _)
   | (with_reducible exact fold_Rows.mono _ _ _ _ _ _)
   | (with_reducible exact thresherlaw13_shown.mono _)
   | (with_reducible exact thresherref04_One.mono _ _ _)
   | (with_reducible exact LeO.refl _)
   | (with_reducible exact LeO.none _)
   | (with_reducible refine LeO.ite ?_ ?_)
   | (with_reducible refine LeO.bind ?_ (fun _=>?_))
   | exact ih0 _ _ _ _ _ _ _ _ _ _ _
   | exact ih1 _ _ _ _ _ _ _ _ _ _ _ _
   | exact ih2 _ _ _ _ _ _ _ _ _ _ _
   | exact fold_Rows.mono _ _ _ _ _ _
   | exact thresherlaw13_shown.mono _
   | exact thresherref04_One.mono _ _ _
   | exact LeO.none _
   | refine LeO.ite ?_ ?_
   | refine LeO.bind ?_ (fun _=>?_)
theorem thresherlaw13_FoldSums.mono : ∀ a0 a1 k,LeO (thresherlaw13_FoldSums.f k a0 a1) (thresherlaw13_FoldSums.f (k + 1) a0 a1):=by
 intro a0 a1 k
 obtain ⟨ih0,ih1,ih2⟩:=thresherlaw13_FoldSums.mono_l k
 unfold thresherlaw13_FoldSums.f
 repeat' first
   | (with_reducible exact ih0 _ _ _ _ _ _ _ _ _ _ _)
   | (with_reducible exact ih1 _ _ _ _ _ _ _ _ _ _ _ _)
   | (with_reducible exact ih2 _ _ _ _ _ _ _ _ _ _ _)
   | (with_reducible exact fold_Rows.mono _ _ _ _ _ _)
   | (with_reducible exact thresherlaw13_shown.mono _)
   | (with_reducible exact thresherref04_One.mono _ _ _)
   | (with_reducible exact LeO.refl _)
   | (with_reducible exact LeO.none _)
   | (with_reducible refine LeO.ite ?_ ?_)
   | (with_reducible refine LeO.bind ?_ (fun _=>?_))
   | exact ih0 _ _ _ _ _ _ _ _ _ _ _
   | exact ih1 _ _ _ _ _ _ _ _ _ _ _ _
   | exact ih2 _ _ _ _ _ _ _ _ _ _ _
   | exact fold_Rows.mono _ _ _ _ _ _
   | exact thresherlaw13_shown.mono _
   | exact thresherref04_One.mono _ _ _
   | exact LeO.none _
   | refine LeO.ite ?_ ?_
   | refine LeO.bind ?_ (fun _=>?_)
def thresherlaw13_FoldSums.T14 : Bool × List (List Nat × List Nat):=(true,[([],[]),([],[]),([],[]),([],[]),([2,3],[2,3]),([4],[4]),([5],[5]),([],[]),([],[]),([7,8],[7,8]),([9],[9]),([10],[10]),([11],[11]),([],[]),([13],[13]),([1,6,12,14],[1,6,12,14]),([15],[15]),([0,16],[0,16]),([17,17,0,1,2,3,4,5,6,7,8,9,10,11,12,13,14,15,16,17],[0,17])])
def thresherlaw13_FoldSums.B14 : List Nat:=[0,0,0,0,12,28,60,0,0,384,896,1920,3968,0,8192,32766,65534,131071,262143]
theorem thresherlaw13_FoldSums.tab14 : rtab .any (opsOf Try.f6 14)=thresherlaw13_FoldSums.T14:=by kernel_rfl
theorem thresherlaw13_FoldSums.bits14 : waitsOk thresherlaw13_FoldSums.T14.2 thresherlaw13_FoldSums.B14=true:=by kernel_rfl
set_option maxHeartbeats 8000000 in
set_option maxRecDepth 100000 in
theorem thresherlaw13_FoldSums.calls (k : Nat) (A0 : Option Addr) (c0 : Nat) (l0 : List Int) (A1 : Option Addr) (c1 : Nat) (l1 : List ByteArray) (r : Bool) (w : World) (hr0 : Kd.C (Kd.int .i64) w A0 l0.length l0) (hc0 : l0.length≤c0) (hr1 : Kd.C Kd.string w A1 l1.length l1) (hc1 : l1.length≤c1) (h : thresherlaw13_FoldSums.f k l0 l1=some r) :
  Calls Try.prog 6 #[.slice A0 l0.length c0,.slice A1 l1.length c1] w fun e w'=>e=.returned (.bool r)∧Below w.heap.size w w':=by
 have hu29:=Try.underlying29
 have hu45:=Try.underlying45
 have HR0:=Aside0.mk hr0
 have HC0:=Aside0.mk hc0
 clear hr0 hc0
 have HR1:=Aside0.mk hr1
 have HC1:=Aside0.mk hc1
 clear hr1 hc1
 have HB:=Aside0.mk (Below.refl w.heap.size w)
 have H : ((thresherlaw13_shown.f k).bind fun t429=>(thresherlaw13_FoldSums.l0 k l0 l1 t429 (([] : List (List (S45)))) 0 (⟨#[]⟩ : ByteArray) 0 (([1,2,1,3] : List Int)) 1 3 1))=some r:=h
 clear h
 replace H:=Option.bind_eq_some_iff.mp H
 obtain ⟨t429,A30,H⟩:=H
 replace H : (thresherlaw13_FoldSums.l0 k l0 l1 t429 (([] : List (List (S45)))) 0 (⟨#[]⟩ : ByteArray) 0 (([1,2,1,3] : List Int)) 1 3 1)=some r:=H
 have A3:=Aside0.mk A30
 clear A30
 obtain ⟨y430,hy430⟩ : ∃ y_ : List Int,y_=(([1,2,1,3] : List Int)):=⟨_,rfl⟩
 replace H : (thresherlaw13_FoldSums.l0 k l0 l1 t429 (([] : List (List (S45)))) 0 (⟨#[]⟩ : ByteArray) 0 y430 1 3 1)=some r:=by first|(rw [hy430];with_reducible exact H)|(have H2_:=(Option.bind_some _ _).symm.trans H;rw [hy430];with_reducible exact H2_)|(have H2_:=(Option.bind_some _ _).symm.trans H;with_reducible exact H2_)|with_reducible exact H|(rw [hy430];exact H)|exact H
 have Ny430:=Aside0.mk hy430
 clear hy430
 obtain ⟨y434,hy434⟩ : ∃ y_ : List (List (S45)),y_=(([] : List (List (S45)))):=⟨_,rfl⟩
 replace H : (thresherlaw13_FoldSums.l0 k l0 l1 t429 y434 0 (⟨#[]⟩ : ByteArray) 0 y430 1 3 1)=some r:=by first|(rw [hy434];with_reducible exact H)|(have H2_:=(Option.bind_some _ _).symm.trans H;rw [hy434];with_reducible exact H2_)|(have H2_:=(Option.bind_some _ _).symm.trans H;with_reducible exact H2_)|with_reducible exact H|(rw [hy434];exact H)|exact H
 have Ny434:=Aside0.mk hy434
 clear hy434
 have H':=Aside0.mk H
 clear H
 go_enter Try.func6,Try.ntmps6
 go_wp2_with (first|((with_reducible refine gate_callee (f:=8) rfl ?_);refine goesL_ (some 13) rfl rfl Try.func8 (by kernel_rfl) rfl #[] rfl (by (try simp only [List.map_toArray,List.map_cons,List.map_nil]);first|done|rfl|(simp only [List.length_drop,List.length_take];rfl)) ?_;(with_reducible refine (thresherlaw13_shown.calls k  t429 _ A3.out).mono ?_);rintro e w4 ⟨rfl,hb⟩;refine ⟨_,rfl,?_⟩;have n0_:=Aside0.mk (below_step (by repeat (first|(with_reducible first|exact HB.out|apply below_alloc|apply pw_below_drewN|apply below_drew1)|exact HB.out)) hb);clear HB;have HB:=n0_;clear n0_;(try clear hb);(try clear hb2);(try clear hk);(try clear hi))|((with_reducible refine gate_dst (N:=14) rfl ?_);(try (refine gate_guard (by rfl) ?_;dsimp only));refine Kd.R_lit (Kd.int .i64) _ 3 ?hg (N:=14) ?hd (xs:=([1,2,1,3] : List Int)) (inner:=[.int .i64 1,.int .i64 2,.int .i64 1,.int .i64 3]) (ok:=fun _=>True) (okp:=fun _=>True) ?hr ?hp (fun _ hk=>hk) trivial (Below.refl _ _) (Nat.le_refl _) (by simp) ?_;(case hd=>rfl);(case hg=>rfl);(case hr=>first|(go_simp;done)|(go_simp;rfl));(case hp=>exact (Reps.one (show Kd.M (Kd.int .i64) _ _ _ 1 [.int .i64 1] from rfl) (Reps.one (show Kd.M (Kd.int .i64) _ _ _ 2 [.int .i64 2] from rfl) (Reps.one (show Kd.M (Kd.int .i64) _ _ _ 1 [.int .i64 1] from rfl) (Reps.one (show Kd.M (Kd.int .i64) _ _ _ 3 [.int .i64 3] from rfl) (Reps.none _ _))))));intro v431 w5 ho6 hb hg_ hnew_;clear hg_ hnew_;(first|rw [← Ny430.out] at ho6|(simp only [Int.reduceToNat] at ho6;rw [← Ny430.out] at ho6));have n0_:=Aside0.mk (Kd.R_lower ho6 (below_size (by repeat (first|(with_reducible first|exact HB.out|apply below_alloc|apply pw_below_drewN|apply below_drew1)|exact HB.out))));have n1_:=Aside0.mk (below_step (by repeat (first|(with_reducible first|exact HB.out|apply below_alloc|apply pw_below_drewN|apply below_drew1)|exact HB.out)) hb);clear HB;have HO432:=n0_;have HB:=n1_;clear n0_ n1_;clear hb ho6;obtain ⟨Ao7,co7,eo7⟩:=Kd.R_slice HO432.out;subst eo7)|((with_reducible refine gate_dst (N:=6) rfl ?_);(try (refine gate_guard (by rfl) ?_;dsimp only));refine box_event ?hg (N:=6) ?hd (cs:=#[.slice none 0 0,.int .i64 0,.int .i64 0,.int .i64 0]) (t:=29) ?hr ?_;(case hd=>rfl);(case hg=>rfl);(case hr=>first|(go_simp;done)|(go_simp;rfl));intro gb433 hg w8 hbox hb;have n0_:=Aside0.mk (Kd.R_below (by (with_reducible repeat (first|apply Kd.R_alloc|apply Kd.R_drewN|apply Kd.R_drew));exact HO432.out) hb);have n1_:=Aside0.mk (below_step (by repeat (first|(with_reducible first|exact HB.out|apply below_alloc|apply pw_below_drewN|apply below_drew1)|exact HB.out)) hb);have n2_:=Aside0.mk (hbox);have n3_:=Aside0.mk ((by rw [hg];exact (below_size (by repeat (first|(with_reducible first|exact HB.out|apply below_alloc|apply pw_below_drewN|apply below_drew1)|exact HB.out))) : w.heap.size≤gb433));have n4_:=Aside0.mk ((by rw [hg];exact (below_size (by repeat (first|(with_reducible first|exact HB.out|apply below_alloc|apply pw_below_drewN|apply below_drew1)|exact HB.out))) : w.heap.size≤gb433));clear HO432;clear HB;have HO432:=n0_;have HB:=n1_;have BK433:=n2_;have GW433:=n3_;have GE433:=n4_;clear n0_ n1_ n2_ n3_ n4_;clear hb hbox hg;have hcz9_0 : w8.cell? ⟨gb433,0,none⟩=some (.slice none 0 0):=(blk_cell BK433.out 0).trans rfl;have hcz9_1 : w8.cell? ⟨gb433,1,none⟩=some (.int .i64 0):=(blk_cell BK433.out 1).trans rfl;have hcz9_2 : w8.cell? ⟨gb433,2,none⟩=some (.int .i64 0):=(blk_cell BK433.out 2).trans rfl;have hcz9_3 : w8.cell? ⟨gb433,3,none⟩=some (.int .i64 0):=(blk_cell BK433.out 3).trans rfl;have hfz9_0:=blk_frozen BK433.out 0;have hfz9_1:=blk_frozen BK433.out 1;have hfz9_2:=blk_frozen BK433.out 2;have hfz9_3:=blk_frozen BK433.out 3)|((with_reducible refine gate_dst (N:=16) rfl ?_);(try (refine gate_guard (by rfl) ?_;dsimp only));refine Kd.N_lit (Kd.slice 45 k45) _ 36 ?hg (N':=16) ?hd (xs:=([] : List (List (S45)))) (inner:=[]) (ok:=(fun k_=>some k_≠(.slice Ao7 y430.length co7 : Value).ownBlock∧k_≠gb433)) (okp:=(fun k_=>some k_≠(.slice Ao7 y430.length co7 : Value).ownBlock∧k_≠gb433)) ?hr ?hp (fun _ hk=>hk) ((show ∀ k_,((((w8.setCell ⟨gb433,0,none⟩ (.slice Ao7 y430.length co7)).setCell ⟨gb433,1,none⟩ (.int .i64 1)).setCell ⟨gb433,2,none⟩ (.int .i64 3)).setCell ⟨gb433,3,none⟩ (.int .i64 1)).heap.size≤k_→(fun k_=>some k_≠(.slice Ao7 y430.length co7 : Value).ownBlock∧k_≠gb433) k_ from fun k_ hk=>⟨Kd.fresh' (Kd.R_lt (by (with_reducible repeat (first|apply Kd.R_alloc|apply Kd.R_drewN|apply Kd.R_drew));exact (Kd.R_mono (Kd.R_far (p:=⟨gb433,3,none⟩) (Kd.R_far (p:=⟨gb433,2,none⟩) (Kd.R_far (p:=⟨gb433,1,none⟩) (Kd.R_far (p:=⟨gb433,0,none⟩) (Kd.R_types HO432.out BK433.out (by decide)) (fun _ hk=>hk.2) (.slice Ao7 y430.length co7)) (fun _ hk=>hk.2) (.int .i64 1)) (fun _ hk=>hk.2) (.int .i64 3)) (fun _ hk=>hk.2) (.int .i64 1)) (fun _ h_=>h_.1)))) k_ hk,Kd.freshB (g:=gb433) (o:=.cells #[.slice Ao7 y430.length co7,.int .i64 1,.int .i64 3,.int .i64 1] 29 (0,0)) (by (with_reducible repeat (first|refine blk_drewN ?_ _|refine blk_drew ?_|refine blk_alloc ?_ _));refine blk_put (cs:=#[.slice Ao7 y430.length co7,.int .i64 1,.int .i64 3,.int .i64 0]) ?_ 3 _ rfl;(with_reducible repeat (first|refine blk_drewN ?_ _|refine blk_drew ?_|refine blk_alloc ?_ _));refine blk_put (cs:=#[.slice Ao7 y430.length co7,.int .i64 1,.int .i64 0,.int .i64 0]) ?_ 2 _ rfl;(with_reducible repeat (first|refine blk_drewN ?_ _|refine blk_drew ?_|refine blk_alloc ?_ _));refine blk_put (cs:=#[.slice Ao7 y430.length co7,.int .i64 0,.int .i64 0,.int .i64 0]) ?_ 1 _ rfl;(with_reducible repeat (first|refine blk_drewN ?_ _|refine blk_drew ?_|refine blk_alloc ?_ _));refine blk_put (cs:=#[.slice none 0 0,.int .i64 0,.int .i64 0,.int .i64 0]) ?_ 0 _ rfl;(with_reducible repeat (first|refine blk_drewN ?_ _|refine blk_drew ?_|refine blk_alloc ?_ _));exact BK433.out) k_ hk⟩) _ (Nat.le_refl _)) (Below.refl _ _) (Nat.le_refl _) (by simp) ?_;(case hd=>rfl);(case hg=>rfl);(case hr=>first|(go_simp;done)|(go_simp;rfl));(case hp=>exact (Reps.none _ _));intro v435 w10 ho11 hb hg_ hnew_;clear hg_ hnew_;(first|rw [← Ny434.out] at ho11|(simp only [Int.reduceToNat] at ho11;rw [← Ny434.out] at ho11));have n0_:=Aside0.mk (Kd.R_below (by (with_reducible repeat (first|apply Kd.R_alloc|apply Kd.R_drewN|apply Kd.R_drew));exact (Kd.R_mono (Kd.R_far (p:=⟨gb433,3,none⟩) (Kd.R_far (p:=⟨gb433,2,none⟩) (Kd.R_far (p:=⟨gb433,1,none⟩) (Kd.R_far (p:=⟨gb433,0,none⟩) (Kd.R_types HO432.out BK433.out (by decide)) (fun _ hk=>hk.2) (.slice Ao7 y430.length co7)) (fun _ hk=>hk.2) (.int .i64 1)) (fun _ hk=>hk.2) (.int .i64 3)) (fun _ hk=>hk.2) (.int .i64 1)) (fun _ h_=>h_.1))) hb);have n1_:=Aside0.mk (Kd.N_lower ho11 (below_size (by repeat (first|(with_reducible first|exact HB.out|apply below_alloc|apply pw_below_drewN|apply below_drew1|refine below_set ?_ GE433.out)|exact HB.out))));have n2_:=Aside0.mk (blk_below (g:=gb433) (o:=.cells #[.slice Ao7 y430.length co7,.int .i64 1,.int .i64 3,.int .i64 1] 29 (0,0)) (by (with_reducible repeat (first|refine blk_drewN ?_ _|refine blk_drew ?_|refine blk_alloc ?_ _));refine blk_put (cs:=#[.slice Ao7 y430.length co7,.int .i64 1,.int .i64 3,.int .i64 0]) ?_ 3 _ rfl;(with_reducible repeat (first|refine blk_drewN ?_ _|refine blk_drew ?_|refine blk_alloc ?_ _));refine blk_put (cs:=#[.slice Ao7 y430.length co7,.int .i64 1,.int .i64 0,.int .i64 0]) ?_ 2 _ rfl;(with_reducible repeat (first|refine blk_drewN ?_ _|refine blk_drew ?_|refine blk_alloc ?_ _));refine blk_put (cs:=#[.slice Ao7 y430.length co7,.int .i64 0,.int .i64 0,.int .i64 0]) ?_ 1 _ rfl;(with_reducible repeat (first|refine blk_drewN ?_ _|refine blk_drew ?_|refine blk_alloc ?_ _));refine blk_put (cs:=#[.slice none 0 0,.int .i64 0,.int .i64 0,.int .i64 0]) ?_ 0 _ rfl;(with_reducible repeat (first|refine blk_drewN ?_ _|refine blk_drew ?_|refine blk_alloc ?_ _));exact BK433.out) hb);have n3_:=Aside0.mk (below_step (by repeat (first|(with_reducible first|exact HB.out|apply below_alloc|apply pw_below_drewN|apply below_drew1|refine below_set ?_ GE433.out)|exact HB.out)) hb);clear HO432;clear BK433;clear HB;have HO432:=n0_;have HO436:=n1_;have BK433:=n2_;have HB:=n3_;clear n0_ n1_ n2_ n3_;clear hb ho11))
 go_loopg [7,8,9,10] k (fun kq v7 v8 v9 v10 w'=>∃ (x7_1 : List (List (S45))) (x8_1 : Int) (x9_1 : ByteArray) (x10_1 : Int),v8=.int .i64 x8_1∧v9=.string x9_1∧v10=.int .i64 x10_1∧Aside0 (thresherlaw13_FoldSums.l0 kq l0 l1 t429 x7_1 x8_1 x9_1 x10_1 y430 1 3 1=some r)∧Aside0 (kq≤k)∧Aside0 (Kd.N (Kd.slice 45 k45) 36 w' w.heap.size (fun k_=>some k_≠((.slice Ao7 y430.length co7) : Value).ownBlock∧k_≠gb433) v7 x7_1)∧Aside0 (Kd.R (Kd.int .i64) 3 w' w.heap.size (fun _=>True) (.slice Ao7 y430.length co7) y430)∧Aside0 (w'.heap[gb433]?=some (.cells #[(.slice Ao7 y430.length co7),.int .i64 1,.int .i64 3,.int .i64 1] 29 (0,0)))∧Aside0 (Below w.heap.size w w'))
 case atStart=>exact ⟨(y434),(0),((⟨#[]⟩ : ByteArray)),(0),(by first|rfl|(simp;done)|(simp [*];done)),(by first|rfl|(simp;done)|(simp [*];done)),(by first|rfl|(simp;done)|(simp [*];done)),H',⟨Nat.le_refl _⟩,⟨by (with_reducible repeat (first|apply Kd.N_alloc|apply Kd.N_drewN|apply Kd.N_drew));exact HO436.out⟩,⟨by (with_reducible repeat (first|apply Kd.R_alloc|apply Kd.R_drewN|apply Kd.R_drew));exact HO432.out⟩,⟨by (with_reducible repeat (first|refine blk_drewN ?_ _|refine blk_drew ?_|refine blk_alloc ?_ _));exact BK433.out⟩,⟨by repeat (first|(with_reducible first|exact HB.out|apply below_alloc|apply pw_below_drewN|apply below_drew1|refine below_set ?_ GE433.out)|exact HB.out)⟩⟩
 case round =>
  clear H'
  try clear c1
  try clear p2
  try clear c6
  try clear c8
  try clear hcz9_0
  try clear hcz9_1
  try clear hcz9_2
  try clear hcz9_3
  try clear hfz9_0
  try clear hfz9_1
  try clear hfz9_2
  try clear hfz9_3
  obtain ⟨x7_1,x8_1,x9_1,x10_1,rfl,rfl,rfl,HA,HK1,HO_7,HO_434000,BK433,HB⟩:=hrel
  cases gk with
  | zero=>exact absurd HA.out (by simp [thresherlaw13_FoldSums.l0])
  | succ k1 =>
   have H:=HA.out
   clear HA
   simp only [thresherlaw13_FoldSums.l0] at H
   have HC12:=Aside0.mk H
   clear H
   go_upto_region 7 with (fail)
   go_cut [24] (fun v24 wc=>∃ (kq : Nat) (x24_11 : Bool),v24=.bool x24_11∧Aside0 (thresherlaw13_FoldSums.j1 kq l0 l1 t429 x7_1 x8_1 x9_1 x10_1 x24_11 y430 1 3 1=some r)∧Aside0 (kq≤k1)∧Aside0 (Kd.N (Kd.slice 45 k45) 36 wc w.heap.size (fun k_=>some k_≠((.slice Ao7 y430.length co7) : Value).ownBlock∧k_≠gb433) u7 x7_1)∧Aside0 (Kd.R (Kd.int .i64) 3 wc w.heap.size (fun _=>True) (.slice Ao7 y430.length co7) y430)∧Aside0 (wc.heap[gb433]?=some (.cells #[(.slice Ao7 y430.length co7),.int .i64 1,.int .i64 3,.int .i64 1] 29 (0,0)))∧Aside0 (Below w.heap.size w wc))
   case first =>
    have H:=HC12.out
    clear HC12
    by_cases c13 : x10_1 < (l0.length : Int)
    ·rw [if_pos c13] at H
     have c13b0 : decide (x10_1 < (l0.length : Int))=true:=decide_eq_true c13
     clear c13
     (first|rw [c13b0]|(simp only [i64_w,i32_w];rw [c13b0])|skip)
     have H':=Aside0.mk H
     clear H
     go_wp2
     go_meet
     case rel=>exact ⟨_,(decide (x10_1 < 60)),(by first|rfl|(simp;done)|(simp [*];done)),(by first|exact H'|(subst_vars;exact H')),⟨by have:=HK1.out;first|omega|exact Nat.le_refl _⟩,⟨by (with_reducible repeat (first|apply Kd.N_alloc|apply Kd.N_drewN|apply Kd.N_drew));exact HO_7.out⟩,⟨by (with_reducible repeat (first|apply Kd.R_alloc|apply Kd.R_drewN|apply Kd.R_drew));exact HO_434000.out⟩,⟨by (with_reducible repeat (first|refine blk_drewN ?_ _|refine blk_drew ?_|refine blk_alloc ?_ _));exact BK433.out⟩,⟨by repeat (first|(with_reducible first|exact HB.out|apply below_alloc|apply pw_below_drewN|apply below_drew1|refine below_set ?_ GE433.out)|exact HB.out)⟩⟩
    ·rw [if_neg c13] at H
     have c13b0 : decide (x10_1 < (l0.length : Int))=false:=decide_eq_false c13
     clear c13
     (first|rw [c13b0]|(simp only [i64_w,i32_w];rw [c13b0])|skip)
     have H':=Aside0.mk H
     clear H
     go_wp2
     go_meet
     case rel=>exact ⟨_,(false),(by first|rfl|(simp;done)|(simp [*];done)),(by first|exact H'|(subst_vars;exact H')),⟨by have:=HK1.out;first|omega|exact Nat.le_refl _⟩,⟨by (with_reducible repeat (first|apply Kd.N_alloc|apply Kd.N_drewN|apply Kd.N_drew));exact HO_7.out⟩,⟨by (with_reducible repeat (first|apply Kd.R_alloc|apply Kd.R_drewN|apply Kd.R_drew));exact HO_434000.out⟩,⟨by (with_reducible repeat (first|refine blk_drewN ?_ _|refine blk_drew ?_|refine blk_alloc ?_ _));exact BK433.out⟩,⟨by repeat (first|(with_reducible first|exact HB.out|apply below_alloc|apply pw_below_drewN|apply below_drew1|refine below_set ?_ GE433.out)|exact HB.out)⟩⟩
   case rest =>
    clear HC12
    try clear c1
    try clear p2
    try clear c6
    try clear c8
    try clear c13
    try clear c13b0
    try clear hcz9_0
    try clear hcz9_1
    try clear hcz9_2
    try clear hcz9_3
    try clear hfz9_0
    try clear hfz9_1
    try clear hfz9_2
    try clear hfz9_3
    try clear p2
    obtain ⟨kq,x24_11,rfl,HA,HJ11,HO_7,HO_434000,BK433,HB⟩:=hcut
    cases kq with
    | zero=>exact absurd HA.out (by simp [thresherlaw13_FoldSums.j1])
    | succ kj11 =>
     have H:=HA.out
     clear HA
     simp only [thresherlaw13_FoldSums.j1] at H
     by_cases c14 : x24_11=true
     ·subst c14
      have H1 : (if x10_1 < (l1.length : Int) then (if 0≤x10_1 then (thresherlaw13_FoldSums.j2 kj11 l0 l1 t429 x7_1 x8_1 (rdOf ByteArray.empty l1 x10_1) x10_1 y430 1 3 1) else (none)) else (thresherlaw13_FoldSums.j2 kj11 l0 l1 t429 x7_1 x8_1 (⟨#[]⟩ : ByteArray) x10_1 y430 1 3 1))=some r:=by rw [if_pos rfl] at H;exact H
      clear H
      have H:=H1
      clear H1
      have HC15:=Aside0.mk H
      clear H
      go_upto_if 30 with (fail)
      go_cut [9] (fun v9 wc=>∃ (kq : Nat) (x9_14 : ByteArray),v9=.string x9_14∧Aside0 (thresherlaw13_FoldSums.j2 kq l0 l1 t429 x7_1 x8_1 x9_14 x10_1 y430 1 3 1=some r)∧Aside0 (kq≤kj11)∧Aside0 (Kd.N (Kd.slice 45 k45) 36 wc w.heap.size (fun k_=>some k_≠((.slice Ao7 y430.length co7) : Value).ownBlock∧k_≠gb433) u7 x7_1)∧Aside0 (Kd.R (Kd.int .i64) 3 wc w.heap.size (fun _=>True) (.slice Ao7 y430.length co7) y430)∧Aside0 (wc.heap[gb433]?=some (.cells #[(.slice Ao7 y430.length co7),.int .i64 1,.int .i64 3,.int .i64 1] 29 (0,0)))∧Aside0 (Below w.heap.size w wc))
      case first =>
       have H:=HC15.out
       clear HC15
       by_cases c16 : x10_1 < (l1.length : Int)
       ·rw [if_pos c16] at H
        have c16b0 : decide (x10_1 < (l1.length : Int))=true:=decide_eq_true c16
        clear c16
        (first|rw [c16b0]|(simp only [i64_w,i32_w];rw [c16b0])|skip)
        by_cases c17 : 0≤x10_1
        ·rw [if_pos c17] at H
         have c17b0 : decide (0≤x10_1)=true:=decide_eq_true c17
         clear c17
         have H':=Aside0.mk H
         clear H
         have p437 : 0≤(x10_1 : Int):=of_decide_eq_true (by first|(with_reducible assumption)|assumption)
         have q437 : x10_1 < (l1.length : Int):=of_decide_eq_true (by first|(with_reducible assumption)|assumption)
         obtain ⟨ad437,e437,hx437_0⟩:=Kd.at_string HR1.out x10_1 p437 q437
         cases e437
         replace hx437_0:=(HB.out.cell (World.block_lt_of_cell? w _ hx437_0)).trans hx437_0
         replace p437:=eq_true p437
         replace q437:=eq_true q437
         go_wp2
         go_meet
         case rel=>exact ⟨_,(rdOf ByteArray.empty l1 x10_1),(by first|rfl|(simp;done)|(simp [*];done)),(by first|exact H'|(subst_vars;exact H')),⟨by have:=HK1.out;have:=HJ11.out;first|omega|exact Nat.le_refl _⟩,⟨by (with_reducible repeat (first|apply Kd.N_alloc|apply Kd.N_drewN|apply Kd.N_drew));exact HO_7.out⟩,⟨by (with_reducible repeat (first|apply Kd.R_alloc|apply Kd.R_drewN|apply Kd.R_drew));exact HO_434000.out⟩,⟨by (with_reducible repeat (first|refine blk_drewN ?_ _|refine blk_drew ?_|refine blk_alloc ?_ _));exact BK433.out⟩,⟨by repeat (first|(with_reducible first|exact HB.out|apply below_alloc|apply pw_below_drewN|apply below_drew1|refine below_set ?_ GE433.out)|exact HB.out)⟩⟩
        ·rw [if_neg c17] at H
         exact absurd H (by simp)
       ·rw [if_neg c16] at H
        have c16b0 : decide (x10_1 < (l1.length : Int))=false:=decide_eq_false c16
        clear c16
        (first|rw [c16b0]|(simp only [i64_w,i32_w];rw [c16b0])|skip)
        have H':=Aside0.mk H
        clear H
        go_wp2
        go_meet
        case rel=>exact ⟨_,((⟨#[]⟩ : ByteArray)),(by first|rfl|(simp;done)|(simp [*];done)),(by first|exact H'|(subst_vars;exact H')),⟨by have:=HK1.out;have:=HJ11.out;first|omega|exact Nat.le_refl _⟩,⟨by (with_reducible repeat (first|apply Kd.N_alloc|apply Kd.N_drewN|apply Kd.N_drew));exact HO_7.out⟩,⟨by (with_reducible repeat (first|apply Kd.R_alloc|apply Kd.R_drewN|apply Kd.R_drew));exact HO_434000.out⟩,⟨by (with_reducible repeat (first|refine blk_drewN ?_ _|refine blk_drew ?_|refine blk_alloc ?_ _));exact BK433.out⟩,⟨by repeat (first|(with_reducible first|exact HB.out|apply below_alloc|apply pw_below_drewN|apply below_drew1|refine below_set ?_ GE433.out)|exact HB.out)⟩⟩
      case rest =>
       clear HC15
       try clear c1
       try clear p2
       try clear p4
       try clear q4
       try clear hx4
       try clear c6
       try clear c8
       try clear c13
       try clear c13b0
       try clear c14
       try clear c16
       try clear c16b0
       try clear c17
       try clear c17b0
       try clear hcz9_0
       try clear hcz9_1
       try clear hcz9_2
       try clear hcz9_3
       try clear hfz9_0
       try clear hfz9_1
       try clear hfz9_2
       try clear hfz9_3
       try clear hx437_0
       try clear p2
       try clear p437
       try clear q437
       obtain ⟨kq,x9_14,rfl,HA,HJ14,HO_7,HO_434000,BK433,HB⟩:=hcut
       cases kq with
       | zero=>exact absurd HA.out (by simp [thresherlaw13_FoldSums.j2])
       | succ kj14 =>
        have H:=HA.out
        clear HA
        simp only [thresherlaw13_FoldSums.j2] at H
        by_cases c18 : (x9_14.size : Int) > 60
        ·rw [if_pos c18] at H
         have c18b0 : decide (60 < (x9_14.size : Int))=true:=decide_eq_true c18
         have c18b1 : decide (60 < x9_14.size)=true:=decide_eq_true (by omega)
         clear c18
         by_cases c19 : 0≤60
         ·rw [if_pos c19] at H
          have c19b0:=eq_true c19
          have c19b1 : decide (0≤60)=true:=decide_eq_true c19
          clear c19
          by_cases c20 : 60≤(x9_14.size : Int)
          ·rw [if_pos c20] at H
           have c20b0:=eq_true c20
           have c20b1 : decide (60≤(x9_14.size : Int))=true:=decide_eq_true c20
           clear c20
           by_cases c21 : 0≤x10_1
           ·rw [if_pos c21] at H
            have c21b0 : decide (0≤x10_1)=true:=decide_eq_true c21
            clear c21
            by_cases c22 : x10_1 < (l0.length : Int)
            ·rw [if_pos c22] at H
             have c22b0 : decide (x10_1 < (l0.length : Int))=true:=decide_eq_true c22
             clear c22
             obtain ⟨y440,hy440⟩ : ∃ y_ : List (S45),y_=(([(⟨5,(⟨#[]⟩ : ByteArray)⟩ : S45),(⟨rd l0 x10_1,(⟨#[]⟩ : ByteArray)⟩ : S45),(⟨wrap64 (-(rd l0 x10_1)),(⟨#[]⟩ : ByteArray)⟩ : S45),(⟨0,x9_14.extract 0 60⟩ : S45)] : List (S45))):=⟨_,rfl⟩
             replace H : (if x7_1.length < 5864062014805 then (thresherlaw13_FoldSums.l0 kj14 l0 l1 t429 (x7_1 ++ [y440]) (wrap64 (x8_1 + (rd l0 x10_1))) (x9_14.extract 0 60) (wrap64 (x10_1 + 1)) y430 1 3 1) else (none))=some r:=by first|(rw [hy440];with_reducible exact H)|(have H2_:=(Option.bind_some _ _).symm.trans H;rw [hy440];with_reducible exact H2_)|(have H2_:=(Option.bind_some _ _).symm.trans H;with_reducible exact H2_)|with_reducible exact H|(rw [hy440];exact H)|exact H
             have Ny440:=Aside0.mk hy440
             clear hy440
             by_cases c23 : x7_1.length < 5864062014805
             ·rw [if_pos c23] at H
              have LMc23:=Aside0.mk c23
              clear c23
              obtain ⟨y443,hy443⟩ : ∃ y_ : List (List (S45)),y_=(x7_1 ++ [y440]):=⟨_,rfl⟩
              replace H : (thresherlaw13_FoldSums.l0 kj14 l0 l1 t429 y443 (wrap64 (x8_1 + (rd l0 x10_1))) (x9_14.extract 0 60) (wrap64 (x10_1 + 1)) y430 1 3 1)=some r:=by first|(rw [hy443];with_reducible exact H)|(have H2_:=(Option.bind_some _ _).symm.trans H;rw [hy443];with_reducible exact H2_)|(have H2_:=(Option.bind_some _ _).symm.trans H;with_reducible exact H2_)|with_reducible exact H|(rw [hy443];exact H)|exact H
              have Ny443:=Aside0.mk hy443
              clear hy443
              have H':=Aside0.mk H
              clear H
              try go_wp2
              have n0_:=Aside0.mk (Kd.N_drew HO_7.out)
              have n1_:=Aside0.mk (Kd.R_drew HO_434000.out)
              have n2_:=Aside0.mk (blk_drew BK433.out)
              have n3_:=Aside0.mk (below_drew1 HB.out)
              clear HO_7
              clear HO_434000
              clear BK433
              clear HB
              have HO_7:=n0_
              have HO_434000:=n1_
              have BK433:=n2_
              have HB:=n3_
              clear n0_ n1_ n2_ n3_
              have p438 : 0≤(x10_1 : Int):=of_decide_eq_true (by first|(with_reducible assumption)|assumption)
              have q438 : x10_1 < (l0.length : Int):=of_decide_eq_true (by first|(with_reducible assumption)|assumption)
              obtain ⟨ad438,e438,hx438_0⟩:=Kd.at_int HR0.out x10_1 p438 q438
              have hw438_0:=hx438_0
              cases e438
              replace hx438_0:=(HB.out.cell (World.block_lt_of_cell? w _ hx438_0)).trans hx438_0
              replace p438:=eq_true p438
              replace q438:=eq_true q438
              have p439 : 0≤(x10_1 : Int):=of_decide_eq_true (by first|(with_reducible assumption)|assumption)
              have q439 : x10_1 < (l0.length : Int):=of_decide_eq_true (by first|(with_reducible assumption)|assumption)
              obtain ⟨ad439,e439,hx439_0⟩:=Kd.at_int HR0.out x10_1 p439 q439
              have hw439_0:=hx439_0
              obtain rfl : ad438=ad439:=(by injection e439)
              replace hx439_0:=(HB.out.cell (World.block_lt_of_cell? w _ hx439_0)).trans hx439_0
              replace p439:=eq_true p439
              replace q439:=eq_true q439
              refine start_ (n:=19) (S:=fun w'=>w'.cell? (ad438.add (x10_1).toNat)=some (.int .i64 (rd l0 x10_1))∧w'.cell? (ad438.add (x10_1).toNat)=some (.int .i64 (rd l0 x10_1))) (ds:=[]) #[false,false,false,false,false,false,false,false,false,false,false,false,false,false,false,false,false,false,false] (by kernel_rfl) rfl rfl ⟨((HB.out.cell (World.block_lt_of_cell? w _ hw438_0)).trans hw438_0),((HB.out.cell (World.block_lt_of_cell? w _ hw439_0)).trans hw439_0)⟩ (fun hHeld=>?_);refine with_tabW thresherlaw13_FoldSums.tab14 thresherlaw13_FoldSums.bits14 (fun HT_ HW_=>?_)
              generalize wc.drew=w24 at HO_7 HO_434000 BK433 HB hx438_0 hx439_0 hHeld ⊢
              refine pure_ (i:=0) (N:=some 40) (v:=?_) (a':=?_) #[true,false,false,false,false,false,false,false,false,false,false,false,false,false,false,false,false,false,false] rfl rfl (any_of HT_.out (by kernel_rfl)) (fun _ _ _ h=>h) (Or.inl ⟨by rfl,?_⟩) ?_ ?_
              rotate_left;(intro w';go_simp;with_reducible rfl);rotate_left;(simp only [Act.put,List.setIfInBounds_toArray,List.set_cons_zero,List.set_cons_succ,i64_w,i32_w];rfl)
              refine pure_ (i:=1) (N:=some 41) (v:=?_) (a':=?_) #[true,true,false,false,false,false,false,false,false,false,false,false,false,false,false,false,false,false,false] rfl rfl (any_of HT_.out (by kernel_rfl)) (fun _ _ _ h=>h) (Or.inl ⟨by rfl,?_⟩) ?_ ?_
              rotate_left;(intro w';go_simp;with_reducible rfl);rotate_left;(simp only [Act.put,List.setIfInBounds_toArray,List.set_cons_zero,List.set_cons_succ,i64_w,i32_w];rfl)
              refine pure_ (i:=2) (N:=some 42) (v:=?_) (a':=?_) #[true,true,true,false,false,false,false,false,false,false,false,false,false,false,false,false,false,false,false] rfl rfl (any_of HT_.out (by kernel_rfl)) (fun _ _ _ h=>h) (Or.inl ⟨by rfl,?_⟩) ?_ ?_
              rotate_left;(intro w';go_simp;with_reducible rfl);rotate_left;(simp only [Act.put,List.setIfInBounds_toArray,List.set_cons_zero,List.set_cons_succ,i64_w,i32_w];rfl)
              refine pure_ (i:=3) (N:=some 43) (v:=?_) (a':=?_) #[true,true,true,true,false,false,false,false,false,false,false,false,false,false,false,false,false,false,false] rfl rfl (any_of HT_.out (by kernel_rfl)) (fun _ _ _ h=>h) (Or.inl ⟨by rfl,?_⟩) ?_ ?_
              rotate_left;(intro w';go_simp;with_reducible rfl);rotate_left;(simp only [Act.put,List.setIfInBounds_toArray,List.set_cons_zero,List.set_cons_succ,i64_w,i32_w];rfl)
              refine pure_ (i:=4) (N:=some 44) (v:=?_) (a':=?_) #[true,true,true,true,true,false,false,false,false,false,false,false,false,false,false,false,false,false,false] rfl rfl (any_of HT_.out (by kernel_rfl)) (fun _ _ _ h=>h) (Or.inl ⟨by rfl,?_⟩) ?_ ?_
              rotate_left;(intro w';go_simp;with_reducible rfl);rotate_left;(simp only [Act.put,List.setIfInBounds_toArray,List.set_cons_zero,List.set_cons_succ,i64_w,i32_w];rfl)
              refine pure_ (i:=7) (N:=some 47) (v:=?_) (a':=?_) #[true,true,true,true,true,false,false,true,false,false,false,false,false,false,false,false,false,false,false] rfl rfl (any_of HT_.out (by kernel_rfl)) (fun _ _ _ h=>h) (Or.inl ⟨by rfl,?_⟩) ?_ ?_
              rotate_left;(intro w';go_simp;with_reducible rfl);rotate_left;(simp only [Act.put,List.setIfInBounds_toArray,List.set_cons_zero,List.set_cons_succ,i64_w,i32_w];rfl)
              refine pure_ (i:=8) (N:=some 48) (v:=?_) (a':=?_) #[true,true,true,true,true,false,false,true,true,false,false,false,false,false,false,false,false,false,false] rfl rfl (any_of HT_.out (by kernel_rfl)) (fun _ _ _ h=>h) (Or.inl ⟨by rfl,?_⟩) ?_ ?_
              rotate_left;(intro w';go_simp;with_reducible rfl);rotate_left;(simp only [Act.put,List.setIfInBounds_toArray,List.set_cons_zero,List.set_cons_succ,i64_w,i32_w];rfl)
              refine pure_ (i:=9) (N:=some 49) (v:=?_) (a':=?_) #[true,true,true,true,true,false,false,true,true,true,false,false,false,false,false,false,false,false,false] rfl rfl (any_of HT_.out (by kernel_rfl)) (fun _ _ _ h=>h) (Or.inl ⟨by rfl,?_⟩) ?_ ?_
              rotate_left;(intro w';go_simp;with_reducible rfl);rotate_left;(simp only [Act.put,List.setIfInBounds_toArray,List.set_cons_zero,List.set_cons_succ,i64_w,i32_w];rfl)
              refine pure_ (i:=13) (N:=some 53) (v:=?_) (a':=?_) #[true,true,true,true,true,false,false,true,true,true,false,false,false,true,false,false,false,false,false] rfl rfl (any_of HT_.out (by kernel_rfl)) (fun _ _ _ h=>h) (Or.inl ⟨by rfl,?_⟩) ?_ ?_
              rotate_left;(intro w';go_simp;with_reducible rfl);rotate_left;(simp only [Act.put,List.setIfInBounds_toArray,List.set_cons_zero,List.set_cons_succ,i64_w,i32_w];rfl)
              refine pure_ (i:=14) (N:=some 54) (v:=?_) (a':=?_) #[true,true,true,true,true,false,false,true,true,true,false,false,false,true,true,false,false,false,false] rfl rfl (any_of HT_.out (by kernel_rfl)) (fun _ _ _ h=>h) (Or.inl ⟨by rfl,?_⟩) ?_ ?_
              rotate_left;(intro w';go_simp;with_reducible rfl);rotate_left;(simp only [Act.put,List.setIfInBounds_toArray,List.set_cons_zero,List.set_cons_succ,i64_w,i32_w];rfl)
              refine take_ (i:=5) (N:=some 45) (v:=?_) (a':=?_) #[true,true,true,true,true,true,false,true,true,true,false,false,false,true,true,false,false,false,false] rfl rfl (take_ofW HT_.out HW_.out (by kernel_rfl)) (fun _ _ _ h=>h) (Or.inl ⟨by rfl,?_⟩) hHeld ?_ ?_
              rotate_left;(rintro w' ⟨s0,s1⟩;go_simp;with_reducible rfl);rotate_left;(simp only [Act.put,List.setIfInBounds_toArray,List.set_cons_zero,List.set_cons_succ,i64_w,i32_w];rfl)
              refine pure_ (i:=6) (N:=some 46) (v:=?_) (a':=?_) #[true,true,true,true,true,true,true,true,true,true,false,false,false,true,true,false,false,false,false] rfl rfl (any_of HT_.out (by kernel_rfl)) (fun _ _ _ h=>h) (Or.inl ⟨by rfl,?_⟩) ?_ ?_
              rotate_left;(intro w';go_simp;with_reducible rfl);rotate_left;(simp only [Act.put,List.setIfInBounds_toArray,List.set_cons_zero,List.set_cons_succ,i64_w,i32_w];rfl)
              refine take_ (i:=10) (N:=some 50) (v:=?_) (a':=?_) #[true,true,true,true,true,true,true,true,true,true,true,false,false,true,true,false,false,false,false] rfl rfl (take_ofW HT_.out HW_.out (by kernel_rfl)) (fun _ _ _ h=>h) (Or.inl ⟨by rfl,?_⟩) hHeld ?_ ?_
              rotate_left;(rintro w' ⟨s0,s1⟩;go_simp;with_reducible rfl);rotate_left;(simp only [Act.put,List.setIfInBounds_toArray,List.set_cons_zero,List.set_cons_succ,i64_w,i32_w];rfl)
              refine pure_ (i:=11) (N:=some 51) (v:=?_) (a':=?_) #[true,true,true,true,true,true,true,true,true,true,true,true,false,true,true,false,false,false,false] rfl rfl (any_of HT_.out (by kernel_rfl)) (fun _ _ _ h=>h) (Or.inl ⟨by rfl,?_⟩) ?_ ?_
              rotate_left;(intro w';go_simp;with_reducible rfl);rotate_left;(simp only [Act.put,List.setIfInBounds_toArray,List.set_cons_zero,List.set_cons_succ,i64_w,i32_w];rfl)
              refine pure_ (i:=12) (N:=some 52) (v:=?_) (a':=?_) #[true,true,true,true,true,true,true,true,true,true,true,true,true,true,true,false,false,false,false] rfl rfl (any_of HT_.out (by kernel_rfl)) (fun _ _ _ h=>h) (Or.inl ⟨by rfl,?_⟩) ?_ ?_
              rotate_left;(intro w';go_simp;with_reducible rfl);rotate_left;(simp only [Act.put,List.setIfInBounds_toArray,List.set_cons_zero,List.set_cons_succ,i64_w,i32_w];rfl)
              refine one_ (i:=15) (N:=some 55) #[true,true,true,true,true,true,true,true,true,true,true,true,true,true,true,true,false,false,false] rfl rfl (one_of HT_.out (by kernel_rfl)) (by decide) (fun K hK=>?_)
              refine Kd.R_lit_step k45 _ 45 ?hg (N:=55) ?hd (xs:=([(⟨5,(⟨#[]⟩ : ByteArray)⟩ : S45),(⟨rd l0 x10_1,(⟨#[]⟩ : ByteArray)⟩ : S45),(⟨wrap64 (-(rd l0 x10_1)),(⟨#[]⟩ : ByteArray)⟩ : S45),(⟨0,x9_14.extract 0 60⟩ : S45)] : List (S45))) (inner:=[.int .i64 5,.string (⟨#[]⟩ : ByteArray),.int .i64 (rd l0 x10_1),.string (⟨#[]⟩ : ByteArray),.int .i64 (wrap64 (-(rd l0 x10_1))),.string (⟨#[]⟩ : ByteArray),.int .i64 0,.string (x9_14.extract 0 60)]) (ok:=fun _=>True) (okp:=fun _=>True) ?hr ?hp (fun _ hk=>hk) trivial (Below.refl _ _) (Nat.le_refl _) (by simp) ?_;(case hd=>rfl);(case hg=>rfl);(case hr=>first|(go_simp;done)|(go_simp;rfl));(case hp=>exact (Reps.c2 (show Kd.M k45 _ _ _ (⟨5,(⟨#[]⟩ : ByteArray)⟩ : S45) [.int .i64 5,.string (⟨#[]⟩ : ByteArray)] from (k45_mkM _ _ _ (⟨5,(⟨#[]⟩ : ByteArray)⟩ : S45) )) (Reps.c2 (show Kd.M k45 _ _ _ (⟨rd l0 x10_1,(⟨#[]⟩ : ByteArray)⟩ : S45) [.int .i64 (rd l0 x10_1),.string (⟨#[]⟩ : ByteArray)] from (k45_mkM _ _ _ (⟨rd l0 x10_1,(⟨#[]⟩ : ByteArray)⟩ : S45) )) (Reps.c2 (show Kd.M k45 _ _ _ (⟨wrap64 (-(rd l0 x10_1)),(⟨#[]⟩ : ByteArray)⟩ : S45) [.int .i64 (wrap64 (-(rd l0 x10_1))),.string (⟨#[]⟩ : ByteArray)] from (k45_mkM _ _ _ (⟨wrap64 (-(rd l0 x10_1)),(⟨#[]⟩ : ByteArray)⟩ : S45) )) (Reps.c2 (show Kd.M k45 _ _ _ (⟨0,x9_14.extract 0 60⟩ : S45) [.int .i64 0,.string (x9_14.extract 0 60)] from (k45_mkM _ _ _ (⟨0,x9_14.extract 0 60⟩ : S45) )) (Reps.none _ _))))))
              intro v441 w25 ho26 hb hg_ hnew_
              clear hg_ hnew_
              (first|rw [← Ny440.out] at ho26|(simp only [Int.reduceToNat] at ho26;rw [← Ny440.out] at ho26))
              have n0_:=Aside0.mk (Kd.N_elder' (by (with_reducible repeat (first|apply Kd.N_alloc|apply Kd.N_drewN|apply Kd.N_drew));exact HO_7.out) (Kd.R_base ho26) hb)
              have n1_:=Aside0.mk (Kd.R_below (by (with_reducible repeat (first|apply Kd.R_alloc|apply Kd.R_drewN|apply Kd.R_drew));exact HO_434000.out) hb)
              have n2_:=Aside0.mk (Kd.R_lower ho26 (below_size (by repeat (first|(with_reducible first|exact HB.out|apply below_alloc|apply pw_below_drewN|apply below_drew1|refine below_set ?_ GE433.out)|exact HB.out))))
              have n3_:=Aside0.mk (blk_below (g:=gb433) (o:=.cells #[.slice Ao7 y430.length co7,.int .i64 1,.int .i64 3,.int .i64 1] 29 (0,0)) (by (with_reducible repeat (first|refine blk_drewN ?_ _|refine blk_drew ?_|refine blk_alloc ?_ _));exact BK433.out) hb)
              have n4_:=Aside0.mk (below_step (by repeat (first|(with_reducible first|exact HB.out|apply below_alloc|apply pw_below_drewN|apply below_drew1|refine below_set ?_ GE433.out)|exact HB.out)) hb)
              clear HO_7
              clear HO_434000
              clear BK433
              clear HB
              have HO_7:=n0_
              have HO_434000:=n1_
              have HO442:=n2_
              have BK433:=n3_
              have HB:=n4_
              clear n0_ n1_ n2_ n3_ n4_
              clear hb ho26
              obtain ⟨Ao28,co28,eo28⟩:=Kd.R_slice HO442.out
              (first|subst eo28|(injection eo28 with f1_ f2_ f3_;have f4_:=f1_.symm;have f5_:=f3_.symm;clear f1_ f2_ f3_;subst f4_;subst f5_))
              refine hK.out _ _ ⟨((HB.out.cell (World.block_lt_of_cell? w _ hw438_0)).trans hw438_0),((HB.out.cell (World.block_lt_of_cell? w _ hw439_0)).trans hw439_0)⟩ (fun hHeld=>?_)
              clear hK K
              refine norm_ (a':=?_) ?_ ?_
              rotate_left
              ·show Act.put _ (some 55) _=_
               simp only [Act.put,List.setIfInBounds_toArray,List.set_cons_zero,List.set_cons_succ,i64_w,i32_w]
               rfl
              refine one_ (i:=16) (N:=some 56) #[true,true,true,true,true,true,true,true,true,true,true,true,true,true,true,true,true,false,false] rfl rfl (one_of HT_.out (by kernel_rfl)) (by decide) (fun K hK=>?_)
              refine value_ (w1:=?_) (v:=?_) (by rfl) rfl ?_ ?_
              rotate_left 2
              ·go_simp
               constructor
               ·rfl
               ·rfl
              refine hK.out _ _ ⟨(World.cell?_alloc_lt _ _ _ (World.block_lt_of_cell? _ _ (((HB.out.cell (World.block_lt_of_cell? w _ hw438_0)).trans hw438_0)))).trans (((HB.out.cell (World.block_lt_of_cell? w _ hw438_0)).trans hw438_0)),(World.cell?_alloc_lt _ _ _ (World.block_lt_of_cell? _ _ (((HB.out.cell (World.block_lt_of_cell? w _ hw439_0)).trans hw439_0)))).trans (((HB.out.cell (World.block_lt_of_cell? w _ hw439_0)).trans hw439_0))⟩ (fun hHeld=>?_)
              clear hK K
              refine norm_ (a':=?_) ?_ ?_
              rotate_left
              ·show Act.put _ (some 56) _=_
               simp only [Act.put,List.setIfInBounds_toArray,List.set_cons_zero,List.set_cons_succ,i64_w,i32_w]
               rfl
              refine one_ (i:=17) (N:=some 57) #[true,true,true,true,true,true,true,true,true,true,true,true,true,true,true,true,true,true,false] rfl rfl (one_of HT_.out (by kernel_rfl)) (by decide) (fun K hK=>?_)
              refine Kd.N_append_step (Kd.slice 45 k45) (w0:=w) w.heap.size (by rfl) (.tmp 40) (.tmp 56) 25 36 (.slice none 0 0) 24 rfl Try.underlying25 info36 rfl (by decide) (by omega) u7 x7_1 y440 [.slice Ao28 y440.length co28] (fun k_=>some k_≠(.slice Ao7 y430.length co7 : Value).ownBlock∧k_≠gb433) (fun k_=>((fun k_=>some k_≠(.slice Ao7 y430.length co7 : Value).ownBlock∧k_≠gb433)) k_∧some k_≠(u7 : Value).ownBlock) rfl rfl ?aP (fun _ hk=>hk) ?aF ?aO ?aB ?aS ?aL ?_
              (case aP=>exact (Kd.FK_slice_mk (Kd.R_reads' (Kd.R_mono (ok':=(fun k_=>((fun k_=>some k_≠(.slice Ao7 y430.length co7 : Value).ownBlock∧k_≠gb433)) k_∧some k_≠(u7 : Value).ownBlock)) (Kd.R_types (Kd.R_apart' (Kd.R_apart' (HO442.out) (Kd.R_typed HO_434000.out) (by decide)) (Kd.N_typed HO_7.out) (by decide)) BK433.out (by decide)) (fun k_ hk=>⟨⟨hk.1.1.2,hk.2⟩,hk.1.2⟩))).2.1 (Kd.R_F (Kd.R_mono (ok':=(fun k_=>((fun k_=>some k_≠(.slice Ao7 y430.length co7 : Value).ownBlock∧k_≠gb433)) k_∧some k_≠(u7 : Value).ownBlock)) (Kd.R_types (Kd.R_apart' (Kd.R_apart' (HO442.out) (Kd.R_typed HO_434000.out) (by decide)) (Kd.N_typed HO_7.out) (by decide)) BK433.out (by decide)) (fun k_ hk=>⟨⟨hk.1.1.2,hk.2⟩,hk.1.2⟩)))))
              (case aB=>exact (by repeat (first|(with_reducible first|exact HB.out|apply below_alloc|apply pw_below_drewN|apply below_drew1|refine below_set ?_ GE433.out)|exact HB.out)))
              (case aF=>exact (fun k_ hk=>⟨Kd.fresh' (Kd.R_lt (by (with_reducible repeat (first|apply Kd.R_alloc|apply Kd.R_drewN|apply Kd.R_drew));exact HO_434000.out)) k_ hk,Kd.freshB (g:=gb433) (o:=.cells #[.slice Ao7 y430.length co7,.int .i64 1,.int .i64 3,.int .i64 1] 29 (0,0)) (by (with_reducible repeat (first|refine blk_drewN ?_ _|refine blk_drew ?_|refine blk_alloc ?_ _));exact BK433.out) k_ hk⟩))
              (case aO=>exact (by (with_reducible repeat (first|apply Kd.N_alloc|apply Kd.N_drewN|apply Kd.N_drew));exact Kd.N_mono HO_7.out (fun _ hk=>⟨hk.1.1,hk.1.2⟩)))
              (case aS=>exact (below_size (by repeat (first|(with_reducible first|exact HB.out|apply below_alloc|apply pw_below_drewN|apply below_drew1|refine below_set ?_ GE433.out)|exact HB.out))))
              (case aL=>have:=LMc23.out;omega)
              intro v444 w27 ho hb hg hat
              rw [← Ny443.out] at ho
              have n0_:=Aside0.mk (Kd.R_over' (by (with_reducible repeat (first|apply Kd.R_alloc|apply Kd.R_drewN|apply Kd.R_drew));exact HO_434000.out) (Kd.N_typed (by (with_reducible repeat (first|apply Kd.N_alloc|apply Kd.N_drewN|apply Kd.N_drew));exact HO_7.out)) (by decide) hg)
              have n1_:=Aside0.mk (blk_grown (g:=gb433) (o:=.cells #[.slice Ao7 y430.length co7,.int .i64 1,.int .i64 3,.int .i64 1] 29 (0,0)) (by (with_reducible repeat (first|refine blk_drewN ?_ _|refine blk_drew ?_|refine blk_alloc ?_ _));exact BK433.out) hg (Kd.N_ne HO_7.out BK433.out (by decide)))
              have n2_:=Aside0.mk (hb)
              have n3_:=Aside0.mk (ho)
              clear HO_434000
              clear BK433
              clear HB
              clear HO_7
              clear HO442
              have HO_434000:=n0_
              have BK433:=n1_
              have HB:=n2_
              have HO445:=n3_
              clear n0_ n1_ n2_ n3_
              clear ho hb hg hat
              refine hK.out _ _ ⟨((HB.out.cell (World.block_lt_of_cell? w _ hw438_0)).trans hw438_0),((HB.out.cell (World.block_lt_of_cell? w _ hw439_0)).trans hw439_0)⟩ (fun hHeld=>?_)
              clear hK K
              refine norm_ (a':=?_) ?_ ?_
              rotate_left
              ·show Act.put _ (some 57) _=_
               simp only [Act.put,List.setIfInBounds_toArray,List.set_cons_zero,List.set_cons_succ,i64_w,i32_w]
               rfl
              refine pure_ (i:=18) (N:=some 7) (v:=?_) (a':=?_) #[true,true,true,true,true,true,true,true,true,true,true,true,true,true,true,true,true,true,true] rfl rfl (any_of HT_.out (by kernel_rfl)) (fun _ _ _ h=>h) (Or.inl ⟨by rfl,?_⟩) ?_ ?_
              rotate_left;(intro w';go_simp;with_reducible rfl);rotate_left;(simp only [Act.put,List.setIfInBounds_toArray,List.set_cons_zero,List.set_cons_succ,i64_w,i32_w];rfl)
              refine done_ (done_of HT_.out (by kernel_rfl)) ?_
              (try clear hHeld)
              have p446 : 0≤(x10_1 : Int):=of_decide_eq_true (by first|(with_reducible assumption)|assumption)
              have q446 : x10_1 < (l0.length : Int):=of_decide_eq_true (by first|(with_reducible assumption)|assumption)
              obtain ⟨ad446,e446,hx446_0⟩:=Kd.at_int HR0.out x10_1 p446 q446
              obtain rfl : ad438=ad446:=(by injection e446)
              replace hx446_0:=(HB.out.cell (World.block_lt_of_cell? w _ hx446_0)).trans hx446_0
              replace p446:=eq_true p446
              replace q446:=eq_true q446
              try go_wp2
              go_roundg kj14
              case measure=>have:=HK1.out;have:=HJ11.out;have:=HJ14.out;omega
              case rel=>exact ⟨(y443),(wrap64 (x8_1 + (rd l0 x10_1))),(x9_14.extract 0 60),(wrap64 (x10_1 + 1)),(by first|rfl|(simp;done)|(simp [*];done)),(by first|rfl|(simp;done)|(simp [*];done)),(by first|rfl|(simp;done)|(simp [*];done)),(by first|exact H'|(subst_vars;exact H')),⟨by have:=HK1.out;have:=HJ11.out;have:=HJ14.out;omega⟩,⟨by (with_reducible repeat (first|apply Kd.N_alloc|apply Kd.N_drewN|apply Kd.N_drew));exact HO445.out⟩,⟨by (with_reducible repeat (first|apply Kd.R_alloc|apply Kd.R_drewN|apply Kd.R_drew));exact HO_434000.out⟩,⟨by (with_reducible repeat (first|refine blk_drewN ?_ _|refine blk_drew ?_|refine blk_alloc ?_ _));exact BK433.out⟩,⟨by repeat (first|(with_reducible first|exact HB.out|apply below_alloc|apply pw_below_drewN|apply below_drew1|refine below_set ?_ GE433.out)|exact HB.out)⟩⟩
             ·rw [if_neg c23] at H
              exact absurd H (by simp)
            ·rw [if_neg c22] at H
             exact absurd H (by simp)
           ·rw [if_neg c21] at H
            exact absurd H (by simp)
          ·rw [if_neg c20] at H
           exact absurd H (by simp)
         ·rw [if_neg c19] at H
          exact absurd H (by simp)
        ·rw [if_neg c18] at H
         have c18b0 : decide (60 < (x9_14.size : Int))=false:=decide_eq_false c18
         have c18b1 : decide (60 < x9_14.size)=false:=decide_eq_false (by omega)
         clear c18
         by_cases c29 : 0≤x10_1
         ·rw [if_pos c29] at H
          have c29b0 : decide (0≤x10_1)=true:=decide_eq_true c29
          clear c29
          by_cases c30 : x10_1 < (l0.length : Int)
          ·rw [if_pos c30] at H
           have c30b0 : decide (x10_1 < (l0.length : Int))=true:=decide_eq_true c30
           clear c30
           obtain ⟨y449,hy449⟩ : ∃ y_ : List (S45),y_=(([(⟨5,(⟨#[]⟩ : ByteArray)⟩ : S45),(⟨rd l0 x10_1,(⟨#[]⟩ : ByteArray)⟩ : S45),(⟨wrap64 (-(rd l0 x10_1)),(⟨#[]⟩ : ByteArray)⟩ : S45),(⟨0,x9_14⟩ : S45)] : List (S45))):=⟨_,rfl⟩
           replace H : (if x7_1.length < 5864062014805 then (thresherlaw13_FoldSums.l0 kj14 l0 l1 t429 (x7_1 ++ [y449]) (wrap64 (x8_1 + (rd l0 x10_1))) x9_14 (wrap64 (x10_1 + 1)) y430 1 3 1) else (none))=some r:=by first|(rw [hy449];with_reducible exact H)|(have H2_:=(Option.bind_some _ _).symm.trans H;rw [hy449];with_reducible exact H2_)|(have H2_:=(Option.bind_some _ _).symm.trans H;with_reducible exact H2_)|with_reducible exact H|(rw [hy449];exact H)|exact H
           have Ny449:=Aside0.mk hy449
           clear hy449
           by_cases c31 : x7_1.length < 5864062014805
           ·rw [if_pos c31] at H
            have LMc31:=Aside0.mk c31
            clear c31
            obtain ⟨y452,hy452⟩ : ∃ y_ : List (List (S45)),y_=(x7_1 ++ [y449]):=⟨_,rfl⟩
            replace H : (thresherlaw13_FoldSums.l0 kj14 l0 l1 t429 y452 (wrap64 (x8_1 + (rd l0 x10_1))) x9_14 (wrap64 (x10_1 + 1)) y430 1 3 1)=some r:=by first|(rw [hy452];with_reducible exact H)|(have H2_:=(Option.bind_some _ _).symm.trans H;rw [hy452];with_reducible exact H2_)|(have H2_:=(Option.bind_some _ _).symm.trans H;with_reducible exact H2_)|with_reducible exact H|(rw [hy452];exact H)|exact H
            have Ny452:=Aside0.mk hy452
            clear hy452
            have H':=Aside0.mk H
            clear H
            try go_wp2
            have n0_:=Aside0.mk (Kd.N_drew HO_7.out)
            have n1_:=Aside0.mk (Kd.R_drew HO_434000.out)
            have n2_:=Aside0.mk (blk_drew BK433.out)
            have n3_:=Aside0.mk (below_drew1 HB.out)
            clear HO_7
            clear HO_434000
            clear BK433
            clear HB
            have HO_7:=n0_
            have HO_434000:=n1_
            have BK433:=n2_
            have HB:=n3_
            clear n0_ n1_ n2_ n3_
            have p447 : 0≤(x10_1 : Int):=of_decide_eq_true (by first|(with_reducible assumption)|assumption)
            have q447 : x10_1 < (l0.length : Int):=of_decide_eq_true (by first|(with_reducible assumption)|assumption)
            obtain ⟨ad447,e447,hx447_0⟩:=Kd.at_int HR0.out x10_1 p447 q447
            have hw447_0:=hx447_0
            cases e447
            replace hx447_0:=(HB.out.cell (World.block_lt_of_cell? w _ hx447_0)).trans hx447_0
            replace p447:=eq_true p447
            replace q447:=eq_true q447
            have p448 : 0≤(x10_1 : Int):=of_decide_eq_true (by first|(with_reducible assumption)|assumption)
            have q448 : x10_1 < (l0.length : Int):=of_decide_eq_true (by first|(with_reducible assumption)|assumption)
            obtain ⟨ad448,e448,hx448_0⟩:=Kd.at_int HR0.out x10_1 p448 q448
            have hw448_0:=hx448_0
            obtain rfl : ad447=ad448:=(by injection e448)
            replace hx448_0:=(HB.out.cell (World.block_lt_of_cell? w _ hx448_0)).trans hx448_0
            replace p448:=eq_true p448
            replace q448:=eq_true q448
            refine start_ (n:=19) (S:=fun w'=>w'.cell? (ad447.add (x10_1).toNat)=some (.int .i64 (rd l0 x10_1))∧w'.cell? (ad447.add (x10_1).toNat)=some (.int .i64 (rd l0 x10_1))) (ds:=[]) #[false,false,false,false,false,false,false,false,false,false,false,false,false,false,false,false,false,false,false] (by kernel_rfl) rfl rfl ⟨((HB.out.cell (World.block_lt_of_cell? w _ hw447_0)).trans hw447_0),((HB.out.cell (World.block_lt_of_cell? w _ hw448_0)).trans hw448_0)⟩ (fun hHeld=>?_);refine with_tabW thresherlaw13_FoldSums.tab14 thresherlaw13_FoldSums.bits14 (fun HT_ HW_=>?_)
            generalize wc.drew=w32 at HO_7 HO_434000 BK433 HB hx447_0 hx448_0 hHeld ⊢
            refine pure_ (i:=0) (N:=some 40) (v:=?_) (a':=?_) #[true,false,false,false,false,false,false,false,false,false,false,false,false,false,false,false,false,false,false] rfl rfl (any_of HT_.out (by kernel_rfl)) (fun _ _ _ h=>h) (Or.inl ⟨by rfl,?_⟩) ?_ ?_
            rotate_left;(intro w';go_simp;with_reducible rfl);rotate_left;(simp only [Act.put,List.setIfInBounds_toArray,List.set_cons_zero,List.set_cons_succ,i64_w,i32_w];rfl)
            refine pure_ (i:=1) (N:=some 41) (v:=?_) (a':=?_) #[true,true,false,false,false,false,false,false,false,false,false,false,false,false,false,false,false,false,false] rfl rfl (any_of HT_.out (by kernel_rfl)) (fun _ _ _ h=>h) (Or.inl ⟨by rfl,?_⟩) ?_ ?_
            rotate_left;(intro w';go_simp;with_reducible rfl);rotate_left;(simp only [Act.put,List.setIfInBounds_toArray,List.set_cons_zero,List.set_cons_succ,i64_w,i32_w];rfl)
            refine pure_ (i:=2) (N:=some 42) (v:=?_) (a':=?_) #[true,true,true,false,false,false,false,false,false,false,false,false,false,false,false,false,false,false,false] rfl rfl (any_of HT_.out (by kernel_rfl)) (fun _ _ _ h=>h) (Or.inl ⟨by rfl,?_⟩) ?_ ?_
            rotate_left;(intro w';go_simp;with_reducible rfl);rotate_left;(simp only [Act.put,List.setIfInBounds_toArray,List.set_cons_zero,List.set_cons_succ,i64_w,i32_w];rfl)
            refine pure_ (i:=3) (N:=some 43) (v:=?_) (a':=?_) #[true,true,true,true,false,false,false,false,false,false,false,false,false,false,false,false,false,false,false] rfl rfl (any_of HT_.out (by kernel_rfl)) (fun _ _ _ h=>h) (Or.inl ⟨by rfl,?_⟩) ?_ ?_
            rotate_left;(intro w';go_simp;with_reducible rfl);rotate_left;(simp only [Act.put,List.setIfInBounds_toArray,List.set_cons_zero,List.set_cons_succ,i64_w,i32_w];rfl)
            refine pure_ (i:=4) (N:=some 44) (v:=?_) (a':=?_) #[true,true,true,true,true,false,false,false,false,false,false,false,false,false,false,false,false,false,false] rfl rfl (any_of HT_.out (by kernel_rfl)) (fun _ _ _ h=>h) (Or.inl ⟨by rfl,?_⟩) ?_ ?_
            rotate_left;(intro w';go_simp;with_reducible rfl);rotate_left;(simp only [Act.put,List.setIfInBounds_toArray,List.set_cons_zero,List.set_cons_succ,i64_w,i32_w];rfl)
            refine pure_ (i:=7) (N:=some 47) (v:=?_) (a':=?_) #[true,true,true,true,true,false,false,true,false,false,false,false,false,false,false,false,false,false,false] rfl rfl (any_of HT_.out (by kernel_rfl)) (fun _ _ _ h=>h) (Or.inl ⟨by rfl,?_⟩) ?_ ?_
            rotate_left;(intro w';go_simp;with_reducible rfl);rotate_left;(simp only [Act.put,List.setIfInBounds_toArray,List.set_cons_zero,List.set_cons_succ,i64_w,i32_w];rfl)
            refine pure_ (i:=8) (N:=some 48) (v:=?_) (a':=?_) #[true,true,true,true,true,false,false,true,true,false,false,false,false,false,false,false,false,false,false] rfl rfl (any_of HT_.out (by kernel_rfl)) (fun _ _ _ h=>h) (Or.inl ⟨by rfl,?_⟩) ?_ ?_
            rotate_left;(intro w';go_simp;with_reducible rfl);rotate_left;(simp only [Act.put,List.setIfInBounds_toArray,List.set_cons_zero,List.set_cons_succ,i64_w,i32_w];rfl)
            refine pure_ (i:=9) (N:=some 49) (v:=?_) (a':=?_) #[true,true,true,true,true,false,false,true,true,true,false,false,false,false,false,false,false,false,false] rfl rfl (any_of HT_.out (by kernel_rfl)) (fun _ _ _ h=>h) (Or.inl ⟨by rfl,?_⟩) ?_ ?_
            rotate_left;(intro w';go_simp;with_reducible rfl);rotate_left;(simp only [Act.put,List.setIfInBounds_toArray,List.set_cons_zero,List.set_cons_succ,i64_w,i32_w];rfl)
            refine pure_ (i:=13) (N:=some 53) (v:=?_) (a':=?_) #[true,true,true,true,true,false,false,true,true,true,false,false,false,true,false,false,false,false,false] rfl rfl (any_of HT_.out (by kernel_rfl)) (fun _ _ _ h=>h) (Or.inl ⟨by rfl,?_⟩) ?_ ?_
            rotate_left;(intro w';go_simp;with_reducible rfl);rotate_left;(simp only [Act.put,List.setIfInBounds_toArray,List.set_cons_zero,List.set_cons_succ,i64_w,i32_w];rfl)
            refine pure_ (i:=14) (N:=some 54) (v:=?_) (a':=?_) #[true,true,true,true,true,false,false,true,true,true,false,false,false,true,true,false,false,false,false] rfl rfl (any_of HT_.out (by kernel_rfl)) (fun _ _ _ h=>h) (Or.inl ⟨by rfl,?_⟩) ?_ ?_
            rotate_left;(intro w';go_simp;with_reducible rfl);rotate_left;(simp only [Act.put,List.setIfInBounds_toArray,List.set_cons_zero,List.set_cons_succ,i64_w,i32_w];rfl)
            refine take_ (i:=5) (N:=some 45) (v:=?_) (a':=?_) #[true,true,true,true,true,true,false,true,true,true,false,false,false,true,true,false,false,false,false] rfl rfl (take_ofW HT_.out HW_.out (by kernel_rfl)) (fun _ _ _ h=>h) (Or.inl ⟨by rfl,?_⟩) hHeld ?_ ?_
            rotate_left;(rintro w' ⟨s0,s1⟩;go_simp;with_reducible rfl);rotate_left;(simp only [Act.put,List.setIfInBounds_toArray,List.set_cons_zero,List.set_cons_succ,i64_w,i32_w];rfl)
            refine pure_ (i:=6) (N:=some 46) (v:=?_) (a':=?_) #[true,true,true,true,true,true,true,true,true,true,false,false,false,true,true,false,false,false,false] rfl rfl (any_of HT_.out (by kernel_rfl)) (fun _ _ _ h=>h) (Or.inl ⟨by rfl,?_⟩) ?_ ?_
            rotate_left;(intro w';go_simp;with_reducible rfl);rotate_left;(simp only [Act.put,List.setIfInBounds_toArray,List.set_cons_zero,List.set_cons_succ,i64_w,i32_w];rfl)
            refine take_ (i:=10) (N:=some 50) (v:=?_) (a':=?_) #[true,true,true,true,true,true,true,true,true,true,true,false,false,true,true,false,false,false,false] rfl rfl (take_ofW HT_.out HW_.out (by kernel_rfl)) (fun _ _ _ h=>h) (Or.inl ⟨by rfl,?_⟩) hHeld ?_ ?_
            rotate_left;(rintro w' ⟨s0,s1⟩;go_simp;with_reducible rfl);rotate_left;(simp only [Act.put,List.setIfInBounds_toArray,List.set_cons_zero,List.set_cons_succ,i64_w,i32_w];rfl)
            refine pure_ (i:=11) (N:=some 51) (v:=?_) (a':=?_) #[true,true,true,true,true,true,true,true,true,true,true,true,false,true,true,false,false,false,false] rfl rfl (any_of HT_.out (by kernel_rfl)) (fun _ _ _ h=>h) (Or.inl ⟨by rfl,?_⟩) ?_ ?_
            rotate_left;(intro w';go_simp;with_reducible rfl);rotate_left;(simp only [Act.put,List.setIfInBounds_toArray,List.set_cons_zero,List.set_cons_succ,i64_w,i32_w];rfl)
            refine pure_ (i:=12) (N:=some 52) (v:=?_) (a':=?_) #[true,true,true,true,true,true,true,true,true,true,true,true,true,true,true,false,false,false,false] rfl rfl (any_of HT_.out (by kernel_rfl)) (fun _ _ _ h=>h) (Or.inl ⟨by rfl,?_⟩) ?_ ?_
            rotate_left;(intro w';go_simp;with_reducible rfl);rotate_left;(simp only [Act.put,List.setIfInBounds_toArray,List.set_cons_zero,List.set_cons_succ,i64_w,i32_w];rfl)
            refine one_ (i:=15) (N:=some 55) #[true,true,true,true,true,true,true,true,true,true,true,true,true,true,true,true,false,false,false] rfl rfl (one_of HT_.out (by kernel_rfl)) (by decide) (fun K hK=>?_)
            refine Kd.R_lit_step k45 _ 45 ?hg (N:=55) ?hd (xs:=([(⟨5,(⟨#[]⟩ : ByteArray)⟩ : S45),(⟨rd l0 x10_1,(⟨#[]⟩ : ByteArray)⟩ : S45),(⟨wrap64 (-(rd l0 x10_1)),(⟨#[]⟩ : ByteArray)⟩ : S45),(⟨0,x9_14⟩ : S45)] : List (S45))) (inner:=[.int .i64 5,.string (⟨#[]⟩ : ByteArray),.int .i64 (rd l0 x10_1),.string (⟨#[]⟩ : ByteArray),.int .i64 (wrap64 (-(rd l0 x10_1))),.string (⟨#[]⟩ : ByteArray),.int .i64 0,.string x9_14]) (ok:=fun _=>True) (okp:=fun _=>True) ?hr ?hp (fun _ hk=>hk) trivial (Below.refl _ _) (Nat.le_refl _) (by simp) ?_;(case hd=>rfl);(case hg=>rfl);(case hr=>first|(go_simp;done)|(go_simp;rfl));(case hp=>exact (Reps.c2 (show Kd.M k45 _ _ _ (⟨5,(⟨#[]⟩ : ByteArray)⟩ : S45) [.int .i64 5,.string (⟨#[]⟩ : ByteArray)] from (k45_mkM _ _ _ (⟨5,(⟨#[]⟩ : ByteArray)⟩ : S45) )) (Reps.c2 (show Kd.M k45 _ _ _ (⟨rd l0 x10_1,(⟨#[]⟩ : ByteArray)⟩ : S45) [.int .i64 (rd l0 x10_1),.string (⟨#[]⟩ : ByteArray)] from (k45_mkM _ _ _ (⟨rd l0 x10_1,(⟨#[]⟩ : ByteArray)⟩ : S45) )) (Reps.c2 (show Kd.M k45 _ _ _ (⟨wrap64 (-(rd l0 x10_1)),(⟨#[]⟩ : ByteArray)⟩ : S45) [.int .i64 (wrap64 (-(rd l0 x10_1))),.string (⟨#[]⟩ : ByteArray)] from (k45_mkM _ _ _ (⟨wrap64 (-(rd l0 x10_1)),(⟨#[]⟩ : ByteArray)⟩ : S45) )) (Reps.c2 (show Kd.M k45 _ _ _ (⟨0,x9_14⟩ : S45) [.int .i64 0,.string x9_14] from (k45_mkM _ _ _ (⟨0,x9_14⟩ : S45) )) (Reps.none _ _))))))
            intro v450 w33 ho34 hb hg_ hnew_
            clear hg_ hnew_
            (first|rw [← Ny449.out] at ho34|(simp only [Int.reduceToNat] at ho34;rw [← Ny449.out] at ho34))
            have n0_:=Aside0.mk (Kd.N_elder' (by (with_reducible repeat (first|apply Kd.N_alloc|apply Kd.N_drewN|apply Kd.N_drew));exact HO_7.out) (Kd.R_base ho34) hb)
            have n1_:=Aside0.mk (Kd.R_below (by (with_reducible repeat (first|apply Kd.R_alloc|apply Kd.R_drewN|apply Kd.R_drew));exact HO_434000.out) hb)
            have n2_:=Aside0.mk (Kd.R_lower ho34 (below_size (by repeat (first|(with_reducible first|exact HB.out|apply below_alloc|apply pw_below_drewN|apply below_drew1|refine below_set ?_ GE433.out)|exact HB.out))))
            have n3_:=Aside0.mk (blk_below (g:=gb433) (o:=.cells #[.slice Ao7 y430.length co7,.int .i64 1,.int .i64 3,.int .i64 1] 29 (0,0)) (by (with_reducible repeat (first|refine blk_drewN ?_ _|refine blk_drew ?_|refine blk_alloc ?_ _));exact BK433.out) hb)
            have n4_:=Aside0.mk (below_step (by repeat (first|(with_reducible first|exact HB.out|apply below_alloc|apply pw_below_drewN|apply below_drew1|refine below_set ?_ GE433.out)|exact HB.out)) hb)
            clear HO_7
            clear HO_434000
            clear BK433
            clear HB
            have HO_7:=n0_
            have HO_434000:=n1_
            have HO451:=n2_
            have BK433:=n3_
            have HB:=n4_
            clear n0_ n1_ n2_ n3_ n4_
            clear hb ho34
            obtain ⟨Ao36,co36,eo36⟩:=Kd.R_slice HO451.out
            (first|subst eo36|(injection eo36 with f1_ f2_ f3_;have f4_:=f1_.symm;have f5_:=f3_.symm;clear f1_ f2_ f3_;subst f4_;subst f5_))
            refine hK.out _ _ ⟨((HB.out.cell (World.block_lt_of_cell? w _ hw447_0)).trans hw447_0),((HB.out.cell (World.block_lt_of_cell? w _ hw448_0)).trans hw448_0)⟩ (fun hHeld=>?_)
            clear hK K
            refine norm_ (a':=?_) ?_ ?_
            rotate_left
            ·show Act.put _ (some 55) _=_
             simp only [Act.put,List.setIfInBounds_toArray,List.set_cons_zero,List.set_cons_succ,i64_w,i32_w]
             rfl
            refine one_ (i:=16) (N:=some 56) #[true,true,true,true,true,true,true,true,true,true,true,true,true,true,true,true,true,false,false] rfl rfl (one_of HT_.out (by kernel_rfl)) (by decide) (fun K hK=>?_)
            refine value_ (w1:=?_) (v:=?_) (by rfl) rfl ?_ ?_
            rotate_left 2
            ·go_simp
             constructor
             ·rfl
             ·rfl
            refine hK.out _ _ ⟨(World.cell?_alloc_lt _ _ _ (World.block_lt_of_cell? _ _ (((HB.out.cell (World.block_lt_of_cell? w _ hw447_0)).trans hw447_0)))).trans (((HB.out.cell (World.block_lt_of_cell? w _ hw447_0)).trans hw447_0)),(World.cell?_alloc_lt _ _ _ (World.block_lt_of_cell? _ _ (((HB.out.cell (World.block_lt_of_cell? w _ hw448_0)).trans hw448_0)))).trans (((HB.out.cell (World.block_lt_of_cell? w _ hw448_0)).trans hw448_0))⟩ (fun hHeld=>?_)
            clear hK K
            refine norm_ (a':=?_) ?_ ?_
            rotate_left
            ·show Act.put _ (some 56) _=_
             simp only [Act.put,List.setIfInBounds_toArray,List.set_cons_zero,List.set_cons_succ,i64_w,i32_w]
             rfl
            refine one_ (i:=17) (N:=some 57) #[true,true,true,true,true,true,true,true,true,true,true,true,true,true,true,true,true,true,false] rfl rfl (one_of HT_.out (by kernel_rfl)) (by decide) (fun K hK=>?_)
            refine Kd.N_append_step (Kd.slice 45 k45) (w0:=w) w.heap.size (by rfl) (.tmp 40) (.tmp 56) 25 36 (.slice none 0 0) 24 rfl Try.underlying25 info36 rfl (by decide) (by omega) u7 x7_1 y449 [.slice Ao36 y449.length co36] (fun k_=>some k_≠(.slice Ao7 y430.length co7 : Value).ownBlock∧k_≠gb433) (fun k_=>((fun k_=>some k_≠(.slice Ao7 y430.length co7 : Value).ownBlock∧k_≠gb433)) k_∧some k_≠(u7 : Value).ownBlock) rfl rfl ?aP (fun _ hk=>hk) ?aF ?aO ?aB ?aS ?aL ?_
            (case aP=>exact (Kd.FK_slice_mk (Kd.R_reads' (Kd.R_mono (ok':=(fun k_=>((fun k_=>some k_≠(.slice Ao7 y430.length co7 : Value).ownBlock∧k_≠gb433)) k_∧some k_≠(u7 : Value).ownBlock)) (Kd.R_types (Kd.R_apart' (Kd.R_apart' (HO451.out) (Kd.R_typed HO_434000.out) (by decide)) (Kd.N_typed HO_7.out) (by decide)) BK433.out (by decide)) (fun k_ hk=>⟨⟨hk.1.1.2,hk.2⟩,hk.1.2⟩))).2.1 (Kd.R_F (Kd.R_mono (ok':=(fun k_=>((fun k_=>some k_≠(.slice Ao7 y430.length co7 : Value).ownBlock∧k_≠gb433)) k_∧some k_≠(u7 : Value).ownBlock)) (Kd.R_types (Kd.R_apart' (Kd.R_apart' (HO451.out) (Kd.R_typed HO_434000.out) (by decide)) (Kd.N_typed HO_7.out) (by decide)) BK433.out (by decide)) (fun k_ hk=>⟨⟨hk.1.1.2,hk.2⟩,hk.1.2⟩)))))
            (case aB=>exact (by repeat (first|(with_reducible first|exact HB.out|apply below_alloc|apply pw_below_drewN|apply below_drew1|refine below_set ?_ GE433.out)|exact HB.out)))
            (case aF=>exact (fun k_ hk=>⟨Kd.fresh' (Kd.R_lt (by (with_reducible repeat (first|apply Kd.R_alloc|apply Kd.R_drewN|apply Kd.R_drew));exact HO_434000.out)) k_ hk,Kd.freshB (g:=gb433) (o:=.cells #[.slice Ao7 y430.length co7,.int .i64 1,.int .i64 3,.int .i64 1] 29 (0,0)) (by (with_reducible repeat (first|refine blk_drewN ?_ _|refine blk_drew ?_|refine blk_alloc ?_ _));exact BK433.out) k_ hk⟩))
            (case aO=>exact (by (with_reducible repeat (first|apply Kd.N_alloc|apply Kd.N_drewN|apply Kd.N_drew));exact Kd.N_mono HO_7.out (fun _ hk=>⟨hk.1.1,hk.1.2⟩)))
            (case aS=>exact (below_size (by repeat (first|(with_reducible first|exact HB.out|apply below_alloc|apply pw_below_drewN|apply below_drew1|refine below_set ?_ GE433.out)|exact HB.out))))
            (case aL=>have:=LMc31.out;omega)
            intro v453 w35 ho hb hg hat
            rw [← Ny452.out] at ho
            have n0_:=Aside0.mk (Kd.R_over' (by (with_reducible repeat (first|apply Kd.R_alloc|apply Kd.R_drewN|apply Kd.R_drew));exact HO_434000.out) (Kd.N_typed (by (with_reducible repeat (first|apply Kd.N_alloc|apply Kd.N_drewN|apply Kd.N_drew));exact HO_7.out)) (by decide) hg)
            have n1_:=Aside0.mk (blk_grown (g:=gb433) (o:=.cells #[.slice Ao7 y430.length co7,.int .i64 1,.int .i64 3,.int .i64 1] 29 (0,0)) (by (with_reducible repeat (first|refine blk_drewN ?_ _|refine blk_drew ?_|refine blk_alloc ?_ _));exact BK433.out) hg (Kd.N_ne HO_7.out BK433.out (by decide)))
            have n2_:=Aside0.mk (hb)
            have n3_:=Aside0.mk (ho)
            clear HO_434000
            clear BK433
            clear HB
            clear HO_7
            clear HO451
            have HO_434000:=n0_
            have BK433:=n1_
            have HB:=n2_
            have HO454:=n3_
            clear n0_ n1_ n2_ n3_
            clear ho hb hg hat
            refine hK.out _ _ ⟨((HB.out.cell (World.block_lt_of_cell? w _ hw447_0)).trans hw447_0),((HB.out.cell (World.block_lt_of_cell? w _ hw448_0)).trans hw448_0)⟩ (fun hHeld=>?_)
            clear hK K
            refine norm_ (a':=?_) ?_ ?_
            rotate_left
            ·show Act.put _ (some 57) _=_
             simp only [Act.put,List.setIfInBounds_toArray,List.set_cons_zero,List.set_cons_succ,i64_w,i32_w]
             rfl
            refine pure_ (i:=18) (N:=some 7) (v:=?_) (a':=?_) #[true,true,true,true,true,true,true,true,true,true,true,true,true,true,true,true,true,true,true] rfl rfl (any_of HT_.out (by kernel_rfl)) (fun _ _ _ h=>h) (Or.inl ⟨by rfl,?_⟩) ?_ ?_
            rotate_left;(intro w';go_simp;with_reducible rfl);rotate_left;(simp only [Act.put,List.setIfInBounds_toArray,List.set_cons_zero,List.set_cons_succ,i64_w,i32_w];rfl)
            refine done_ (done_of HT_.out (by kernel_rfl)) ?_
            (try clear hHeld)
            have p455 : 0≤(x10_1 : Int):=of_decide_eq_true (by first|(with_reducible assumption)|assumption)
            have q455 : x10_1 < (l0.length : Int):=of_decide_eq_true (by first|(with_reducible assumption)|assumption)
            obtain ⟨ad455,e455,hx455_0⟩:=Kd.at_int HR0.out x10_1 p455 q455
            obtain rfl : ad447=ad455:=(by injection e455)
            replace hx455_0:=(HB.out.cell (World.block_lt_of_cell? w _ hx455_0)).trans hx455_0
            replace p455:=eq_true p455
            replace q455:=eq_true q455
            try go_wp2
            go_roundg kj14
            case measure=>have:=HK1.out;have:=HJ11.out;have:=HJ14.out;omega
            case rel=>exact ⟨(y452),(wrap64 (x8_1 + (rd l0 x10_1))),(x9_14),(wrap64 (x10_1 + 1)),(by first|rfl|(simp;done)|(simp [*];done)),(by first|rfl|(simp;done)|(simp [*];done)),(by first|rfl|(simp;done)|(simp [*];done)),(by first|exact H'|(subst_vars;exact H')),⟨by have:=HK1.out;have:=HJ11.out;have:=HJ14.out;omega⟩,⟨by (with_reducible repeat (first|apply Kd.N_alloc|apply Kd.N_drewN|apply Kd.N_drew));exact HO454.out⟩,⟨by (with_reducible repeat (first|apply Kd.R_alloc|apply Kd.R_drewN|apply Kd.R_drew));exact HO_434000.out⟩,⟨by (with_reducible repeat (first|refine blk_drewN ?_ _|refine blk_drew ?_|refine blk_alloc ?_ _));exact BK433.out⟩,⟨by repeat (first|(with_reducible first|exact HB.out|apply below_alloc|apply pw_below_drewN|apply below_drew1|refine below_set ?_ GE433.out)|exact HB.out)⟩⟩
           ·rw [if_neg c31] at H
            exact absurd H (by simp)
          ·rw [if_neg c30] at H
           exact absurd H (by simp)
         ·rw [if_neg c29] at H
          exact absurd H (by simp)
     ·replace c14:=Bool.eq_false_iff.mpr c14
      subst c14
      have H1 : ((fold_Rows.f kj11 y430 1 3 1 x7_1).bind fun t456=>(if (x7_1.length : Int)=0 then (if t429=true then (some ((t456.length : Int) == 0)) else (some false)) else (if t429=true then (if (t456.length : Int)=1 then (if 0 < (t456.length : Int) then ((thresherref04_One.f kj11 (rd_L5 t456 0) (([(⟨5,(⟨#[]⟩ : ByteArray)⟩ : S45),(⟨x8_1,(⟨#[]⟩ : ByteArray)⟩ : S45),(⟨wrap64 (-x8_1),(⟨#[]⟩ : ByteArray)⟩ : S45),(⟨0,x9_1⟩ : S45)] : List (S45)))).bind fun t463=>(some t463)) else (none)) else (some false)) else (some false))))=some r:=by rw [if_neg (show ¬ (false=true) by decide)] at H;exact H
      clear H
      have H:=H1
      clear H1
      replace H:=Option.bind_eq_some_iff.mp H
      obtain ⟨t456,A370,H⟩:=H
      replace H : (if (x7_1.length : Int)=0 then (if t429=true then (some ((t456.length : Int) == 0)) else (some false)) else (if t429=true then (if (t456.length : Int)=1 then (if 0 < (t456.length : Int) then ((thresherref04_One.f kj11 (rd_L5 t456 0) (([(⟨5,(⟨#[]⟩ : ByteArray)⟩ : S45),(⟨x8_1,(⟨#[]⟩ : ByteArray)⟩ : S45),(⟨wrap64 (-x8_1),(⟨#[]⟩ : ByteArray)⟩ : S45),(⟨0,x9_1⟩ : S45)] : List (S45)))).bind fun t463=>(some t463)) else (none)) else (some false)) else (some false)))=some r:=H
      have A37:=Aside0.mk A370
      clear A370
      by_cases c38 : (x7_1.length : Int)=0
      ·rw [if_pos c38] at H
       have c38b0 : ((x7_1.length : Int) == 0)=true:=beq_iff_eq.mpr c38
       have c38b1 : ((x7_1.length : Int) != 0)=false:=bne_eq_false_iff_eq.mpr c38
       clear c38
       by_cases c39 : t429=true
       ·subst c39
        have H1 : (some ((t456.length : Int) == 0))=some r:=by rw [if_pos rfl] at H;exact H
        clear H
        have H:=H1
        clear H1
        obtain rfl:=Option.some.inj H
        have hcz40_0 : wc.cell? ⟨gb433,0,none⟩=some (.slice Ao7 y430.length co7):=(blk_cell BK433.out 0).trans rfl
        have hcz40_1 : wc.cell? ⟨gb433,1,none⟩=some (.int .i64 1):=(blk_cell BK433.out 1).trans rfl
        have hcz40_2 : wc.cell? ⟨gb433,2,none⟩=some (.int .i64 3):=(blk_cell BK433.out 2).trans rfl
        have hcz40_3 : wc.cell? ⟨gb433,3,none⟩=some (.int .i64 1):=(blk_cell BK433.out 3).trans rfl
        have hfz40_0:=blk_frozen BK433.out 0
        have hfz40_1:=blk_frozen BK433.out 1
        have hfz40_2:=blk_frozen BK433.out 2
        have hfz40_3:=blk_frozen BK433.out 3
        obtain ⟨Ao41,co41,eo41⟩:=Kd.N_slice HO_7.out
        subst eo41
        go_wp2_with (first|((with_reducible refine gate_callee (f:=13) rfl ?_);refine goesL_ (some 66) rfl rfl Try.func13 (by kernel_rfl) rfl #[.agg #[.slice Ao7 y430.length co7,.int .i64 1,.int .i64 3,.int .i64 1],.slice Ao41 x7_1.length co41] rfl (by (try simp only [List.map_toArray,List.map_cons,List.map_nil]);first|done|rfl|(simp only [List.length_drop,List.length_take];rfl)) ?_;(with_reducible refine (fold_Rows.calls kj11 _ _ y430 1 3 1 (fun k_=>(some k_≠(.slice Ao7 y430.length co7 : Value).ownBlock∧k_≠gb433)) _ _ x7_1 t456 _ ?side1 ?side2 ?side3 A37.out).mono ?_);(case side1=>repeat (first|exact (Kd.R_reads' HO_434000.out).2.2|(with_reducible refine Kd.C_alloc ?_ _)|(with_reducible refine Kd.C_drewN ?_ _)|(with_reducible refine Kd.C_drew ?_)));(case side2=>exact (Kd.R_reads' HO_434000.out).2.1);(case side3=>exact Kd.N_V (HO_7.out));rintro e w42 ⟨v457,rfl,ho0,hb⟩;refine ⟨_,rfl,?_⟩;have n0_:=Aside0.mk (Kd.N_elder' (by (with_reducible repeat (first|apply Kd.N_alloc|apply Kd.N_drewN|apply Kd.N_drew));exact HO_7.out) (by first|exact Kd.N_base ho0|exact Kd.S_base ho0) hb);have n1_:=Aside0.mk (Kd.R_below (by (with_reducible repeat (first|apply Kd.R_alloc|apply Kd.R_drewN|apply Kd.R_drew));exact HO_434000.out) hb);have n2_:=Aside0.mk (Kd.N_lower (Kd.N_mono (ok':=fun k_=>some k_≠(.slice Ao7 y430.length co7 : Value).ownBlock∧k_≠gb433) ho0 (fun k_ hk_=>⟨Or.elim hk_ (fun hs_=>hs_.1) (fun hn_=>(Kd.fresh' (Kd.R_lt (by (with_reducible repeat (first|apply Kd.R_alloc|apply Kd.R_drewN|apply Kd.R_drew));exact HO_434000.out)) k_ hn_)),Or.elim hk_ (fun hs_=>hs_.2) (fun hn_=>(Kd.freshB (g:=gb433) (o:=.cells #[.slice Ao7 y430.length co7,.int .i64 1,.int .i64 3,.int .i64 1] 29 (0,0)) (by (with_reducible repeat (first|refine blk_drewN ?_ _|refine blk_drew ?_|refine blk_alloc ?_ _));exact BK433.out) k_ hn_))⟩)) (below_size (by repeat (first|(with_reducible first|exact HB.out|apply below_alloc|apply pw_below_drewN|apply below_drew1|refine below_set ?_ GE433.out)|exact HB.out))));have n3_:=Aside0.mk (blk_below (g:=gb433) (o:=.cells #[.slice Ao7 y430.length co7,.int .i64 1,.int .i64 3,.int .i64 1] 29 (0,0)) (by (with_reducible repeat (first|refine blk_drewN ?_ _|refine blk_drew ?_|refine blk_alloc ?_ _));exact BK433.out) hb);have n4_:=Aside0.mk (below_step (by repeat (first|(with_reducible first|exact HB.out|apply below_alloc|apply pw_below_drewN|apply below_drew1|refine below_set ?_ GE433.out)|exact HB.out)) hb);clear HO_7;clear HO_434000;clear BK433;clear HB;have HO_7:=n0_;have HO_434000:=n1_;have HO458:=n2_;have BK433:=n3_;have HB:=n4_;clear n0_ n1_ n2_ n3_ n4_;(try clear hb);(try clear hb2);(try clear hk);(try clear hi);(try clear ho0);obtain ⟨Ao43,co43,eo43⟩:=Kd.N_slice HO458.out;subst eo43))
        go_ret
        exact ⟨by first|rfl|(simp [errW_none,errW_some] <;> rfl)|(simp [*,errW_none,errW_some] <;> rfl),by repeat (first|(with_reducible first|exact HB.out|apply below_alloc|apply pw_below_drewN|apply below_drew1|refine below_set ?_ GE433.out)|exact HB.out)⟩
       ·replace c39:=Bool.eq_false_iff.mpr c39
        subst c39
        have H1 : (some false)=some r:=by rw [if_neg (show ¬ (false=true) by decide)] at H;exact H
        clear H
        have H:=H1
        clear H1
        obtain rfl:=Option.some.inj H
        have hcz44_0 : wc.cell? ⟨gb433,0,none⟩=some (.slice Ao7 y430.length co7):=(blk_cell BK433.out 0).trans rfl
        have hcz44_1 : wc.cell? ⟨gb433,1,none⟩=some (.int .i64 1):=(blk_cell BK433.out 1).trans rfl
        have hcz44_2 : wc.cell? ⟨gb433,2,none⟩=some (.int .i64 3):=(blk_cell BK433.out 2).trans rfl
        have hcz44_3 : wc.cell? ⟨gb433,3,none⟩=some (.int .i64 1):=(blk_cell BK433.out 3).trans rfl
        have hfz44_0:=blk_frozen BK433.out 0
        have hfz44_1:=blk_frozen BK433.out 1
        have hfz44_2:=blk_frozen BK433.out 2
        have hfz44_3:=blk_frozen BK433.out 3
        obtain ⟨Ao45,co45,eo45⟩:=Kd.N_slice HO_7.out
        subst eo45
        go_wp2_with (first|((with_reducible refine gate_callee (f:=13) rfl ?_);refine goesL_ (some 66) rfl rfl Try.func13 (by kernel_rfl) rfl #[.agg #[.slice Ao7 y430.length co7,.int .i64 1,.int .i64 3,.int .i64 1],.slice Ao45 x7_1.length co45] rfl (by (try simp only [List.map_toArray,List.map_cons,List.map_nil]);first|done|rfl|(simp only [List.length_drop,List.length_take];rfl)) ?_;(with_reducible refine (fold_Rows.calls kj11 _ _ y430 1 3 1 (fun k_=>(some k_≠(.slice Ao7 y430.length co7 : Value).ownBlock∧k_≠gb433)) _ _ x7_1 t456 _ ?side1 ?side2 ?side3 A37.out).mono ?_);(case side1=>repeat (first|exact (Kd.R_reads' HO_434000.out).2.2|(with_reducible refine Kd.C_alloc ?_ _)|(with_reducible refine Kd.C_drewN ?_ _)|(with_reducible refine Kd.C_drew ?_)));(case side2=>exact (Kd.R_reads' HO_434000.out).2.1);(case side3=>exact Kd.N_V (HO_7.out));rintro e w46 ⟨v457,rfl,ho0,hb⟩;refine ⟨_,rfl,?_⟩;have n0_:=Aside0.mk (Kd.N_elder' (by (with_reducible repeat (first|apply Kd.N_alloc|apply Kd.N_drewN|apply Kd.N_drew));exact HO_7.out) (by first|exact Kd.N_base ho0|exact Kd.S_base ho0) hb);have n1_:=Aside0.mk (Kd.R_below (by (with_reducible repeat (first|apply Kd.R_alloc|apply Kd.R_drewN|apply Kd.R_drew));exact HO_434000.out) hb);have n2_:=Aside0.mk (Kd.N_lower (Kd.N_mono (ok':=fun k_=>some k_≠(.slice Ao7 y430.length co7 : Value).ownBlock∧k_≠gb433) ho0 (fun k_ hk_=>⟨Or.elim hk_ (fun hs_=>hs_.1) (fun hn_=>(Kd.fresh' (Kd.R_lt (by (with_reducible repeat (first|apply Kd.R_alloc|apply Kd.R_drewN|apply Kd.R_drew));exact HO_434000.out)) k_ hn_)),Or.elim hk_ (fun hs_=>hs_.2) (fun hn_=>(Kd.freshB (g:=gb433) (o:=.cells #[.slice Ao7 y430.length co7,.int .i64 1,.int .i64 3,.int .i64 1] 29 (0,0)) (by (with_reducible repeat (first|refine blk_drewN ?_ _|refine blk_drew ?_|refine blk_alloc ?_ _));exact BK433.out) k_ hn_))⟩)) (below_size (by repeat (first|(with_reducible first|exact HB.out|apply below_alloc|apply pw_below_drewN|apply below_drew1|refine below_set ?_ GE433.out)|exact HB.out))));have n3_:=Aside0.mk (blk_below (g:=gb433) (o:=.cells #[.slice Ao7 y430.length co7,.int .i64 1,.int .i64 3,.int .i64 1] 29 (0,0)) (by (with_reducible repeat (first|refine blk_drewN ?_ _|refine blk_drew ?_|refine blk_alloc ?_ _));exact BK433.out) hb);have n4_:=Aside0.mk (below_step (by repeat (first|(with_reducible first|exact HB.out|apply below_alloc|apply pw_below_drewN|apply below_drew1|refine below_set ?_ GE433.out)|exact HB.out)) hb);clear HO_7;clear HO_434000;clear BK433;clear HB;have HO_7:=n0_;have HO_434000:=n1_;have HO458:=n2_;have BK433:=n3_;have HB:=n4_;clear n0_ n1_ n2_ n3_ n4_;(try clear hb);(try clear hb2);(try clear hk);(try clear hi);(try clear ho0)))
        go_ret
        exact ⟨by first|rfl|(simp [errW_none,errW_some] <;> rfl)|(simp [*,errW_none,errW_some] <;> rfl),by repeat (first|(with_reducible first|exact HB.out|apply below_alloc|apply pw_below_drewN|apply below_drew1|refine below_set ?_ GE433.out)|exact HB.out)⟩
      ·rw [if_neg c38] at H
       have c38b0 : ((x7_1.length : Int) == 0)=false:=beq_eq_false_iff_ne.mpr c38
       have c38b1 : ((x7_1.length : Int) != 0)=true:=bne_iff_ne.mpr c38
       have c38b2 : ¬ (x7_1=[]):=fun h_=>c38 (by rw [h_];rfl)
       obtain ⟨y459,hy459⟩ : ∃ y_ : List (S45),y_=(([(⟨5,(⟨#[]⟩ : ByteArray)⟩ : S45),(⟨x8_1,(⟨#[]⟩ : ByteArray)⟩ : S45),(⟨wrap64 (-x8_1),(⟨#[]⟩ : ByteArray)⟩ : S45),(⟨0,x9_1⟩ : S45)] : List (S45))):=⟨_,rfl⟩
       replace H : (if t429=true then (if (t456.length : Int)=1 then (if 0 < (t456.length : Int) then ((thresherref04_One.f kj11 (rd_L5 t456 0) y459).bind fun t463=>(some t463)) else (none)) else (some false)) else (some false))=some r:=by first|(rw [hy459];with_reducible exact H)|(have H2_:=(Option.bind_some _ _).symm.trans H;rw [hy459];with_reducible exact H2_)|(have H2_:=(Option.bind_some _ _).symm.trans H;with_reducible exact H2_)|with_reducible exact H|(rw [hy459];exact H)|exact H
       have Ny459:=Aside0.mk hy459
       clear hy459
       by_cases c47 : t429=true
       ·subst c47
        have H1 : (if (t456.length : Int)=1 then (if 0 < (t456.length : Int) then ((thresherref04_One.f kj11 (rd_L5 t456 0) y459).bind fun t463=>(some t463)) else (none)) else (some false))=some r:=by rw [if_pos rfl] at H;exact H
        clear H
        have H:=H1
        clear H1
        by_cases c48 : (t456.length : Int)=1
        ·rw [if_pos c48] at H
         have c48b0 : ((t456.length : Int) == 1)=true:=beq_iff_eq.mpr c48
         have c48b1 : ((t456.length : Int) != 1)=false:=bne_eq_false_iff_eq.mpr c48
         clear c48
         by_cases c49 : 0 < (t456.length : Int)
         ·rw [if_pos c49] at H
          have c49b0 : decide (0 < (t456.length : Int))=true:=decide_eq_true c49
          have c49b1 : decide (0 < t456.length)=true:=decide_eq_true (by omega)
          clear c49
          replace H:=Option.bind_eq_some_iff.mp H
          obtain ⟨t463,A500,H⟩:=H
          replace H : (some t463)=some r:=H
          have A50:=Aside0.mk A500
          clear A500
          obtain rfl:=Option.some.inj H
          have hcz51_0 : wc.cell? ⟨gb433,0,none⟩=some (.slice Ao7 y430.length co7):=(blk_cell BK433.out 0).trans rfl
          have hcz51_1 : wc.cell? ⟨gb433,1,none⟩=some (.int .i64 1):=(blk_cell BK433.out 1).trans rfl
          have hcz51_2 : wc.cell? ⟨gb433,2,none⟩=some (.int .i64 3):=(blk_cell BK433.out 2).trans rfl
          have hcz51_3 : wc.cell? ⟨gb433,3,none⟩=some (.int .i64 1):=(blk_cell BK433.out 3).trans rfl
          have hfz51_0:=blk_frozen BK433.out 0
          have hfz51_1:=blk_frozen BK433.out 1
          have hfz51_2:=blk_frozen BK433.out 2
          have hfz51_3:=blk_frozen BK433.out 3
          obtain ⟨Ao52,co52,eo52⟩:=Kd.N_slice HO_7.out
          subst eo52
          go_wp2_with (first|((with_reducible refine gate_callee (f:=13) rfl ?_);refine goesL_ (some 66) rfl rfl Try.func13 (by kernel_rfl) rfl #[.agg #[.slice Ao7 y430.length co7,.int .i64 1,.int .i64 3,.int .i64 1],.slice Ao52 x7_1.length co52] rfl (by (try simp only [List.map_toArray,List.map_cons,List.map_nil]);first|done|rfl|(simp only [List.length_drop,List.length_take];rfl)) ?_;(with_reducible refine (fold_Rows.calls kj11 _ _ y430 1 3 1 (fun k_=>(some k_≠(.slice Ao7 y430.length co7 : Value).ownBlock∧k_≠gb433)) _ _ x7_1 t456 _ ?side1 ?side2 ?side3 A37.out).mono ?_);(case side1=>repeat (first|exact (Kd.R_reads' HO_434000.out).2.2|(with_reducible refine Kd.C_alloc ?_ _)|(with_reducible refine Kd.C_drewN ?_ _)|(with_reducible refine Kd.C_drew ?_)));(case side2=>exact (Kd.R_reads' HO_434000.out).2.1);(case side3=>exact Kd.N_V (HO_7.out));rintro e w53 ⟨v457,rfl,ho0,hb⟩;refine ⟨_,rfl,?_⟩;have n0_:=Aside0.mk (Kd.N_elder' (by (with_reducible repeat (first|apply Kd.N_alloc|apply Kd.N_drewN|apply Kd.N_drew));exact HO_7.out) (by first|exact Kd.N_base ho0|exact Kd.S_base ho0) hb);have n1_:=Aside0.mk (Kd.R_below (by (with_reducible repeat (first|apply Kd.R_alloc|apply Kd.R_drewN|apply Kd.R_drew));exact HO_434000.out) hb);have n2_:=Aside0.mk (Kd.N_lower (Kd.N_mono (ok':=fun k_=>some k_≠(.slice Ao7 y430.length co7 : Value).ownBlock∧k_≠gb433) ho0 (fun k_ hk_=>⟨Or.elim hk_ (fun hs_=>hs_.1) (fun hn_=>(Kd.fresh' (Kd.R_lt (by (with_reducible repeat (first|apply Kd.R_alloc|apply Kd.R_drewN|apply Kd.R_drew));exact HO_434000.out)) k_ hn_)),Or.elim hk_ (fun hs_=>hs_.2) (fun hn_=>(Kd.freshB (g:=gb433) (o:=.cells #[.slice Ao7 y430.length co7,.int .i64 1,.int .i64 3,.int .i64 1] 29 (0,0)) (by (with_reducible repeat (first|refine blk_drewN ?_ _|refine blk_drew ?_|refine blk_alloc ?_ _));exact BK433.out) k_ hn_))⟩)) (below_size (by repeat (first|(with_reducible first|exact HB.out|apply below_alloc|apply pw_below_drewN|apply below_drew1|refine below_set ?_ GE433.out)|exact HB.out))));have n3_:=Aside0.mk (blk_below (g:=gb433) (o:=.cells #[.slice Ao7 y430.length co7,.int .i64 1,.int .i64 3,.int .i64 1] 29 (0,0)) (by (with_reducible repeat (first|refine blk_drewN ?_ _|refine blk_drew ?_|refine blk_alloc ?_ _));exact BK433.out) hb);have n4_:=Aside0.mk (below_step (by repeat (first|(with_reducible first|exact HB.out|apply below_alloc|apply pw_below_drewN|apply below_drew1|refine below_set ?_ GE433.out)|exact HB.out)) hb);clear HO_7;clear HO_434000;clear BK433;clear HB;have HO_7:=n0_;have HO_434000:=n1_;have HO458:=n2_;have BK433:=n3_;have HB:=n4_;clear n0_ n1_ n2_ n3_ n4_;(try clear hb);(try clear hb2);(try clear hk);(try clear hi);(try clear ho0))|((with_reducible refine gate_dst (N:=84) rfl ?_);(try (refine gate_guard (by rfl) ?_;dsimp only));refine Kd.R_lit k45 _ 45 ?hg (N:=84) ?hd (xs:=([(⟨5,(⟨#[]⟩ : ByteArray)⟩ : S45),(⟨x8_1,(⟨#[]⟩ : ByteArray)⟩ : S45),(⟨wrap64 (-x8_1),(⟨#[]⟩ : ByteArray)⟩ : S45),(⟨0,x9_1⟩ : S45)] : List (S45))) (inner:=[.int .i64 5,.string (⟨#[]⟩ : ByteArray),.int .i64 x8_1,.string (⟨#[]⟩ : ByteArray),.int .i64 (wrap64 (-x8_1)),.string (⟨#[]⟩ : ByteArray),.int .i64 0,.string x9_1]) (ok:=fun _=>True) (okp:=fun _=>True) ?hr ?hp (fun _ hk=>hk) trivial (Below.refl _ _) (Nat.le_refl _) (by simp) ?_;(case hd=>rfl);(case hg=>rfl);(case hr=>first|(go_simp;done)|(go_simp;rfl));(case hp=>exact (Reps.c2 (show Kd.M k45 _ _ _ (⟨5,(⟨#[]⟩ : ByteArray)⟩ : S45) [.int .i64 5,.string (⟨#[]⟩ : ByteArray)] from (k45_mkM _ _ _ (⟨5,(⟨#[]⟩ : ByteArray)⟩ : S45) )) (Reps.c2 (show Kd.M k45 _ _ _ (⟨x8_1,(⟨#[]⟩ : ByteArray)⟩ : S45) [.int .i64 x8_1,.string (⟨#[]⟩ : ByteArray)] from (k45_mkM _ _ _ (⟨x8_1,(⟨#[]⟩ : ByteArray)⟩ : S45) )) (Reps.c2 (show Kd.M k45 _ _ _ (⟨wrap64 (-x8_1),(⟨#[]⟩ : ByteArray)⟩ : S45) [.int .i64 (wrap64 (-x8_1)),.string (⟨#[]⟩ : ByteArray)] from (k45_mkM _ _ _ (⟨wrap64 (-x8_1),(⟨#[]⟩ : ByteArray)⟩ : S45) )) (Reps.c2 (show Kd.M k45 _ _ _ (⟨0,x9_1⟩ : S45) [.int .i64 0,.string x9_1] from (k45_mkM _ _ _ (⟨0,x9_1⟩ : S45) )) (Reps.none _ _))))));intro v460 w54 ho55 hb hg_ hnew_;clear hg_ hnew_;(first|rw [← Ny459.out] at ho55|(simp only [Int.reduceToNat] at ho55;rw [← Ny459.out] at ho55));have n0_:=Aside0.mk (Kd.N_elder' (by (with_reducible repeat (first|apply Kd.N_alloc|apply Kd.N_drewN|apply Kd.N_drew));exact HO_7.out) (Kd.R_base ho55) hb);have n1_:=Aside0.mk (Kd.R_below (by (with_reducible repeat (first|apply Kd.R_alloc|apply Kd.R_drewN|apply Kd.R_drew));exact HO_434000.out) hb);have n2_:=Aside0.mk (Kd.N_elder' (by (with_reducible repeat (first|apply Kd.N_alloc|apply Kd.N_drewN|apply Kd.N_drew));exact HO458.out) (Kd.R_base ho55) hb);have n3_:=Aside0.mk (Kd.R_lower ho55 (below_size (by repeat (first|(with_reducible first|exact HB.out|apply below_alloc|apply pw_below_drewN|apply below_drew1|refine below_set ?_ GE433.out)|exact HB.out))));have n4_:=Aside0.mk (blk_below (g:=gb433) (o:=.cells #[.slice Ao7 y430.length co7,.int .i64 1,.int .i64 3,.int .i64 1] 29 (0,0)) (by (with_reducible repeat (first|refine blk_drewN ?_ _|refine blk_drew ?_|refine blk_alloc ?_ _));exact BK433.out) hb);have n5_:=Aside0.mk (below_step (by repeat (first|(with_reducible first|exact HB.out|apply below_alloc|apply pw_below_drewN|apply below_drew1|refine below_set ?_ GE433.out)|exact HB.out)) hb);clear HO_7;clear HO_434000;clear HO458;clear BK433;clear HB;have HO_7:=n0_;have HO_434000:=n1_;have HO458:=n2_;have HO461:=n3_;have BK433:=n4_;have HB:=n5_;clear n0_ n1_ n2_ n3_ n4_ n5_;clear hb ho55;obtain ⟨Ao56,co56,eo56⟩:=Kd.N_slice HO458.out;subst eo56;have p462 : 0≤(0 : Int):=(by omega);have q462 : 0 < (t456.length : Int):=of_decide_eq_true (by first|(with_reducible assumption)|assumption);obtain ⟨ad462,A462_0,c462_0,e462,hx462_0,hl462_0,hi462_0⟩:=at_L5 (Kd.N_reads' HO458.out).2.2 0 p462 q462;cases e462;obtain ⟨ce462,hce462,hMe462,hcc462⟩:=Kd.N_get HO458.out [] 0 p462 (by first|exact q462|exact of_decide_eq_true (by first|(with_reducible assumption)|assumption)|(have e_:=(Kd.N_reads' HO458.out).1;omega));obtain ⟨ua462_0,uc462_0,rfl,ul462_0,ge462_0⟩:=Kd.FK_slice_open hMe462;have hv462_0:=hcc462 0 _ rfl;rw [Nat.add_zero,show ((Kd.slice 45 k45)).sz=1 from rfl,Nat.mul_one] at hv462_0;replace hv462_0:=Option.some.inj (hv462_0.symm.trans hx462_0);injection hv462_0 with hva_ hvn_ hvc_;rw [hva_] at ge462_0;rw [hvc_] at ul462_0;have HL462_0:=Aside0.mk (show Kd.V k45 45 _ w.heap.size _ _ (rd_L5 t456 0) from Kd.V_mk ul462_0 ge462_0);clear hva_ hvn_ hvc_ ge462_0 ul462_0;clear hcc462 hce462;have qi462 : (0 < t456.length)=True:=eq_true (by omega);(try rw [show ((0 : Int)).toNat=0 from rfl] at hx462_0);(try rw [Addr.add_zero'] at hx462_0);have HR462_0:=Aside0.mk hi462_0;have HC462_0:=Aside0.mk hl462_0;clear hi462_0 hl462_0;replace p462:=eq_true p462;replace q462:=eq_true q462;obtain ⟨Ao57,co57,eo57⟩:=Kd.R_slice HO461.out;subst eo57)|(go_at_call 16;(with_reducible refine (thresherref04_One.calls kj11 _ _ (rd_L5 t456 0) _ _ y459 t463 _ ?side1 ?side2 ?side3 ?side4 A50.out).mono ?_);(case side1=>repeat (first|exact (by repeat (first|(with_reducible exact HR462_0.out)|(with_reducible refine Kd.C_alloc ?_ _)|(with_reducible refine Kd.C_drewN ?_ _)|(with_reducible refine Kd.C_drew ?_)|exact HR462_0.out))|(with_reducible refine Kd.C_alloc ?_ _)|(with_reducible refine Kd.C_drewN ?_ _)|(with_reducible refine Kd.C_drew ?_)));(case side2=>exact HC462_0.out);(case side3=>repeat (first|exact (Kd.R_reads' HO461.out).2.2|(with_reducible refine Kd.C_alloc ?_ _)|(with_reducible refine Kd.C_drewN ?_ _)|(with_reducible refine Kd.C_drew ?_)));(case side4=>exact (Kd.R_reads' HO461.out).2.1);rintro e w' ⟨rfl,⟨nd,rfl⟩⟩))
          go_ret
          exact ⟨by first|rfl|(simp [errW_none,errW_some] <;> rfl)|(simp [*,errW_none,errW_some] <;> rfl),by repeat (first|(with_reducible first|exact HB.out|apply below_alloc|apply pw_below_drewN|apply below_drew1|refine below_set ?_ GE433.out)|exact HB.out)⟩
         ·rw [if_neg c49] at H
          exact absurd H (by simp)
        ·rw [if_neg c48] at H
         have c48b0 : ((t456.length : Int) == 1)=false:=beq_eq_false_iff_ne.mpr c48
         have c48b1 : ((t456.length : Int) != 1)=true:=bne_iff_ne.mpr c48
         obtain rfl:=Option.some.inj H
         have hcz58_0 : wc.cell? ⟨gb433,0,none⟩=some (.slice Ao7 y430.length co7):=(blk_cell BK433.out 0).trans rfl
         have hcz58_1 : wc.cell? ⟨gb433,1,none⟩=some (.int .i64 1):=(blk_cell BK433.out 1).trans rfl
         have hcz58_2 : wc.cell? ⟨gb433,2,none⟩=some (.int .i64 3):=(blk_cell BK433.out 2).trans rfl
         have hcz58_3 : wc.cell? ⟨gb433,3,none⟩=some (.int .i64 1):=(blk_cell BK433.out 3).trans rfl
         have hfz58_0:=blk_frozen BK433.out 0
         have hfz58_1:=blk_frozen BK433.out 1
         have hfz58_2:=blk_frozen BK433.out 2
         have hfz58_3:=blk_frozen BK433.out 3
         obtain ⟨Ao59,co59,eo59⟩:=Kd.N_slice HO_7.out
         subst eo59
         go_wp2_with (first|((with_reducible refine gate_callee (f:=13) rfl ?_);refine goesL_ (some 66) rfl rfl Try.func13 (by kernel_rfl) rfl #[.agg #[.slice Ao7 y430.length co7,.int .i64 1,.int .i64 3,.int .i64 1],.slice Ao59 x7_1.length co59] rfl (by (try simp only [List.map_toArray,List.map_cons,List.map_nil]);first|done|rfl|(simp only [List.length_drop,List.length_take];rfl)) ?_;(with_reducible refine (fold_Rows.calls kj11 _ _ y430 1 3 1 (fun k_=>(some k_≠(.slice Ao7 y430.length co7 : Value).ownBlock∧k_≠gb433)) _ _ x7_1 t456 _ ?side1 ?side2 ?side3 A37.out).mono ?_);(case side1=>repeat (first|exact (Kd.R_reads' HO_434000.out).2.2|(with_reducible refine Kd.C_alloc ?_ _)|(with_reducible refine Kd.C_drewN ?_ _)|(with_reducible refine Kd.C_drew ?_)));(case side2=>exact (Kd.R_reads' HO_434000.out).2.1);(case side3=>exact Kd.N_V (HO_7.out));rintro e w60 ⟨v457,rfl,ho0,hb⟩;refine ⟨_,rfl,?_⟩;have n0_:=Aside0.mk (Kd.N_elder' (by (with_reducible repeat (first|apply Kd.N_alloc|apply Kd.N_drewN|apply Kd.N_drew));exact HO_7.out) (by first|exact Kd.N_base ho0|exact Kd.S_base ho0) hb);have n1_:=Aside0.mk (Kd.R_below (by (with_reducible repeat (first|apply Kd.R_alloc|apply Kd.R_drewN|apply Kd.R_drew));exact HO_434000.out) hb);have n2_:=Aside0.mk (Kd.N_lower (Kd.N_mono (ok':=fun k_=>some k_≠(.slice Ao7 y430.length co7 : Value).ownBlock∧k_≠gb433) ho0 (fun k_ hk_=>⟨Or.elim hk_ (fun hs_=>hs_.1) (fun hn_=>(Kd.fresh' (Kd.R_lt (by (with_reducible repeat (first|apply Kd.R_alloc|apply Kd.R_drewN|apply Kd.R_drew));exact HO_434000.out)) k_ hn_)),Or.elim hk_ (fun hs_=>hs_.2) (fun hn_=>(Kd.freshB (g:=gb433) (o:=.cells #[.slice Ao7 y430.length co7,.int .i64 1,.int .i64 3,.int .i64 1] 29 (0,0)) (by (with_reducible repeat (first|refine blk_drewN ?_ _|refine blk_drew ?_|refine blk_alloc ?_ _));exact BK433.out) k_ hn_))⟩)) (below_size (by repeat (first|(with_reducible first|exact HB.out|apply below_alloc|apply pw_below_drewN|apply below_drew1|refine below_set ?_ GE433.out)|exact HB.out))));have n3_:=Aside0.mk (blk_below (g:=gb433) (o:=.cells #[.slice Ao7 y430.length co7,.int .i64 1,.int .i64 3,.int .i64 1] 29 (0,0)) (by (with_reducible repeat (first|refine blk_drewN ?_ _|refine blk_drew ?_|refine blk_alloc ?_ _));exact BK433.out) hb);have n4_:=Aside0.mk (below_step (by repeat (first|(with_reducible first|exact HB.out|apply below_alloc|apply pw_below_drewN|apply below_drew1|refine below_set ?_ GE433.out)|exact HB.out)) hb);clear HO_7;clear HO_434000;clear BK433;clear HB;have HO_7:=n0_;have HO_434000:=n1_;have HO458:=n2_;have BK433:=n3_;have HB:=n4_;clear n0_ n1_ n2_ n3_ n4_;(try clear hb);(try clear hb2);(try clear hk);(try clear hi);(try clear ho0))|((with_reducible refine gate_dst (N:=84) rfl ?_);(try (refine gate_guard (by rfl) ?_;dsimp only));refine Kd.R_lit k45 _ 45 ?hg (N:=84) ?hd (xs:=([(⟨5,(⟨#[]⟩ : ByteArray)⟩ : S45),(⟨x8_1,(⟨#[]⟩ : ByteArray)⟩ : S45),(⟨wrap64 (-x8_1),(⟨#[]⟩ : ByteArray)⟩ : S45),(⟨0,x9_1⟩ : S45)] : List (S45))) (inner:=[.int .i64 5,.string (⟨#[]⟩ : ByteArray),.int .i64 x8_1,.string (⟨#[]⟩ : ByteArray),.int .i64 (wrap64 (-x8_1)),.string (⟨#[]⟩ : ByteArray),.int .i64 0,.string x9_1]) (ok:=fun _=>True) (okp:=fun _=>True) ?hr ?hp (fun _ hk=>hk) trivial (Below.refl _ _) (Nat.le_refl _) (by simp) ?_;(case hd=>rfl);(case hg=>rfl);(case hr=>first|(go_simp;done)|(go_simp;rfl));(case hp=>exact (Reps.c2 (show Kd.M k45 _ _ _ (⟨5,(⟨#[]⟩ : ByteArray)⟩ : S45) [.int .i64 5,.string (⟨#[]⟩ : ByteArray)] from (k45_mkM _ _ _ (⟨5,(⟨#[]⟩ : ByteArray)⟩ : S45) )) (Reps.c2 (show Kd.M k45 _ _ _ (⟨x8_1,(⟨#[]⟩ : ByteArray)⟩ : S45) [.int .i64 x8_1,.string (⟨#[]⟩ : ByteArray)] from (k45_mkM _ _ _ (⟨x8_1,(⟨#[]⟩ : ByteArray)⟩ : S45) )) (Reps.c2 (show Kd.M k45 _ _ _ (⟨wrap64 (-x8_1),(⟨#[]⟩ : ByteArray)⟩ : S45) [.int .i64 (wrap64 (-x8_1)),.string (⟨#[]⟩ : ByteArray)] from (k45_mkM _ _ _ (⟨wrap64 (-x8_1),(⟨#[]⟩ : ByteArray)⟩ : S45) )) (Reps.c2 (show Kd.M k45 _ _ _ (⟨0,x9_1⟩ : S45) [.int .i64 0,.string x9_1] from (k45_mkM _ _ _ (⟨0,x9_1⟩ : S45) )) (Reps.none _ _))))));intro v460 w61 ho62 hb hg_ hnew_;clear hg_ hnew_;(first|rw [← Ny459.out] at ho62|(simp only [Int.reduceToNat] at ho62;rw [← Ny459.out] at ho62));have n0_:=Aside0.mk (Kd.N_elder' (by (with_reducible repeat (first|apply Kd.N_alloc|apply Kd.N_drewN|apply Kd.N_drew));exact HO_7.out) (Kd.R_base ho62) hb);have n1_:=Aside0.mk (Kd.R_below (by (with_reducible repeat (first|apply Kd.R_alloc|apply Kd.R_drewN|apply Kd.R_drew));exact HO_434000.out) hb);have n2_:=Aside0.mk (Kd.N_elder' (by (with_reducible repeat (first|apply Kd.N_alloc|apply Kd.N_drewN|apply Kd.N_drew));exact HO458.out) (Kd.R_base ho62) hb);have n3_:=Aside0.mk (Kd.R_lower ho62 (below_size (by repeat (first|(with_reducible first|exact HB.out|apply below_alloc|apply pw_below_drewN|apply below_drew1|refine below_set ?_ GE433.out)|exact HB.out))));have n4_:=Aside0.mk (blk_below (g:=gb433) (o:=.cells #[.slice Ao7 y430.length co7,.int .i64 1,.int .i64 3,.int .i64 1] 29 (0,0)) (by (with_reducible repeat (first|refine blk_drewN ?_ _|refine blk_drew ?_|refine blk_alloc ?_ _));exact BK433.out) hb);have n5_:=Aside0.mk (below_step (by repeat (first|(with_reducible first|exact HB.out|apply below_alloc|apply pw_below_drewN|apply below_drew1|refine below_set ?_ GE433.out)|exact HB.out)) hb);clear HO_7;clear HO_434000;clear HO458;clear BK433;clear HB;have HO_7:=n0_;have HO_434000:=n1_;have HO458:=n2_;have HO461:=n3_;have BK433:=n4_;have HB:=n5_;clear n0_ n1_ n2_ n3_ n4_ n5_;clear hb ho62;obtain ⟨Ao63,co63,eo63⟩:=Kd.N_slice HO458.out;subst eo63))
         go_ret
         exact ⟨by first|rfl|(simp [errW_none,errW_some] <;> rfl)|(simp [*,errW_none,errW_some] <;> rfl),by repeat (first|(with_reducible first|exact HB.out|apply below_alloc|apply pw_below_drewN|apply below_drew1|refine below_set ?_ GE433.out)|exact HB.out)⟩
       ·replace c47:=Bool.eq_false_iff.mpr c47
        subst c47
        have H1 : (some false)=some r:=by rw [if_neg (show ¬ (false=true) by decide)] at H;exact H
        clear H
        have H:=H1
        clear H1
        obtain rfl:=Option.some.inj H
        have hcz64_0 : wc.cell? ⟨gb433,0,none⟩=some (.slice Ao7 y430.length co7):=(blk_cell BK433.out 0).trans rfl
        have hcz64_1 : wc.cell? ⟨gb433,1,none⟩=some (.int .i64 1):=(blk_cell BK433.out 1).trans rfl
        have hcz64_2 : wc.cell? ⟨gb433,2,none⟩=some (.int .i64 3):=(blk_cell BK433.out 2).trans rfl
        have hcz64_3 : wc.cell? ⟨gb433,3,none⟩=some (.int .i64 1):=(blk_cell BK433.out 3).trans rfl
        have hfz64_0:=blk_frozen BK433.out 0
        have hfz64_1:=blk_frozen BK433.out 1
        have hfz64_2:=blk_frozen BK433.out 2
        have hfz64_3:=blk_frozen BK433.out 3
        obtain ⟨Ao65,co65,eo65⟩:=Kd.N_slice HO_7.out
        subst eo65
        go_wp2_with (first|((with_reducible refine gate_callee (f:=13) rfl ?_);refine goesL_ (some 66) rfl rfl Try.func13 (by kernel_rfl) rfl #[.agg #[.slice Ao7 y430.length co7,.int .i64 1,.int .i64 3,.int .i64 1],.slice Ao65 x7_1.length co65] rfl (by (try simp only [List.map_toArray,List.map_cons,List.map_nil]);first|done|rfl|(simp only [List.length_drop,List.length_take];rfl)) ?_;(with_reducible refine (fold_Rows.calls kj11 _ _ y430 1 3 1 (fun k_=>(some k_≠(.slice Ao7 y430.length co7 : Value).ownBlock∧k_≠gb433)) _ _ x7_1 t456 _ ?side1 ?side2 ?side3 A37.out).mono ?_);(case side1=>repeat (first|exact (Kd.R_reads' HO_434000.out).2.2|(with_reducible refine Kd.C_alloc ?_ _)|(with_reducible refine Kd.C_drewN ?_ _)|(with_reducible refine Kd.C_drew ?_)));(case side2=>exact (Kd.R_reads' HO_434000.out).2.1);(case side3=>exact Kd.N_V (HO_7.out));rintro e w66 ⟨v457,rfl,ho0,hb⟩;refine ⟨_,rfl,?_⟩;have n0_:=Aside0.mk (Kd.N_elder' (by (with_reducible repeat (first|apply Kd.N_alloc|apply Kd.N_drewN|apply Kd.N_drew));exact HO_7.out) (by first|exact Kd.N_base ho0|exact Kd.S_base ho0) hb);have n1_:=Aside0.mk (Kd.R_below (by (with_reducible repeat (first|apply Kd.R_alloc|apply Kd.R_drewN|apply Kd.R_drew));exact HO_434000.out) hb);have n2_:=Aside0.mk (Kd.N_lower (Kd.N_mono (ok':=fun k_=>some k_≠(.slice Ao7 y430.length co7 : Value).ownBlock∧k_≠gb433) ho0 (fun k_ hk_=>⟨Or.elim hk_ (fun hs_=>hs_.1) (fun hn_=>(Kd.fresh' (Kd.R_lt (by (with_reducible repeat (first|apply Kd.R_alloc|apply Kd.R_drewN|apply Kd.R_drew));exact HO_434000.out)) k_ hn_)),Or.elim hk_ (fun hs_=>hs_.2) (fun hn_=>(Kd.freshB (g:=gb433) (o:=.cells #[.slice Ao7 y430.length co7,.int .i64 1,.int .i64 3,.int .i64 1] 29 (0,0)) (by (with_reducible repeat (first|refine blk_drewN ?_ _|refine blk_drew ?_|refine blk_alloc ?_ _));exact BK433.out) k_ hn_))⟩)) (below_size (by repeat (first|(with_reducible first|exact HB.out|apply below_alloc|apply pw_below_drewN|apply below_drew1|refine below_set ?_ GE433.out)|exact HB.out))));have n3_:=Aside0.mk (blk_below (g:=gb433) (o:=.cells #[.slice Ao7 y430.length co7,.int .i64 1,.int .i64 3,.int .i64 1] 29 (0,0)) (by (with_reducible repeat (first|refine blk_drewN ?_ _|refine blk_drew ?_|refine blk_alloc ?_ _));exact BK433.out) hb);have n4_:=Aside0.mk (below_step (by repeat (first|(with_reducible first|exact HB.out|apply below_alloc|apply pw_below_drewN|apply below_drew1|refine below_set ?_ GE433.out)|exact HB.out)) hb);clear HO_7;clear HO_434000;clear BK433;clear HB;have HO_7:=n0_;have HO_434000:=n1_;have HO458:=n2_;have BK433:=n3_;have HB:=n4_;clear n0_ n1_ n2_ n3_ n4_;(try clear hb);(try clear hb2);(try clear hk);(try clear hi);(try clear ho0))|((with_reducible refine gate_dst (N:=84) rfl ?_);(try (refine gate_guard (by rfl) ?_;dsimp only));refine Kd.R_lit k45 _ 45 ?hg (N:=84) ?hd (xs:=([(⟨5,(⟨#[]⟩ : ByteArray)⟩ : S45),(⟨x8_1,(⟨#[]⟩ : ByteArray)⟩ : S45),(⟨wrap64 (-x8_1),(⟨#[]⟩ : ByteArray)⟩ : S45),(⟨0,x9_1⟩ : S45)] : List (S45))) (inner:=[.int .i64 5,.string (⟨#[]⟩ : ByteArray),.int .i64 x8_1,.string (⟨#[]⟩ : ByteArray),.int .i64 (wrap64 (-x8_1)),.string (⟨#[]⟩ : ByteArray),.int .i64 0,.string x9_1]) (ok:=fun _=>True) (okp:=fun _=>True) ?hr ?hp (fun _ hk=>hk) trivial (Below.refl _ _) (Nat.le_refl _) (by simp) ?_;(case hd=>rfl);(case hg=>rfl);(case hr=>first|(go_simp;done)|(go_simp;rfl));(case hp=>exact (Reps.c2 (show Kd.M k45 _ _ _ (⟨5,(⟨#[]⟩ : ByteArray)⟩ : S45) [.int .i64 5,.string (⟨#[]⟩ : ByteArray)] from (k45_mkM _ _ _ (⟨5,(⟨#[]⟩ : ByteArray)⟩ : S45) )) (Reps.c2 (show Kd.M k45 _ _ _ (⟨x8_1,(⟨#[]⟩ : ByteArray)⟩ : S45) [.int .i64 x8_1,.string (⟨#[]⟩ : ByteArray)] from (k45_mkM _ _ _ (⟨x8_1,(⟨#[]⟩ : ByteArray)⟩ : S45) )) (Reps.c2 (show Kd.M k45 _ _ _ (⟨wrap64 (-x8_1),(⟨#[]⟩ : ByteArray)⟩ : S45) [.int .i64 (wrap64 (-x8_1)),.string (⟨#[]⟩ : ByteArray)] from (k45_mkM _ _ _ (⟨wrap64 (-x8_1),(⟨#[]⟩ : ByteArray)⟩ : S45) )) (Reps.c2 (show Kd.M k45 _ _ _ (⟨0,x9_1⟩ : S45) [.int .i64 0,.string x9_1] from (k45_mkM _ _ _ (⟨0,x9_1⟩ : S45) )) (Reps.none _ _))))));intro v460 w67 ho68 hb hg_ hnew_;clear hg_ hnew_;(first|rw [← Ny459.out] at ho68|(simp only [Int.reduceToNat] at ho68;rw [← Ny459.out] at ho68));have n0_:=Aside0.mk (Kd.N_elder' (by (with_reducible repeat (first|apply Kd.N_alloc|apply Kd.N_drewN|apply Kd.N_drew));exact HO_7.out) (Kd.R_base ho68) hb);have n1_:=Aside0.mk (Kd.R_below (by (with_reducible repeat (first|apply Kd.R_alloc|apply Kd.R_drewN|apply Kd.R_drew));exact HO_434000.out) hb);have n2_:=Aside0.mk (Kd.N_elder' (by (with_reducible repeat (first|apply Kd.N_alloc|apply Kd.N_drewN|apply Kd.N_drew));exact HO458.out) (Kd.R_base ho68) hb);have n3_:=Aside0.mk (Kd.R_lower ho68 (below_size (by repeat (first|(with_reducible first|exact HB.out|apply below_alloc|apply pw_below_drewN|apply below_drew1|refine below_set ?_ GE433.out)|exact HB.out))));have n4_:=Aside0.mk (blk_below (g:=gb433) (o:=.cells #[.slice Ao7 y430.length co7,.int .i64 1,.int .i64 3,.int .i64 1] 29 (0,0)) (by (with_reducible repeat (first|refine blk_drewN ?_ _|refine blk_drew ?_|refine blk_alloc ?_ _));exact BK433.out) hb);have n5_:=Aside0.mk (below_step (by repeat (first|(with_reducible first|exact HB.out|apply below_alloc|apply pw_below_drewN|apply below_drew1|refine below_set ?_ GE433.out)|exact HB.out)) hb);clear HO_7;clear HO_434000;clear HO458;clear BK433;clear HB;have HO_7:=n0_;have HO_434000:=n1_;have HO458:=n2_;have HO461:=n3_;have BK433:=n4_;have HB:=n5_;clear n0_ n1_ n2_ n3_ n4_ n5_;clear hb ho68))
        go_ret
        exact ⟨by first|rfl|(simp [errW_none,errW_some] <;> rfl)|(simp [*,errW_none,errW_some] <;> rfl),by repeat (first|(with_reducible first|exact HB.out|apply below_alloc|apply pw_below_drewN|apply below_drew1|refine below_set ?_ GE433.out)|exact HB.out)⟩
end Go.Proofs.Ytmanchjamkpklaa.P

