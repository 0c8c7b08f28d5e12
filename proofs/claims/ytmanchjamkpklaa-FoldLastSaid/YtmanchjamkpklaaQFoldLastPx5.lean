/- Texts of FoldLast. Merged: Px5. -/
import Derived.Test.YtmanchjamkpklaaQFoldLastPx0
import Derived.Test.YtmanchjamkpklaaQFoldLastPx4
namespace Go.Proofs.Ytmanchjamkpklaa.P
open Go.RowKit Go.Proofs.YtmanchjamkpklaaW.PrintWords Go.Proofs.YtmanchjamkpklaaW.PrintLast Go.Proofs.YtmanchjamkpklaaW.PrintMore
attribute [local go_sem] max2_int min2_int max_two min_two max_three min_three max_four min_four   -- for this text's walks alone
set_option linter.unusedVariables false
set_option linter.unusedSimpArgs false
def thresherlaw13_shown.j0 : Nat→Bool→Option (Bool)
 | 0,_=>none
 | k + 1,x0=>some x0
def thresherlaw13_shown.f (k : Nat)  : Option (Bool):=(some (([1,1] : List Int) : List Int)).bind fun y148=>((some (([(([(⟨1,(⟨#[]⟩ : ByteArray)⟩ : S45),(⟨5,(⟨#[]⟩ : ByteArray)⟩ : S45)] : List (S45))),(([(⟨1,(⟨#[]⟩ : ByteArray)⟩ : S45),(⟨7,(⟨#[]⟩ : ByteArray)⟩ : S45)] : List (S45))),(([(⟨2,(⟨#[]⟩ : ByteArray)⟩ : S45),(⟨1,(⟨#[]⟩ : ByteArray)⟩ : S45)] : List (S45)))] : List (List (S45))) : List (List (S45)))).bind fun y161=>((fold_Rows.f k y148 1 3 1 y161).bind fun t164=>((fold_Rows.f k y148 1 2 1 y161).bind fun t167=>(if (t164.length : Int)=2 then (if (t167.length : Int)=2 then (if 0 < (t164.length : Int) then (if ((rd_L5 t164 0).length : Int)=2 then (if 0 < (t167.length : Int) then (if ((rd_L5 t167 0).length : Int)=2 then (if 1 < ((rd_L5 t164 0).length : Int) then (if ((rd_T45 (rd_L5 t164 0) 1).f0)=12 then (if 1 < ((rd_L5 t167 0).length : Int) then (thresherlaw13_shown.j0 k (((rd_T45 (rd_L5 t167 0) 1).f0) == 7)) else (none)) else (thresherlaw13_shown.j0 k false)) else (none)) else (thresherlaw13_shown.j0 k false)) else (none)) else (thresherlaw13_shown.j0 k false)) else (none)) else (thresherlaw13_shown.j0 k false)) else (thresherlaw13_shown.j0 k false)))))
theorem thresherlaw13_shown.mono_l : ∀ k,(∀ y0,LeO (thresherlaw13_shown.j0 k y0) (thresherlaw13_shown.j0 (k + 1) y0))
 | 0=>fun _ r h=>by simp [thresherlaw13_shown.j0] at h
 | k + 1=>by
  have ih0:=thresherlaw13_shown.mono_l k
  ·intro y0
   unfold thresherlaw13_shown.j0
   repeat' first
   | (with_reducible exact ih0 _)
   | (with_reducible exact fold_Rows.mono _ _ _ _ _ _)
   | (with_reducible exact LeO.refl _)
   | (with_reducible exact LeO.none _)
   | (with_reducible refine LeO.ite ?_ ?_)
   | (with_reducible refine LeO.bind ?_ (fun _=>?_))
   | exact ih0 _
   | exact fold_Rows.mono _ _ _ _ _ _
   | exact LeO.none _
   | refine LeO.ite ?_ ?_
   | refine LeO.bind ?_ (fun _=>?_)
theorem thresherlaw13_shown.mono : ∀ k,LeO (thresherlaw13_shown.f k ) (thresherlaw13_shown.f (k + 1) ):=by
 intro  k
 have ih0:=thresherlaw13_shown.mono_l k
 unfold thresherlaw13_shown.f
 repeat' first
   | (with_reducible exact ih0 _)
   | (with_reducible exact fold_Rows.mono _ _ _ _ _ _)
   | (with_reducible exact LeO.refl _)
   | (with_reducible exact LeO.none _)
   | (with_reducible refine LeO.ite ?_ ?_)
   | (with_reducible refine LeO.bind ?_ (fun _=>?_))
   | exact ih0 _
   | exact fold_Rows.mono _ _ _ _ _ _
   | exact LeO.none _
   | refine LeO.ite ?_ ?_
   | refine LeO.bind ?_ (fun _=>?_)
set_option maxHeartbeats 8000000 in
set_option maxRecDepth 100000 in
theorem thresherlaw13_shown.calls (k : Nat)  (r : Bool) (w : World) (h : thresherlaw13_shown.f k =some r) :
  Calls Try.prog 8 #[] w fun e w'=>e=.returned (.bool r)∧Below w.heap.size w w':=by
 have hu29:=Try.underlying29
 have hu45:=Try.underlying45
 have HB:=Aside0.mk (Below.refl w.heap.size w)
 have H : ((some (([1,1] : List Int) : List Int)).bind fun y148=>((some (([(([(⟨1,(⟨#[]⟩ : ByteArray)⟩ : S45),(⟨5,(⟨#[]⟩ : ByteArray)⟩ : S45)] : List (S45))),(([(⟨1,(⟨#[]⟩ : ByteArray)⟩ : S45),(⟨7,(⟨#[]⟩ : ByteArray)⟩ : S45)] : List (S45))),(([(⟨2,(⟨#[]⟩ : ByteArray)⟩ : S45),(⟨1,(⟨#[]⟩ : ByteArray)⟩ : S45)] : List (S45)))] : List (List (S45))) : List (List (S45)))).bind fun y161=>((fold_Rows.f k y148 1 3 1 y161).bind fun t164=>((fold_Rows.f k y148 1 2 1 y161).bind fun t167=>(if (t164.length : Int)=2 then (if (t167.length : Int)=2 then (if 0 < (t164.length : Int) then (if ((rd_L5 t164 0).length : Int)=2 then (if 0 < (t167.length : Int) then (if ((rd_L5 t167 0).length : Int)=2 then (if 1 < ((rd_L5 t164 0).length : Int) then (if ((rd_T45 (rd_L5 t164 0) 1).f0)=12 then (if 1 < ((rd_L5 t167 0).length : Int) then (thresherlaw13_shown.j0 k (((rd_T45 (rd_L5 t167 0) 1).f0) == 7)) else (none)) else (thresherlaw13_shown.j0 k false)) else (none)) else (thresherlaw13_shown.j0 k false)) else (none)) else (thresherlaw13_shown.j0 k false)) else (none)) else (thresherlaw13_shown.j0 k false)) else (thresherlaw13_shown.j0 k false))))))=some r:=h
 clear h
 obtain ⟨y148,hy148⟩ : ∃ y_ : List Int,y_=(([1,1] : List Int)):=⟨_,rfl⟩
 replace H : ((some (([(([(⟨1,(⟨#[]⟩ : ByteArray)⟩ : S45),(⟨5,(⟨#[]⟩ : ByteArray)⟩ : S45)] : List (S45))),(([(⟨1,(⟨#[]⟩ : ByteArray)⟩ : S45),(⟨7,(⟨#[]⟩ : ByteArray)⟩ : S45)] : List (S45))),(([(⟨2,(⟨#[]⟩ : ByteArray)⟩ : S45),(⟨1,(⟨#[]⟩ : ByteArray)⟩ : S45)] : List (S45)))] : List (List (S45))) : List (List (S45)))).bind fun y161=>((fold_Rows.f k y148 1 3 1 y161).bind fun t164=>((fold_Rows.f k y148 1 2 1 y161).bind fun t167=>(if (t164.length : Int)=2 then (if (t167.length : Int)=2 then (if 0 < (t164.length : Int) then (if ((rd_L5 t164 0).length : Int)=2 then (if 0 < (t167.length : Int) then (if ((rd_L5 t167 0).length : Int)=2 then (if 1 < ((rd_L5 t164 0).length : Int) then (if ((rd_T45 (rd_L5 t164 0) 1).f0)=12 then (if 1 < ((rd_L5 t167 0).length : Int) then (thresherlaw13_shown.j0 k (((rd_T45 (rd_L5 t167 0) 1).f0) == 7)) else (none)) else (thresherlaw13_shown.j0 k false)) else (none)) else (thresherlaw13_shown.j0 k false)) else (none)) else (thresherlaw13_shown.j0 k false)) else (none)) else (thresherlaw13_shown.j0 k false)) else (thresherlaw13_shown.j0 k false)))))=some r:=by first|(rw [hy148];with_reducible exact H)|(have H2_:=(Option.bind_some _ _).symm.trans H;rw [hy148];with_reducible exact H2_)|(have H2_:=(Option.bind_some _ _).symm.trans H;with_reducible exact H2_)|with_reducible exact H|(rw [hy148];exact H)|exact H
 have Ny148:=Aside0.mk hy148
 clear hy148
 obtain ⟨y152,hy152⟩ : ∃ y_ : List (S45),y_=(([(⟨1,(⟨#[]⟩ : ByteArray)⟩ : S45),(⟨5,(⟨#[]⟩ : ByteArray)⟩ : S45)] : List (S45))):=⟨_,rfl⟩
 replace H : ((some (([y152,(([(⟨1,(⟨#[]⟩ : ByteArray)⟩ : S45),(⟨7,(⟨#[]⟩ : ByteArray)⟩ : S45)] : List (S45))),(([(⟨2,(⟨#[]⟩ : ByteArray)⟩ : S45),(⟨1,(⟨#[]⟩ : ByteArray)⟩ : S45)] : List (S45)))] : List (List (S45))) : List (List (S45)))).bind fun y161=>((fold_Rows.f k y148 1 3 1 y161).bind fun t164=>((fold_Rows.f k y148 1 2 1 y161).bind fun t167=>(if (t164.length : Int)=2 then (if (t167.length : Int)=2 then (if 0 < (t164.length : Int) then (if ((rd_L5 t164 0).length : Int)=2 then (if 0 < (t167.length : Int) then (if ((rd_L5 t167 0).length : Int)=2 then (if 1 < ((rd_L5 t164 0).length : Int) then (if ((rd_T45 (rd_L5 t164 0) 1).f0)=12 then (if 1 < ((rd_L5 t167 0).length : Int) then (thresherlaw13_shown.j0 k (((rd_T45 (rd_L5 t167 0) 1).f0) == 7)) else (none)) else (thresherlaw13_shown.j0 k false)) else (none)) else (thresherlaw13_shown.j0 k false)) else (none)) else (thresherlaw13_shown.j0 k false)) else (none)) else (thresherlaw13_shown.j0 k false)) else (thresherlaw13_shown.j0 k false)))))=some r:=by first|(rw [hy152];with_reducible exact H)|(have H2_:=(Option.bind_some _ _).symm.trans H;rw [hy152];with_reducible exact H2_)|(have H2_:=(Option.bind_some _ _).symm.trans H;with_reducible exact H2_)|with_reducible exact H|(rw [hy152];exact H)|exact H
 have Ny152:=Aside0.mk hy152
 clear hy152
 obtain ⟨y155,hy155⟩ : ∃ y_ : List (S45),y_=(([(⟨1,(⟨#[]⟩ : ByteArray)⟩ : S45),(⟨7,(⟨#[]⟩ : ByteArray)⟩ : S45)] : List (S45))):=⟨_,rfl⟩
 replace H : ((some (([y152,y155,(([(⟨2,(⟨#[]⟩ : ByteArray)⟩ : S45),(⟨1,(⟨#[]⟩ : ByteArray)⟩ : S45)] : List (S45)))] : List (List (S45))) : List (List (S45)))).bind fun y161=>((fold_Rows.f k y148 1 3 1 y161).bind fun t164=>((fold_Rows.f k y148 1 2 1 y161).bind fun t167=>(if (t164.length : Int)=2 then (if (t167.length : Int)=2 then (if 0 < (t164.length : Int) then (if ((rd_L5 t164 0).length : Int)=2 then (if 0 < (t167.length : Int) then (if ((rd_L5 t167 0).length : Int)=2 then (if 1 < ((rd_L5 t164 0).length : Int) then (if ((rd_T45 (rd_L5 t164 0) 1).f0)=12 then (if 1 < ((rd_L5 t167 0).length : Int) then (thresherlaw13_shown.j0 k (((rd_T45 (rd_L5 t167 0) 1).f0) == 7)) else (none)) else (thresherlaw13_shown.j0 k false)) else (none)) else (thresherlaw13_shown.j0 k false)) else (none)) else (thresherlaw13_shown.j0 k false)) else (none)) else (thresherlaw13_shown.j0 k false)) else (thresherlaw13_shown.j0 k false)))))=some r:=by first|(rw [hy155];with_reducible exact H)|(have H2_:=(Option.bind_some _ _).symm.trans H;rw [hy155];with_reducible exact H2_)|(have H2_:=(Option.bind_some _ _).symm.trans H;with_reducible exact H2_)|with_reducible exact H|(rw [hy155];exact H)|exact H
 have Ny155:=Aside0.mk hy155
 clear hy155
 obtain ⟨y158,hy158⟩ : ∃ y_ : List (S45),y_=(([(⟨2,(⟨#[]⟩ : ByteArray)⟩ : S45),(⟨1,(⟨#[]⟩ : ByteArray)⟩ : S45)] : List (S45))):=⟨_,rfl⟩
 replace H : ((some (([y152,y155,y158] : List (List (S45))) : List (List (S45)))).bind fun y161=>((fold_Rows.f k y148 1 3 1 y161).bind fun t164=>((fold_Rows.f k y148 1 2 1 y161).bind fun t167=>(if (t164.length : Int)=2 then (if (t167.length : Int)=2 then (if 0 < (t164.length : Int) then (if ((rd_L5 t164 0).length : Int)=2 then (if 0 < (t167.length : Int) then (if ((rd_L5 t167 0).length : Int)=2 then (if 1 < ((rd_L5 t164 0).length : Int) then (if ((rd_T45 (rd_L5 t164 0) 1).f0)=12 then (if 1 < ((rd_L5 t167 0).length : Int) then (thresherlaw13_shown.j0 k (((rd_T45 (rd_L5 t167 0) 1).f0) == 7)) else (none)) else (thresherlaw13_shown.j0 k false)) else (none)) else (thresherlaw13_shown.j0 k false)) else (none)) else (thresherlaw13_shown.j0 k false)) else (none)) else (thresherlaw13_shown.j0 k false)) else (thresherlaw13_shown.j0 k false)))))=some r:=by first|(rw [hy158];with_reducible exact H)|(have H2_:=(Option.bind_some _ _).symm.trans H;rw [hy158];with_reducible exact H2_)|(have H2_:=(Option.bind_some _ _).symm.trans H;with_reducible exact H2_)|with_reducible exact H|(rw [hy158];exact H)|exact H
 have Ny158:=Aside0.mk hy158
 clear hy158
 obtain ⟨y161,hy161⟩ : ∃ y_ : List (List (S45)),y_=(([y152,y155,y158] : List (List (S45)))):=⟨_,rfl⟩
 replace H : ((fold_Rows.f k y148 1 3 1 y161).bind fun t164=>((fold_Rows.f k y148 1 2 1 y161).bind fun t167=>(if (t164.length : Int)=2 then (if (t167.length : Int)=2 then (if 0 < (t164.length : Int) then (if ((rd_L5 t164 0).length : Int)=2 then (if 0 < (t167.length : Int) then (if ((rd_L5 t167 0).length : Int)=2 then (if 1 < ((rd_L5 t164 0).length : Int) then (if ((rd_T45 (rd_L5 t164 0) 1).f0)=12 then (if 1 < ((rd_L5 t167 0).length : Int) then (thresherlaw13_shown.j0 k (((rd_T45 (rd_L5 t167 0) 1).f0) == 7)) else (none)) else (thresherlaw13_shown.j0 k false)) else (none)) else (thresherlaw13_shown.j0 k false)) else (none)) else (thresherlaw13_shown.j0 k false)) else (none)) else (thresherlaw13_shown.j0 k false)) else (thresherlaw13_shown.j0 k false))))=some r:=by first|(rw [hy161];with_reducible exact H)|(have H2_:=(Option.bind_some _ _).symm.trans H;rw [hy161];with_reducible exact H2_)|(have H2_:=(Option.bind_some _ _).symm.trans H;with_reducible exact H2_)|with_reducible exact H|(rw [hy161];exact H)|exact H
 have Ny161:=Aside0.mk hy161
 clear hy161
 replace H:=Option.bind_eq_some_iff.mp H
 obtain ⟨t164,A10,H⟩:=H
 replace H : ((fold_Rows.f k y148 1 2 1 y161).bind fun t167=>(if (t164.length : Int)=2 then (if (t167.length : Int)=2 then (if 0 < (t164.length : Int) then (if ((rd_L5 t164 0).length : Int)=2 then (if 0 < (t167.length : Int) then (if ((rd_L5 t167 0).length : Int)=2 then (if 1 < ((rd_L5 t164 0).length : Int) then (if ((rd_T45 (rd_L5 t164 0) 1).f0)=12 then (if 1 < ((rd_L5 t167 0).length : Int) then (thresherlaw13_shown.j0 k (((rd_T45 (rd_L5 t167 0) 1).f0) == 7)) else (none)) else (thresherlaw13_shown.j0 k false)) else (none)) else (thresherlaw13_shown.j0 k false)) else (none)) else (thresherlaw13_shown.j0 k false)) else (none)) else (thresherlaw13_shown.j0 k false)) else (thresherlaw13_shown.j0 k false)))=some r:=H
 have A1:=Aside0.mk A10
 clear A10
 replace H:=Option.bind_eq_some_iff.mp H
 obtain ⟨t167,A20,H⟩:=H
 replace H : (if (t164.length : Int)=2 then (if (t167.length : Int)=2 then (if 0 < (t164.length : Int) then (if ((rd_L5 t164 0).length : Int)=2 then (if 0 < (t167.length : Int) then (if ((rd_L5 t167 0).length : Int)=2 then (if 1 < ((rd_L5 t164 0).length : Int) then (if ((rd_T45 (rd_L5 t164 0) 1).f0)=12 then (if 1 < ((rd_L5 t167 0).length : Int) then (thresherlaw13_shown.j0 k (((rd_T45 (rd_L5 t167 0) 1).f0) == 7)) else (none)) else (thresherlaw13_shown.j0 k false)) else (none)) else (thresherlaw13_shown.j0 k false)) else (none)) else (thresherlaw13_shown.j0 k false)) else (none)) else (thresherlaw13_shown.j0 k false)) else (thresherlaw13_shown.j0 k false))=some r:=H
 have A2:=Aside0.mk A20
 clear A20
 have HC3:=Aside0.mk H
 clear H
 go_enter Try.func8,Try.ntmps8
 go_upto_region 6 with (first|((with_reducible refine gate_dst (N:=5) rfl ?_);(try (refine gate_guard (by rfl) ?_;dsimp only));refine Kd.R_lit (Kd.int .i64) _ 3 ?hg (N:=5) ?hd (xs:=([1,1] : List Int)) (inner:=[.int .i64 1,.int .i64 1]) (ok:=fun _=>True) (okp:=fun _=>True) ?hr ?hp (fun _ hk=>hk) trivial (Below.refl _ _) (Nat.le_refl _) (by simp) ?_;(case hd=>rfl);(case hg=>rfl);(case hr=>first|(go_simp;done)|(go_simp;rfl));(case hp=>exact (Reps.one (show Kd.M (Kd.int .i64) _ _ _ 1 [.int .i64 1] from rfl) (Reps.one (show Kd.M (Kd.int .i64) _ _ _ 1 [.int .i64 1] from rfl) (Reps.none _ _))));intro v149 w4 ho5 hb hg_ hnew_;clear hg_ hnew_;(first|rw [← Ny148.out] at ho5|(simp only [Int.reduceToNat] at ho5;rw [← Ny148.out] at ho5));have n0_:=Aside0.mk (Kd.R_lower ho5 (below_size (by repeat (first|(with_reducible first|exact HB.out|apply below_alloc|apply pw_below_drewN|apply below_drew1)|exact HB.out))));have n1_:=Aside0.mk (below_step (by repeat (first|(with_reducible first|exact HB.out|apply below_alloc|apply pw_below_drewN|apply below_drew1)|exact HB.out)) hb);clear HB;have HO150:=n0_;have HB:=n1_;clear n0_ n1_;clear hb ho5;obtain ⟨Ao6,co6,eo6⟩:=Kd.R_slice HO150.out;subst eo6)|((with_reducible refine gate_dst (N:=1) rfl ?_);(try (refine gate_guard (by rfl) ?_;dsimp only));refine box_event ?hg (N:=1) ?hd (cs:=#[.slice none 0 0,.int .i64 0,.int .i64 0,.int .i64 0]) (t:=29) ?hr ?_;(case hd=>rfl);(case hg=>rfl);(case hr=>first|(go_simp;done)|(go_simp;rfl));intro gb151 hg w7 hbox hb;have n0_:=Aside0.mk (Kd.R_below (by (with_reducible repeat (first|apply Kd.R_alloc|apply Kd.R_drewN|apply Kd.R_drew));exact HO150.out) hb);have n1_:=Aside0.mk (below_step (by repeat (first|(with_reducible first|exact HB.out|apply below_alloc|apply pw_below_drewN|apply below_drew1)|exact HB.out)) hb);have n2_:=Aside0.mk (hbox);have n3_:=Aside0.mk ((by rw [hg];exact (below_size (by repeat (first|(with_reducible first|exact HB.out|apply below_alloc|apply pw_below_drewN|apply below_drew1)|exact HB.out))) : w.heap.size≤gb151));have n4_:=Aside0.mk ((by rw [hg];exact (below_size (by repeat (first|(with_reducible first|exact HB.out|apply below_alloc|apply pw_below_drewN|apply below_drew1)|exact HB.out))) : w.heap.size≤gb151));clear HO150;clear HB;have HO150:=n0_;have HB:=n1_;have BK151:=n2_;have GW151:=n3_;have GE151:=n4_;clear n0_ n1_ n2_ n3_ n4_;clear hb hbox hg;have hcz8_0 : w7.cell? ⟨gb151,0,none⟩=some (.slice none 0 0):=(blk_cell BK151.out 0).trans rfl;have hcz8_1 : w7.cell? ⟨gb151,1,none⟩=some (.int .i64 0):=(blk_cell BK151.out 1).trans rfl;have hcz8_2 : w7.cell? ⟨gb151,2,none⟩=some (.int .i64 0):=(blk_cell BK151.out 2).trans rfl;have hcz8_3 : w7.cell? ⟨gb151,3,none⟩=some (.int .i64 0):=(blk_cell BK151.out 3).trans rfl;have hfz8_0:=blk_frozen BK151.out 0;have hfz8_1:=blk_frozen BK151.out 1;have hfz8_2:=blk_frozen BK151.out 2;have hfz8_3:=blk_frozen BK151.out 3)|((with_reducible refine gate_dst (N:=9) rfl ?_);(try (refine gate_guard (by rfl) ?_;dsimp only));refine Kd.R_lit k45 _ 45 ?hg (N:=9) ?hd (xs:=([(⟨1,(⟨#[]⟩ : ByteArray)⟩ : S45),(⟨5,(⟨#[]⟩ : ByteArray)⟩ : S45)] : List (S45))) (inner:=[.int .i64 1,.string (⟨#[]⟩ : ByteArray),.int .i64 5,.string (⟨#[]⟩ : ByteArray)]) (ok:=fun _=>True) (okp:=fun _=>True) ?hr ?hp (fun _ hk=>hk) trivial (Below.refl _ _) (Nat.le_refl _) (by simp) ?_;(case hd=>rfl);(case hg=>rfl);(case hr=>first|(go_simp;done)|(go_simp;rfl));(case hp=>exact (Reps.c2 (show Kd.M k45 _ _ _ (⟨1,(⟨#[]⟩ : ByteArray)⟩ : S45) [.int .i64 1,.string (⟨#[]⟩ : ByteArray)] from (k45_mkM _ _ _ (⟨1,(⟨#[]⟩ : ByteArray)⟩ : S45) )) (Reps.c2 (show Kd.M k45 _ _ _ (⟨5,(⟨#[]⟩ : ByteArray)⟩ : S45) [.int .i64 5,.string (⟨#[]⟩ : ByteArray)] from (k45_mkM _ _ _ (⟨5,(⟨#[]⟩ : ByteArray)⟩ : S45) )) (Reps.none _ _))));intro v153 w9 ho10 hb hg_ hnew_;clear hg_ hnew_;(first|rw [← Ny152.out] at ho10|(simp only [Int.reduceToNat] at ho10;rw [← Ny152.out] at ho10));have n0_:=Aside0.mk (Kd.R_below (by (with_reducible repeat (first|apply Kd.R_alloc|apply Kd.R_drewN|apply Kd.R_drew));exact (Kd.R_mono (Kd.R_far (p:=⟨gb151,3,none⟩) (Kd.R_far (p:=⟨gb151,2,none⟩) (Kd.R_far (p:=⟨gb151,1,none⟩) (Kd.R_far (p:=⟨gb151,0,none⟩) (Kd.R_types HO150.out BK151.out (by decide)) (fun _ hk=>hk.2) (.slice Ao6 y148.length co6)) (fun _ hk=>hk.2) (.int .i64 1)) (fun _ hk=>hk.2) (.int .i64 3)) (fun _ hk=>hk.2) (.int .i64 1)) (fun _ h_=>h_.1))) hb);have n1_:=Aside0.mk (Kd.R_lower ho10 (below_size (by repeat (first|(with_reducible first|exact HB.out|apply below_alloc|apply pw_below_drewN|apply below_drew1|refine below_set ?_ GE151.out)|exact HB.out))));have n2_:=Aside0.mk (blk_below (g:=gb151) (o:=.cells #[.slice Ao6 y148.length co6,.int .i64 1,.int .i64 3,.int .i64 1] 29 (0,0)) (by (with_reducible repeat (first|refine blk_drewN ?_ _|refine blk_drew ?_|refine blk_alloc ?_ _));refine blk_put (cs:=#[.slice Ao6 y148.length co6,.int .i64 1,.int .i64 3,.int .i64 0]) ?_ 3 _ rfl;(with_reducible repeat (first|refine blk_drewN ?_ _|refine blk_drew ?_|refine blk_alloc ?_ _));refine blk_put (cs:=#[.slice Ao6 y148.length co6,.int .i64 1,.int .i64 0,.int .i64 0]) ?_ 2 _ rfl;(with_reducible repeat (first|refine blk_drewN ?_ _|refine blk_drew ?_|refine blk_alloc ?_ _));refine blk_put (cs:=#[.slice Ao6 y148.length co6,.int .i64 0,.int .i64 0,.int .i64 0]) ?_ 1 _ rfl;(with_reducible repeat (first|refine blk_drewN ?_ _|refine blk_drew ?_|refine blk_alloc ?_ _));refine blk_put (cs:=#[.slice none 0 0,.int .i64 0,.int .i64 0,.int .i64 0]) ?_ 0 _ rfl;(with_reducible repeat (first|refine blk_drewN ?_ _|refine blk_drew ?_|refine blk_alloc ?_ _));exact BK151.out) hb);have n3_:=Aside0.mk (below_step (by repeat (first|(with_reducible first|exact HB.out|apply below_alloc|apply pw_below_drewN|apply below_drew1|refine below_set ?_ GE151.out)|exact HB.out)) hb);clear HO150;clear BK151;clear HB;have HO150:=n0_;have HO154:=n1_;have BK151:=n2_;have HB:=n3_;clear n0_ n1_ n2_ n3_;clear hb ho10)|((with_reducible refine gate_dst (N:=12) rfl ?_);(try (refine gate_guard (by rfl) ?_;dsimp only));refine Kd.R_lit k45 _ 45 ?hg (N:=12) ?hd (xs:=([(⟨1,(⟨#[]⟩ : ByteArray)⟩ : S45),(⟨7,(⟨#[]⟩ : ByteArray)⟩ : S45)] : List (S45))) (inner:=[.int .i64 1,.string (⟨#[]⟩ : ByteArray),.int .i64 7,.string (⟨#[]⟩ : ByteArray)]) (ok:=fun _=>True) (okp:=fun _=>True) ?hr ?hp (fun _ hk=>hk) trivial (Below.refl _ _) (Nat.le_refl _) (by simp) ?_;(case hd=>rfl);(case hg=>rfl);(case hr=>first|(go_simp;done)|(go_simp;rfl));(case hp=>exact (Reps.c2 (show Kd.M k45 _ _ _ (⟨1,(⟨#[]⟩ : ByteArray)⟩ : S45) [.int .i64 1,.string (⟨#[]⟩ : ByteArray)] from (k45_mkM _ _ _ (⟨1,(⟨#[]⟩ : ByteArray)⟩ : S45) )) (Reps.c2 (show Kd.M k45 _ _ _ (⟨7,(⟨#[]⟩ : ByteArray)⟩ : S45) [.int .i64 7,.string (⟨#[]⟩ : ByteArray)] from (k45_mkM _ _ _ (⟨7,(⟨#[]⟩ : ByteArray)⟩ : S45) )) (Reps.none _ _))));intro v156 w11 ho12 hb hg_ hnew_;clear hg_ hnew_;(first|rw [← Ny155.out] at ho12|(simp only [Int.reduceToNat] at ho12;rw [← Ny155.out] at ho12));have n0_:=Aside0.mk (Kd.R_below (by (with_reducible repeat (first|apply Kd.R_alloc|apply Kd.R_drewN|apply Kd.R_drew));exact HO150.out) hb);have n1_:=Aside0.mk (Kd.R_elder' (by (with_reducible repeat (first|apply Kd.R_alloc|apply Kd.R_drewN|apply Kd.R_drew));exact HO154.out) (Kd.R_base ho12) hb);have n2_:=Aside0.mk (Kd.R_lower (Kd.R_new' ho12 (Kd.R_lt (by (with_reducible repeat (first|apply Kd.R_alloc|apply Kd.R_drewN|apply Kd.R_drew));exact HO154.out))) (below_size (by repeat (first|(with_reducible first|exact HB.out|apply below_alloc|apply pw_below_drewN|apply below_drew1|refine below_set ?_ GE151.out)|exact HB.out))));have n3_:=Aside0.mk (blk_below (g:=gb151) (o:=.cells #[.slice Ao6 y148.length co6,.int .i64 1,.int .i64 3,.int .i64 1] 29 (0,0)) (by (with_reducible repeat (first|refine blk_drewN ?_ _|refine blk_drew ?_|refine blk_alloc ?_ _));exact BK151.out) hb);have n4_:=Aside0.mk (below_step (by repeat (first|(with_reducible first|exact HB.out|apply below_alloc|apply pw_below_drewN|apply below_drew1|refine below_set ?_ GE151.out)|exact HB.out)) hb);clear HO150;clear HO154;clear BK151;clear HB;have HO150:=n0_;have HO154:=n1_;have HO157:=n2_;have BK151:=n3_;have HB:=n4_;clear n0_ n1_ n2_ n3_ n4_;clear hb ho12)|((with_reducible refine gate_dst (N:=15) rfl ?_);(try (refine gate_guard (by rfl) ?_;dsimp only));refine Kd.R_lit k45 _ 45 ?hg (N:=15) ?hd (xs:=([(⟨2,(⟨#[]⟩ : ByteArray)⟩ : S45),(⟨1,(⟨#[]⟩ : ByteArray)⟩ : S45)] : List (S45))) (inner:=[.int .i64 2,.string (⟨#[]⟩ : ByteArray),.int .i64 1,.string (⟨#[]⟩ : ByteArray)]) (ok:=fun _=>True) (okp:=fun _=>True) ?hr ?hp (fun _ hk=>hk) trivial (Below.refl _ _) (Nat.le_refl _) (by simp) ?_;(case hd=>rfl);(case hg=>rfl);(case hr=>first|(go_simp;done)|(go_simp;rfl));(case hp=>exact (Reps.c2 (show Kd.M k45 _ _ _ (⟨2,(⟨#[]⟩ : ByteArray)⟩ : S45) [.int .i64 2,.string (⟨#[]⟩ : ByteArray)] from (k45_mkM _ _ _ (⟨2,(⟨#[]⟩ : ByteArray)⟩ : S45) )) (Reps.c2 (show Kd.M k45 _ _ _ (⟨1,(⟨#[]⟩ : ByteArray)⟩ : S45) [.int .i64 1,.string (⟨#[]⟩ : ByteArray)] from (k45_mkM _ _ _ (⟨1,(⟨#[]⟩ : ByteArray)⟩ : S45) )) (Reps.none _ _))));intro v159 w13 ho14 hb hg_ hnew_;clear hg_ hnew_;(first|rw [← Ny158.out] at ho14|(simp only [Int.reduceToNat] at ho14;rw [← Ny158.out] at ho14));have n0_:=Aside0.mk (Kd.R_below (by (with_reducible repeat (first|apply Kd.R_alloc|apply Kd.R_drewN|apply Kd.R_drew));exact HO150.out) hb);have n1_:=Aside0.mk (Kd.R_elder' (by (with_reducible repeat (first|apply Kd.R_alloc|apply Kd.R_drewN|apply Kd.R_drew));exact HO154.out) (Kd.R_base ho14) hb);have n2_:=Aside0.mk (Kd.R_elder' (by (with_reducible repeat (first|apply Kd.R_alloc|apply Kd.R_drewN|apply Kd.R_drew));exact HO157.out) (Kd.R_base ho14) hb);have n3_:=Aside0.mk (Kd.R_lower (Kd.R_new' (Kd.R_new' ho14 (Kd.R_lt (by (with_reducible repeat (first|apply Kd.R_alloc|apply Kd.R_drewN|apply Kd.R_drew));exact HO154.out))) (Kd.R_lt (by (with_reducible repeat (first|apply Kd.R_alloc|apply Kd.R_drewN|apply Kd.R_drew));exact HO157.out))) (below_size (by repeat (first|(with_reducible first|exact HB.out|apply below_alloc|apply pw_below_drewN|apply below_drew1|refine below_set ?_ GE151.out)|exact HB.out))));have n4_:=Aside0.mk (blk_below (g:=gb151) (o:=.cells #[.slice Ao6 y148.length co6,.int .i64 1,.int .i64 3,.int .i64 1] 29 (0,0)) (by (with_reducible repeat (first|refine blk_drewN ?_ _|refine blk_drew ?_|refine blk_alloc ?_ _));exact BK151.out) hb);have n5_:=Aside0.mk (below_step (by repeat (first|(with_reducible first|exact HB.out|apply below_alloc|apply pw_below_drewN|apply below_drew1|refine below_set ?_ GE151.out)|exact HB.out)) hb);clear HO150;clear HO154;clear HO157;clear BK151;clear HB;have HO150:=n0_;have HO154:=n1_;have HO157:=n2_;have HO160:=n3_;have BK151:=n4_;have HB:=n5_;clear n0_ n1_ n2_ n3_ n4_ n5_;clear hb ho14;obtain ⟨Ao15,co15,eo15⟩:=Kd.R_slice HO154.out;subst eo15;obtain ⟨Ao16,co16,eo16⟩:=Kd.R_slice HO157.out;subst eo16;obtain ⟨Ao17,co17,eo17⟩:=Kd.R_slice HO160.out;subst eo17)|((with_reducible refine gate_dst (N:=16) rfl ?_);(try (refine gate_guard (by rfl) ?_;dsimp only));refine Kd.N_lit (Kd.slice 45 k45) _ 36 ?hg (N':=16) ?hd (xs:=([y152,y155,y158] : List (List (S45)))) (inner:=[.slice Ao15 y152.length co15,.slice Ao16 y155.length co16,.slice Ao17 y158.length co17]) (ok:=(fun k_=>some k_≠(.slice Ao6 y148.length co6 : Value).ownBlock∧k_≠gb151)) (okp:=(fun k_=>some k_≠(.slice Ao6 y148.length co6 : Value).ownBlock∧k_≠gb151)) ?hr ?hp (fun _ hk=>hk) ((show ∀ k_,w13.heap.size≤k_→(fun k_=>some k_≠(.slice Ao6 y148.length co6 : Value).ownBlock∧k_≠gb151) k_ from fun k_ hk=>⟨Kd.fresh' (Kd.R_lt (by (with_reducible repeat (first|apply Kd.R_alloc|apply Kd.R_drewN|apply Kd.R_drew));exact HO150.out)) k_ hk,Kd.freshB (g:=gb151) (o:=.cells #[.slice Ao6 y148.length co6,.int .i64 1,.int .i64 3,.int .i64 1] 29 (0,0)) (by (with_reducible repeat (first|refine blk_drewN ?_ _|refine blk_drew ?_|refine blk_alloc ?_ _));exact BK151.out) k_ hk⟩) _ (Nat.le_refl _)) (Below.refl _ _) (Nat.le_refl _) (by simp) ?_;(case hd=>rfl);(case hg=>rfl);(case hr=>first|(go_simp;done)|(go_simp;rfl));(case hp=>exact (Reps.one (show Kd.FK (Kd.slice 45 k45) _ _ y152 [.slice Ao15 y152.length co15] from (Kd.FK_slice_mk (Kd.R_reads' (Kd.R_mono (ok':=(fun k_=>some k_≠(.slice Ao6 y148.length co6 : Value).ownBlock∧k_≠gb151)) (Kd.R_types (Kd.R_apart' (HO154.out) (Kd.R_typed HO150.out) (by decide)) BK151.out (by decide)) (fun k_ hk=>⟨hk.1.2,hk.2⟩))).2.1 (Kd.R_F (Kd.R_mono (ok':=(fun k_=>some k_≠(.slice Ao6 y148.length co6 : Value).ownBlock∧k_≠gb151)) (Kd.R_types (Kd.R_apart' (HO154.out) (Kd.R_typed HO150.out) (by decide)) BK151.out (by decide)) (fun k_ hk=>⟨hk.1.2,hk.2⟩))))) (Reps.one (show Kd.FK (Kd.slice 45 k45) _ _ y155 [.slice Ao16 y155.length co16] from (Kd.FK_slice_mk (Kd.R_reads' (Kd.R_mono (ok':=(fun k_=>some k_≠(.slice Ao6 y148.length co6 : Value).ownBlock∧k_≠gb151)) (Kd.R_types (Kd.R_apart' (HO157.out) (Kd.R_typed HO150.out) (by decide)) BK151.out (by decide)) (fun k_ hk=>⟨hk.1.2,hk.2⟩))).2.1 (Kd.R_F (Kd.R_mono (ok':=(fun k_=>some k_≠(.slice Ao6 y148.length co6 : Value).ownBlock∧k_≠gb151)) (Kd.R_types (Kd.R_apart' (HO157.out) (Kd.R_typed HO150.out) (by decide)) BK151.out (by decide)) (fun k_ hk=>⟨hk.1.2,hk.2⟩))))) (Reps.one (show Kd.FK (Kd.slice 45 k45) _ _ y158 [.slice Ao17 y158.length co17] from (Kd.FK_slice_mk (Kd.R_reads' (Kd.R_mono (ok':=(fun k_=>some k_≠(.slice Ao6 y148.length co6 : Value).ownBlock∧k_≠gb151)) (Kd.R_types (Kd.R_apart' (HO160.out) (Kd.R_typed HO150.out) (by decide)) BK151.out (by decide)) (fun k_ hk=>⟨hk.1.2,hk.2⟩))).2.1 (Kd.R_F (Kd.R_mono (ok':=(fun k_=>some k_≠(.slice Ao6 y148.length co6 : Value).ownBlock∧k_≠gb151)) (Kd.R_types (Kd.R_apart' (HO160.out) (Kd.R_typed HO150.out) (by decide)) BK151.out (by decide)) (fun k_ hk=>⟨hk.1.2,hk.2⟩))))) (Reps.none _ _)))));intro v162 w18 ho19 hb hg_ hnew_;clear hg_ hnew_;(first|rw [← Ny161.out] at ho19|(simp only [Int.reduceToNat] at ho19;rw [← Ny161.out] at ho19));have n0_:=Aside0.mk (Kd.R_below (by (with_reducible repeat (first|apply Kd.R_alloc|apply Kd.R_drewN|apply Kd.R_drew));exact HO150.out) hb);have n1_:=Aside0.mk (Kd.N_lower ho19 (below_size (by repeat (first|(with_reducible first|exact HB.out|apply below_alloc|apply pw_below_drewN|apply below_drew1|refine below_set ?_ GE151.out)|exact HB.out))));have n2_:=Aside0.mk (blk_below (g:=gb151) (o:=.cells #[.slice Ao6 y148.length co6,.int .i64 1,.int .i64 3,.int .i64 1] 29 (0,0)) (by (with_reducible repeat (first|refine blk_drewN ?_ _|refine blk_drew ?_|refine blk_alloc ?_ _));exact BK151.out) hb);have n3_:=Aside0.mk (below_step (by repeat (first|(with_reducible first|exact HB.out|apply below_alloc|apply pw_below_drewN|apply below_drew1|refine below_set ?_ GE151.out)|exact HB.out)) hb);clear HO150;clear BK151;clear HB;clear HO154;clear HO157;clear HO160;have HO150:=n0_;have HO163:=n1_;have BK151:=n2_;have HB:=n3_;clear n0_ n1_ n2_ n3_;clear hb ho19;have hcz20_0 : w18.cell? ⟨gb151,0,none⟩=some (.slice Ao6 y148.length co6):=(blk_cell BK151.out 0).trans rfl;have hcz20_1 : w18.cell? ⟨gb151,1,none⟩=some (.int .i64 1):=(blk_cell BK151.out 1).trans rfl;have hcz20_2 : w18.cell? ⟨gb151,2,none⟩=some (.int .i64 3):=(blk_cell BK151.out 2).trans rfl;have hcz20_3 : w18.cell? ⟨gb151,3,none⟩=some (.int .i64 1):=(blk_cell BK151.out 3).trans rfl;have hfz20_0:=blk_frozen BK151.out 0;have hfz20_1:=blk_frozen BK151.out 1;have hfz20_2:=blk_frozen BK151.out 2;have hfz20_3:=blk_frozen BK151.out 3;obtain ⟨Ao21,co21,eo21⟩:=Kd.N_slice HO163.out;subst eo21)|((with_reducible refine gate_callee (f:=13) rfl ?_);refine goesL_ (some 19) rfl rfl Try.func13 (by kernel_rfl) rfl #[.agg #[.slice Ao6 y148.length co6,.int .i64 1,.int .i64 3,.int .i64 1],.slice Ao21 y161.length co21] rfl (by (try simp only [List.map_toArray,List.map_cons,List.map_nil]);first|done|rfl|(simp only [List.length_drop,List.length_take];rfl)) ?_;(with_reducible refine (fold_Rows.calls k _ _ y148 1 3 1 (fun k_=>(some k_≠(.slice Ao6 y148.length co6 : Value).ownBlock∧k_≠gb151)) _ _ y161 t164 _ ?side1 ?side2 ?side3 A1.out).mono ?_);(case side1=>repeat (first|exact (Kd.R_reads' HO150.out).2.2|(with_reducible refine Kd.C_alloc ?_ _)|(with_reducible refine Kd.C_drewN ?_ _)|(with_reducible refine Kd.C_drew ?_)));(case side2=>exact (Kd.R_reads' HO150.out).2.1);(case side3=>exact Kd.N_V (HO163.out));rintro e w22 ⟨v165,rfl,ho0,hb⟩;refine ⟨_,rfl,?_⟩;have n0_:=Aside0.mk (Kd.R_below (by (with_reducible repeat (first|apply Kd.R_alloc|apply Kd.R_drewN|apply Kd.R_drew));exact HO150.out) hb);have n1_:=Aside0.mk (Kd.N_elder' (by (with_reducible repeat (first|apply Kd.N_alloc|apply Kd.N_drewN|apply Kd.N_drew));exact HO163.out) (by first|exact Kd.N_base ho0|exact Kd.S_base ho0) hb);have n2_:=Aside0.mk (Kd.N_lower (Kd.N_mono (ok':=fun k_=>some k_≠(.slice Ao6 y148.length co6 : Value).ownBlock∧k_≠gb151) ho0 (fun k_ hk_=>⟨Or.elim hk_ (fun hs_=>hs_.1) (fun hn_=>(Kd.fresh' (Kd.R_lt (by (with_reducible repeat (first|apply Kd.R_alloc|apply Kd.R_drewN|apply Kd.R_drew));exact HO150.out)) k_ hn_)),Or.elim hk_ (fun hs_=>hs_.2) (fun hn_=>(Kd.freshB (g:=gb151) (o:=.cells #[.slice Ao6 y148.length co6,.int .i64 1,.int .i64 3,.int .i64 1] 29 (0,0)) (by (with_reducible repeat (first|refine blk_drewN ?_ _|refine blk_drew ?_|refine blk_alloc ?_ _));exact BK151.out) k_ hn_))⟩)) (below_size (by repeat (first|(with_reducible first|exact HB.out|apply below_alloc|apply pw_below_drewN|apply below_drew1|refine below_set ?_ GE151.out)|exact HB.out))));have n3_:=Aside0.mk (blk_below (g:=gb151) (o:=.cells #[.slice Ao6 y148.length co6,.int .i64 1,.int .i64 3,.int .i64 1] 29 (0,0)) (by (with_reducible repeat (first|refine blk_drewN ?_ _|refine blk_drew ?_|refine blk_alloc ?_ _));exact BK151.out) hb);have n4_:=Aside0.mk (below_step (by repeat (first|(with_reducible first|exact HB.out|apply below_alloc|apply pw_below_drewN|apply below_drew1|refine below_set ?_ GE151.out)|exact HB.out)) hb);clear HO150;clear HO163;clear BK151;clear HB;have HO150:=n0_;have HO163:=n1_;have HO166:=n2_;have BK151:=n3_;have HB:=n4_;clear n0_ n1_ n2_ n3_ n4_;(try clear hb);(try clear hb2);(try clear hk);(try clear hi);(try clear ho0);have hcz23_0 : w22.cell? ⟨gb151,0,none⟩=some (.slice Ao6 y148.length co6):=(blk_cell BK151.out 0).trans rfl;have hcz23_1 : w22.cell? ⟨gb151,1,none⟩=some (.int .i64 1):=(blk_cell BK151.out 1).trans rfl;have hcz23_2 : w22.cell? ⟨gb151,2,none⟩=some (.int .i64 3):=(blk_cell BK151.out 2).trans rfl;have hcz23_3 : w22.cell? ⟨gb151,3,none⟩=some (.int .i64 1):=(blk_cell BK151.out 3).trans rfl;have hfz23_0:=blk_frozen BK151.out 0;have hfz23_1:=blk_frozen BK151.out 1;have hfz23_2:=blk_frozen BK151.out 2;have hfz23_3:=blk_frozen BK151.out 3)|((with_reducible refine gate_store (t:=3) (p:=20) rfl ?_);refine store_event (t:=3) (p:=20) (v:=?vo_w24) (w1:=(w22.setCell ⟨gb151,2,none⟩ (.int .i64 2))) ?hg ?ho ?hn ?hr ?_;(case ho=>rfl);(case hg=>rfl);(case hn=>rfl);(case hr=>first|(go_simp;done)|(go_simp;rfl));intro w24 hw;have n0_ : Aside0 (Kd.R (Kd.int .i64) 3 w24 w.heap.size (fun _=>True) (.slice Ao6 y148.length co6) y148):=⟨(by rw [hw];exact (by (with_reducible repeat (first|apply Kd.R_alloc|apply Kd.R_drewN|apply Kd.R_drew));exact Kd.R_mono (Kd.R_far (p:=⟨gb151,2,none⟩) (Kd.R_types HO150.out BK151.out (by decide)) (fun _ hk=>hk.2) (.int .i64 2)) (fun _ hk=>trivial)))⟩;have n1_ : Aside0 (Kd.N (Kd.slice 45 k45) 36 w24 w.heap.size (fun k_=>some k_≠(.slice Ao6 y148.length co6 : Value).ownBlock∧some k_≠(v165 : Value).ownBlock∧k_≠gb151) (.slice Ao21 y161.length co21) y161):=⟨(by rw [hw];exact (by (with_reducible repeat (first|apply Kd.N_alloc|apply Kd.N_drewN|apply Kd.N_drew));exact Kd.N_mono (Kd.N_far (p:=⟨gb151,2,none⟩) (Kd.N_mono HO163.out (fun k_ hk=>(⟨hk,hk.1.2⟩ : _∧k_≠gb151))) (fun _ hk=>hk.2) (.int .i64 2)) (fun _ hk=>⟨hk.1.1.1,⟨hk.1.2,hk.1.1.2⟩⟩)))⟩;have n2_ : Aside0 (Kd.N (Kd.slice 45 k45) 36 w24 w.heap.size (fun k_=>some k_≠(.slice Ao6 y148.length co6 : Value).ownBlock∧k_≠gb151) v165 t164):=⟨(by rw [hw];exact (by (with_reducible repeat (first|apply Kd.N_alloc|apply Kd.N_drewN|apply Kd.N_drew));exact Kd.N_mono (Kd.N_far (p:=⟨gb151,2,none⟩) (Kd.N_mono HO166.out (fun k_ hk=>(⟨hk,hk.2⟩ : _∧k_≠gb151))) (fun _ hk=>hk.2) (.int .i64 2)) (fun _ hk=>⟨hk.1.1,hk.1.2⟩)))⟩;have n3_ : Aside0 (w24.heap[gb151]?=some (.cells #[.slice Ao6 y148.length co6,.int .i64 1,.int .i64 2,.int .i64 1] 29 (0,0))):=⟨(by rw [hw];exact (by (with_reducible repeat (first|refine blk_drewN ?_ _|refine blk_drew ?_|refine blk_alloc ?_ _));refine blk_put (cs:=#[.slice Ao6 y148.length co6,.int .i64 1,.int .i64 3,.int .i64 1]) ?_ 2 _ rfl;(with_reducible repeat (first|refine blk_drewN ?_ _|refine blk_drew ?_|refine blk_alloc ?_ _));exact BK151.out))⟩;have n4_ : Aside0 (Below w.heap.size w w24):=⟨(by rw [hw];exact (by repeat (first|(with_reducible first|exact HB.out|apply below_alloc|apply pw_below_drewN|apply below_drew1|refine below_set ?_ GE151.out)|exact HB.out)))⟩;clear hw;clear HO150;clear HO163;clear HO166;clear BK151;clear HB;have HO150:=n0_;have HO163:=n1_;have HO166:=n2_;have BK151:=n3_;have HB:=n4_;clear n0_ n1_ n2_ n3_ n4_;have hcz25_0 : w24.cell? ⟨gb151,0,none⟩=some (.slice Ao6 y148.length co6):=(blk_cell BK151.out 0).trans rfl;have hcz25_1 : w24.cell? ⟨gb151,1,none⟩=some (.int .i64 1):=(blk_cell BK151.out 1).trans rfl;have hcz25_2 : w24.cell? ⟨gb151,2,none⟩=some (.int .i64 2):=(blk_cell BK151.out 2).trans rfl;have hcz25_3 : w24.cell? ⟨gb151,3,none⟩=some (.int .i64 1):=(blk_cell BK151.out 3).trans rfl;have hfz25_0:=blk_frozen BK151.out 0;have hfz25_1:=blk_frozen BK151.out 1;have hfz25_2:=blk_frozen BK151.out 2;have hfz25_3:=blk_frozen BK151.out 3)|((with_reducible refine gate_callee (f:=13) rfl ?_);refine goesL_ (some 23) rfl rfl Try.func13 (by kernel_rfl) rfl #[.agg #[.slice Ao6 y148.length co6,.int .i64 1,.int .i64 2,.int .i64 1],.slice Ao21 y161.length co21] rfl (by (try simp only [List.map_toArray,List.map_cons,List.map_nil]);first|done|rfl|(simp only [List.length_drop,List.length_take];rfl)) ?_;(with_reducible refine (fold_Rows.calls k _ _ y148 1 2 1 (fun k_=>(some k_≠(.slice Ao6 y148.length co6 : Value).ownBlock∧(some k_≠(v165 : Value).ownBlock∧k_≠gb151))) _ _ y161 t167 _ ?side1 ?side2 ?side3 A2.out).mono ?_);(case side1=>repeat (first|exact (Kd.R_reads' HO150.out).2.2|(with_reducible refine Kd.C_alloc ?_ _)|(with_reducible refine Kd.C_drewN ?_ _)|(with_reducible refine Kd.C_drew ?_)));(case side2=>exact (Kd.R_reads' HO150.out).2.1);(case side3=>exact Kd.N_V (HO163.out));rintro e w26 ⟨v168,rfl,ho0,hb⟩;refine ⟨_,rfl,?_⟩;have n0_:=Aside0.mk (Kd.R_below (by (with_reducible repeat (first|apply Kd.R_alloc|apply Kd.R_drewN|apply Kd.R_drew));exact HO150.out) hb);have n1_:=Aside0.mk (Kd.N_elder' (by (with_reducible repeat (first|apply Kd.N_alloc|apply Kd.N_drewN|apply Kd.N_drew));exact HO163.out) (by first|exact Kd.N_base ho0|exact Kd.S_base ho0) hb);have n2_:=Aside0.mk (Kd.N_elder' (by (with_reducible repeat (first|apply Kd.N_alloc|apply Kd.N_drewN|apply Kd.N_drew));exact HO166.out) (by first|exact Kd.N_base ho0|exact Kd.S_base ho0) hb);have n3_:=Aside0.mk (Kd.N_lower (Kd.N_mono (ok':=fun k_=>some k_≠(.slice Ao6 y148.length co6 : Value).ownBlock∧some k_≠(v165 : Value).ownBlock∧k_≠gb151) ho0 (fun k_ hk_=>⟨Or.elim hk_ (fun hs_=>hs_.1) (fun hn_=>(Kd.fresh' (Kd.R_lt (by (with_reducible repeat (first|apply Kd.R_alloc|apply Kd.R_drewN|apply Kd.R_drew));exact HO150.out)) k_ hn_)),Or.elim hk_ (fun hs_=>hs_.2.1) (fun hn_=>(Kd.fresh' (Kd.N_lt (by (with_reducible repeat (first|apply Kd.N_alloc|apply Kd.N_drewN|apply Kd.N_drew));exact HO166.out)) k_ hn_)),Or.elim hk_ (fun hs_=>hs_.2.2) (fun hn_=>(Kd.freshB (g:=gb151) (o:=.cells #[.slice Ao6 y148.length co6,.int .i64 1,.int .i64 2,.int .i64 1] 29 (0,0)) (by (with_reducible repeat (first|refine blk_drewN ?_ _|refine blk_drew ?_|refine blk_alloc ?_ _));exact BK151.out) k_ hn_))⟩)) (below_size (by repeat (first|(with_reducible first|exact HB.out|apply below_alloc|apply pw_below_drewN|apply below_drew1|refine below_set ?_ GE151.out)|exact HB.out))));have n4_:=Aside0.mk (blk_below (g:=gb151) (o:=.cells #[.slice Ao6 y148.length co6,.int .i64 1,.int .i64 2,.int .i64 1] 29 (0,0)) (by (with_reducible repeat (first|refine blk_drewN ?_ _|refine blk_drew ?_|refine blk_alloc ?_ _));exact BK151.out) hb);have n5_:=Aside0.mk (below_step (by repeat (first|(with_reducible first|exact HB.out|apply below_alloc|apply pw_below_drewN|apply below_drew1|refine below_set ?_ GE151.out)|exact HB.out)) hb);clear HO150;clear HO163;clear HO166;clear BK151;clear HB;have HO150:=n0_;have HO163:=n1_;have HO166:=n2_;have HO169:=n3_;have BK151:=n4_;have HB:=n5_;clear n0_ n1_ n2_ n3_ n4_ n5_;(try clear hb);(try clear hb2);(try clear hk);(try clear hi);(try clear ho0)))
 (try simp only [Act.put,List.setIfInBounds_toArray,List.set_cons_zero,List.set_cons_succ])
 go_cut [0] (fun v0 wc=>∃ (kq : Nat) (x0_2 : Bool),v0=.bool x0_2∧Aside0 (thresherlaw13_shown.j0 kq x0_2=some r)∧Aside0 (kq≤k)∧Aside0 (Kd.R (Kd.int .i64) 3 wc w.heap.size (fun _=>True) (.slice Ao6 y148.length co6) y148)∧Aside0 (wc.heap[gb151]?=some (.cells #[(.slice Ao6 y148.length co6),.int .i64 1,.int .i64 2,.int .i64 1] 29 (0,0)))∧Aside0 (Below w.heap.size w wc))
 case first =>
  have H:=HC3.out
  clear HC3
  by_cases c27 : (t164.length : Int)=2
  ·rw [if_pos c27] at H
   have c27b0 : ((t164.length : Int) == 2)=true:=beq_iff_eq.mpr c27
   have c27b1 : ((t164.length : Int) != 2)=false:=bne_eq_false_iff_eq.mpr c27
   clear c27
   (first|rw [c27b0]|(simp only [i64_w,i32_w];rw [c27b0])|skip)
   by_cases c28 : (t167.length : Int)=2
   ·rw [if_pos c28] at H
    have c28b0 : ((t167.length : Int) == 2)=true:=beq_iff_eq.mpr c28
    have c28b1 : ((t167.length : Int) != 2)=false:=bne_eq_false_iff_eq.mpr c28
    clear c28
    by_cases c29 : 0 < (t164.length : Int)
    ·rw [if_pos c29] at H
     have c29b0 : decide (0 < (t164.length : Int))=true:=decide_eq_true c29
     have c29b1 : decide (0 < t164.length)=true:=decide_eq_true (by omega)
     clear c29
     by_cases c30 : ((rd_L5 t164 0).length : Int)=2
     ·rw [if_pos c30] at H
      have c30b0 : (((rd_L5 t164 0).length : Int) == 2)=true:=beq_iff_eq.mpr c30
      have c30b1 : (((rd_L5 t164 0).length : Int) != 2)=false:=bne_eq_false_iff_eq.mpr c30
      clear c30
      by_cases c31 : 0 < (t167.length : Int)
      ·rw [if_pos c31] at H
       have c31b0 : decide (0 < (t167.length : Int))=true:=decide_eq_true c31
       have c31b1 : decide (0 < t167.length)=true:=decide_eq_true (by omega)
       clear c31
       by_cases c32 : ((rd_L5 t167 0).length : Int)=2
       ·rw [if_pos c32] at H
        have c32b0 : (((rd_L5 t167 0).length : Int) == 2)=true:=beq_iff_eq.mpr c32
        have c32b1 : (((rd_L5 t167 0).length : Int) != 2)=false:=bne_eq_false_iff_eq.mpr c32
        clear c32
        by_cases c33 : 1 < ((rd_L5 t164 0).length : Int)
        ·rw [if_pos c33] at H
         have c33b0 : decide (1 < ((rd_L5 t164 0).length : Int))=true:=decide_eq_true c33
         have c33b1 : decide (1 < (rd_L5 t164 0).length)=true:=decide_eq_true (by omega)
         clear c33
         by_cases c34 : ((rd_T45 (rd_L5 t164 0) 1).f0)=12
         ·rw [if_pos c34] at H
          have c34b0 : (((rd_T45 (rd_L5 t164 0) 1).f0) == 12)=true:=beq_iff_eq.mpr c34
          have c34b1 : (((rd_T45 (rd_L5 t164 0) 1).f0) != 12)=false:=bne_eq_false_iff_eq.mpr c34
          clear c34
          by_cases c35 : 1 < ((rd_L5 t167 0).length : Int)
          ·rw [if_pos c35] at H
           have c35b0 : decide (1 < ((rd_L5 t167 0).length : Int))=true:=decide_eq_true c35
           have c35b1 : decide (1 < (rd_L5 t167 0).length)=true:=decide_eq_true (by omega)
           clear c35
           have H':=Aside0.mk H
           clear H
           obtain ⟨Ao36,co36,eo36⟩:=Kd.N_slice HO166.out
           subst eo36
           obtain ⟨Ao37,co37,eo37⟩:=Kd.N_slice HO169.out
           subst eo37
           have p170 : 0≤(0 : Int):=(by omega)
           have q170 : 0 < (t164.length : Int):=of_decide_eq_true (by first|(with_reducible assumption)|assumption)
           obtain ⟨ad170,A170_0,c170_0,e170,hx170_0,hl170_0,hi170_0⟩:=at_L5 (Kd.N_reads' HO166.out).2.2 0 p170 q170
           cases e170
           obtain ⟨ce170,hce170,hMe170,hcc170⟩:=Kd.N_get HO166.out [] 0 p170 (by first|exact q170|exact of_decide_eq_true (by first|(with_reducible assumption)|assumption)|(have e_:=(Kd.N_reads' HO166.out).1;omega))
           obtain ⟨ua170_0,uc170_0,rfl,ul170_0,ge170_0⟩:=Kd.FK_slice_open hMe170
           have hv170_0:=hcc170 0 _ rfl
           rw [Nat.add_zero,show ((Kd.slice 45 k45)).sz=1 from rfl,Nat.mul_one] at hv170_0
           replace hv170_0:=Option.some.inj (hv170_0.symm.trans hx170_0)
           injection hv170_0 with hva_ hvn_ hvc_
           rw [hva_] at ge170_0
           rw [hvc_] at ul170_0
           have HL170_0:=Aside0.mk (show Kd.V k45 45 _ w.heap.size _ _ (rd_L5 t164 0) from Kd.V_mk ul170_0 ge170_0)
           clear hva_ hvn_ hvc_ ge170_0 ul170_0
           clear hcc170 hce170
           have qi170 : (0 < t164.length)=True:=eq_true (by omega)
           (try rw [show ((0 : Int)).toNat=0 from rfl] at hx170_0)
           (try rw [Addr.add_zero'] at hx170_0)
           have HR170_0:=Aside0.mk hi170_0
           have HC170_0:=Aside0.mk hl170_0
           clear hi170_0 hl170_0
           replace p170:=eq_true p170
           replace q170:=eq_true q170
           have p171 : 0≤(0 : Int):=(by omega)
           have q171 : 0 < (t167.length : Int):=of_decide_eq_true (by first|(with_reducible assumption)|assumption)
           obtain ⟨ad171,A171_0,c171_0,e171,hx171_0,hl171_0,hi171_0⟩:=at_L5 (Kd.N_reads' HO169.out).2.2 0 p171 q171
           cases e171
           obtain ⟨ce171,hce171,hMe171,hcc171⟩:=Kd.N_get HO169.out [] 0 p171 (by first|exact q171|exact of_decide_eq_true (by first|(with_reducible assumption)|assumption)|(have e_:=(Kd.N_reads' HO169.out).1;omega))
           obtain ⟨ua171_0,uc171_0,rfl,ul171_0,ge171_0⟩:=Kd.FK_slice_open hMe171
           have hv171_0:=hcc171 0 _ rfl
           rw [Nat.add_zero,show ((Kd.slice 45 k45)).sz=1 from rfl,Nat.mul_one] at hv171_0
           replace hv171_0:=Option.some.inj (hv171_0.symm.trans hx171_0)
           injection hv171_0 with hva_ hvn_ hvc_
           rw [hva_] at ge171_0
           rw [hvc_] at ul171_0
           have HL171_0:=Aside0.mk (show Kd.V k45 45 _ w.heap.size _ _ (rd_L5 t167 0) from Kd.V_mk ul171_0 ge171_0)
           clear hva_ hvn_ hvc_ ge171_0 ul171_0
           clear hcc171 hce171
           have qi171 : (0 < t167.length)=True:=eq_true (by omega)
           (try rw [show ((0 : Int)).toNat=0 from rfl] at hx171_0)
           (try rw [Addr.add_zero'] at hx171_0)
           have HR171_0:=Aside0.mk hi171_0
           have HC171_0:=Aside0.mk hl171_0
           clear hi171_0 hl171_0
           replace p171:=eq_true p171
           replace q171:=eq_true q171
           have p172 : 0≤(0 : Int):=(by omega)
           have q172 : 0 < (t164.length : Int):=of_decide_eq_true (by first|(with_reducible assumption)|assumption)
           obtain ⟨ad172,A172_0,c172_0,e172,hx172_0,hl172_0,hi172_0⟩:=at_L5 (Kd.N_reads' HO166.out).2.2 0 p172 q172
           obtain rfl : ad170=ad172:=(by injection e172)
           obtain ⟨ce172,hce172,hMe172,hcc172⟩:=Kd.N_get HO166.out [] 0 p172 (by first|exact q172|exact of_decide_eq_true (by first|(with_reducible assumption)|assumption)|(have e_:=(Kd.N_reads' HO166.out).1;omega))
           obtain ⟨ua172_0,uc172_0,rfl,ul172_0,ge172_0⟩:=Kd.FK_slice_open hMe172
           have hv172_0:=hcc172 0 _ rfl
           rw [Nat.add_zero,show ((Kd.slice 45 k45)).sz=1 from rfl,Nat.mul_one] at hv172_0
           replace hv172_0:=Option.some.inj (hv172_0.symm.trans hx172_0)
           injection hv172_0 with hva_ hvn_ hvc_
           rw [hva_] at ge172_0
           rw [hvc_] at ul172_0
           have HL172_0:=Aside0.mk (show Kd.V k45 45 _ w.heap.size _ _ (rd_L5 t164 0) from Kd.V_mk ul172_0 ge172_0)
           clear hva_ hvn_ hvc_ ge172_0 ul172_0
           clear hcc172 hce172
           have qi172 : (0 < t164.length)=True:=eq_true (by omega)
           (try rw [show ((0 : Int)).toNat=0 from rfl] at hx172_0)
           (try rw [Addr.add_zero'] at hx172_0)
           have HR172_0:=Aside0.mk hi172_0
           have HC172_0:=Aside0.mk hl172_0
           clear hi172_0 hl172_0
           replace p172:=eq_true p172
           replace q172:=eq_true q172
           have ea_:=Option.some.inj (hx170_0.symm.trans hx172_0)
           injection ea_ with ea_ en_ ec_
           subst ea_
           subst ec_
           clear en_
           have p173 : 0≤(1 : Int):=(by omega)
           have q173 : 1 < ((rd_L5 t164 0).length : Int):=of_decide_eq_true (by first|(with_reducible assumption)|assumption)
           obtain ⟨ad173,e173,hx173_0,hx173_1⟩:=at_T45 (by repeat (first|(with_reducible exact HR172_0.out)|(with_reducible refine Kd.C_alloc ?_ _)|(with_reducible refine Kd.C_drewN ?_ _)|(with_reducible refine Kd.C_drew ?_)|exact HR172_0.out)) 1 p173 q173
           cases e173
           (try simp only [show (1 : Int).toNat=1 from rfl,Nat.reduceMul,Nat.reduceEqDiff,Go.Addr.add,↓reduceIte] at hx173_0)
           (try simp only [show (1 : Int).toNat=1 from rfl,Nat.reduceMul,Nat.reduceEqDiff,Go.Addr.add,↓reduceIte] at hx173_1)
           have qi173 : (1 < (rd_L5 t164 0).length)=True:=eq_true (by omega)
           (try rw [show ((1 : Int)).toNat=1 from rfl] at hx173_0)
           (try rw [show 1 * 2=2 from rfl] at hx173_0)
           (try rw [show ((1 : Int)).toNat=1 from rfl] at hx173_1)
           (try rw [show 1 * 2=2 from rfl] at hx173_1)
           replace p173:=eq_true p173
           replace q173:=eq_true q173
           have p174 : 0≤(0 : Int):=(by omega)
           have q174 : 0 < (t167.length : Int):=of_decide_eq_true (by first|(with_reducible assumption)|assumption)
           obtain ⟨ad174,A174_0,c174_0,e174,hx174_0,hl174_0,hi174_0⟩:=at_L5 (Kd.N_reads' HO169.out).2.2 0 p174 q174
           obtain rfl : ad171=ad174:=(by injection e174)
           obtain ⟨ce174,hce174,hMe174,hcc174⟩:=Kd.N_get HO169.out [] 0 p174 (by first|exact q174|exact of_decide_eq_true (by first|(with_reducible assumption)|assumption)|(have e_:=(Kd.N_reads' HO169.out).1;omega))
           obtain ⟨ua174_0,uc174_0,rfl,ul174_0,ge174_0⟩:=Kd.FK_slice_open hMe174
           have hv174_0:=hcc174 0 _ rfl
           rw [Nat.add_zero,show ((Kd.slice 45 k45)).sz=1 from rfl,Nat.mul_one] at hv174_0
           replace hv174_0:=Option.some.inj (hv174_0.symm.trans hx174_0)
           injection hv174_0 with hva_ hvn_ hvc_
           rw [hva_] at ge174_0
           rw [hvc_] at ul174_0
           have HL174_0:=Aside0.mk (show Kd.V k45 45 _ w.heap.size _ _ (rd_L5 t167 0) from Kd.V_mk ul174_0 ge174_0)
           clear hva_ hvn_ hvc_ ge174_0 ul174_0
           clear hcc174 hce174
           have qi174 : (0 < t167.length)=True:=eq_true (by omega)
           (try rw [show ((0 : Int)).toNat=0 from rfl] at hx174_0)
           (try rw [Addr.add_zero'] at hx174_0)
           have HR174_0:=Aside0.mk hi174_0
           have HC174_0:=Aside0.mk hl174_0
           clear hi174_0 hl174_0
           replace p174:=eq_true p174
           replace q174:=eq_true q174
           have ea_:=Option.some.inj (hx171_0.symm.trans hx174_0)
           injection ea_ with ea_ en_ ec_
           subst ea_
           subst ec_
           clear en_
           have p175 : 0≤(1 : Int):=(by omega)
           have q175 : 1 < ((rd_L5 t167 0).length : Int):=of_decide_eq_true (by first|(with_reducible assumption)|assumption)
           obtain ⟨ad175,e175,hx175_0,hx175_1⟩:=at_T45 (by repeat (first|(with_reducible exact HR174_0.out)|(with_reducible refine Kd.C_alloc ?_ _)|(with_reducible refine Kd.C_drewN ?_ _)|(with_reducible refine Kd.C_drew ?_)|exact HR174_0.out)) 1 p175 q175
           cases e175
           (try simp only [show (1 : Int).toNat=1 from rfl,Nat.reduceMul,Nat.reduceEqDiff,Go.Addr.add,↓reduceIte] at hx175_0)
           (try simp only [show (1 : Int).toNat=1 from rfl,Nat.reduceMul,Nat.reduceEqDiff,Go.Addr.add,↓reduceIte] at hx175_1)
           have qi175 : (1 < (rd_L5 t167 0).length)=True:=eq_true (by omega)
           (try rw [show ((1 : Int)).toNat=1 from rfl] at hx175_0)
           (try rw [show 1 * 2=2 from rfl] at hx175_0)
           (try rw [show ((1 : Int)).toNat=1 from rfl] at hx175_1)
           (try rw [show 1 * 2=2 from rfl] at hx175_1)
           replace p175:=eq_true p175
           replace q175:=eq_true q175
           go_wp2
           go_meet
           case rel=>exact ⟨_,((((rd_T45 (rd_L5 t167 0) 1).f0) == 7)),(by first|rfl|(simp;done)|(simp [*];done)),(by first|exact H'|(subst_vars;exact H')),⟨by first|omega|exact Nat.le_refl _⟩,⟨by (with_reducible repeat (first|apply Kd.R_alloc|apply Kd.R_drewN|apply Kd.R_drew));exact HO150.out⟩,⟨by (with_reducible repeat (first|refine blk_drewN ?_ _|refine blk_drew ?_|refine blk_alloc ?_ _));exact BK151.out⟩,⟨by repeat (first|(with_reducible first|exact HB.out|apply below_alloc|apply pw_below_drewN|apply below_drew1|refine below_set ?_ GE151.out)|exact HB.out)⟩⟩
          ·rw [if_neg c35] at H
           exact absurd H (by simp)
         ·rw [if_neg c34] at H
          have c34b0 : (((rd_T45 (rd_L5 t164 0) 1).f0) == 12)=false:=beq_eq_false_iff_ne.mpr c34
          have c34b1 : (((rd_T45 (rd_L5 t164 0) 1).f0) != 12)=true:=bne_iff_ne.mpr c34
          have H':=Aside0.mk H
          clear H
          obtain ⟨Ao38,co38,eo38⟩:=Kd.N_slice HO166.out
          subst eo38
          obtain ⟨Ao39,co39,eo39⟩:=Kd.N_slice HO169.out
          subst eo39
          have p170 : 0≤(0 : Int):=(by omega)
          have q170 : 0 < (t164.length : Int):=of_decide_eq_true (by first|(with_reducible assumption)|assumption)
          obtain ⟨ad170,A170_0,c170_0,e170,hx170_0,hl170_0,hi170_0⟩:=at_L5 (Kd.N_reads' HO166.out).2.2 0 p170 q170
          cases e170
          obtain ⟨ce170,hce170,hMe170,hcc170⟩:=Kd.N_get HO166.out [] 0 p170 (by first|exact q170|exact of_decide_eq_true (by first|(with_reducible assumption)|assumption)|(have e_:=(Kd.N_reads' HO166.out).1;omega))
          obtain ⟨ua170_0,uc170_0,rfl,ul170_0,ge170_0⟩:=Kd.FK_slice_open hMe170
          have hv170_0:=hcc170 0 _ rfl
          rw [Nat.add_zero,show ((Kd.slice 45 k45)).sz=1 from rfl,Nat.mul_one] at hv170_0
          replace hv170_0:=Option.some.inj (hv170_0.symm.trans hx170_0)
          injection hv170_0 with hva_ hvn_ hvc_
          rw [hva_] at ge170_0
          rw [hvc_] at ul170_0
          have HL170_0:=Aside0.mk (show Kd.V k45 45 _ w.heap.size _ _ (rd_L5 t164 0) from Kd.V_mk ul170_0 ge170_0)
          clear hva_ hvn_ hvc_ ge170_0 ul170_0
          clear hcc170 hce170
          have qi170 : (0 < t164.length)=True:=eq_true (by omega)
          (try rw [show ((0 : Int)).toNat=0 from rfl] at hx170_0)
          (try rw [Addr.add_zero'] at hx170_0)
          have HR170_0:=Aside0.mk hi170_0
          have HC170_0:=Aside0.mk hl170_0
          clear hi170_0 hl170_0
          replace p170:=eq_true p170
          replace q170:=eq_true q170
          have p171 : 0≤(0 : Int):=(by omega)
          have q171 : 0 < (t167.length : Int):=of_decide_eq_true (by first|(with_reducible assumption)|assumption)
          obtain ⟨ad171,A171_0,c171_0,e171,hx171_0,hl171_0,hi171_0⟩:=at_L5 (Kd.N_reads' HO169.out).2.2 0 p171 q171
          cases e171
          obtain ⟨ce171,hce171,hMe171,hcc171⟩:=Kd.N_get HO169.out [] 0 p171 (by first|exact q171|exact of_decide_eq_true (by first|(with_reducible assumption)|assumption)|(have e_:=(Kd.N_reads' HO169.out).1;omega))
          obtain ⟨ua171_0,uc171_0,rfl,ul171_0,ge171_0⟩:=Kd.FK_slice_open hMe171
          have hv171_0:=hcc171 0 _ rfl
          rw [Nat.add_zero,show ((Kd.slice 45 k45)).sz=1 from rfl,Nat.mul_one] at hv171_0
          replace hv171_0:=Option.some.inj (hv171_0.symm.trans hx171_0)
          injection hv171_0 with hva_ hvn_ hvc_
          rw [hva_] at ge171_0
          rw [hvc_] at ul171_0
          have HL171_0:=Aside0.mk (show Kd.V k45 45 _ w.heap.size _ _ (rd_L5 t167 0) from Kd.V_mk ul171_0 ge171_0)
          clear hva_ hvn_ hvc_ ge171_0 ul171_0
          clear hcc171 hce171
          have qi171 : (0 < t167.length)=True:=eq_true (by omega)
          (try rw [show ((0 : Int)).toNat=0 from rfl] at hx171_0)
          (try rw [Addr.add_zero'] at hx171_0)
          have HR171_0:=Aside0.mk hi171_0
          have HC171_0:=Aside0.mk hl171_0
          clear hi171_0 hl171_0
          replace p171:=eq_true p171
          replace q171:=eq_true q171
          have p172 : 0≤(0 : Int):=(by omega)
          have q172 : 0 < (t164.length : Int):=of_decide_eq_true (by first|(with_reducible assumption)|assumption)
          obtain ⟨ad172,A172_0,c172_0,e172,hx172_0,hl172_0,hi172_0⟩:=at_L5 (Kd.N_reads' HO166.out).2.2 0 p172 q172
          obtain rfl : ad170=ad172:=(by injection e172)
          obtain ⟨ce172,hce172,hMe172,hcc172⟩:=Kd.N_get HO166.out [] 0 p172 (by first|exact q172|exact of_decide_eq_true (by first|(with_reducible assumption)|assumption)|(have e_:=(Kd.N_reads' HO166.out).1;omega))
          obtain ⟨ua172_0,uc172_0,rfl,ul172_0,ge172_0⟩:=Kd.FK_slice_open hMe172
          have hv172_0:=hcc172 0 _ rfl
          rw [Nat.add_zero,show ((Kd.slice 45 k45)).sz=1 from rfl,Nat.mul_one] at hv172_0
          replace hv172_0:=Option.some.inj (hv172_0.symm.trans hx172_0)
          injection hv172_0 with hva_ hvn_ hvc_
          rw [hva_] at ge172_0
          rw [hvc_] at ul172_0
          have HL172_0:=Aside0.mk (show Kd.V k45 45 _ w.heap.size _ _ (rd_L5 t164 0) from Kd.V_mk ul172_0 ge172_0)
          clear hva_ hvn_ hvc_ ge172_0 ul172_0
          clear hcc172 hce172
          have qi172 : (0 < t164.length)=True:=eq_true (by omega)
          (try rw [show ((0 : Int)).toNat=0 from rfl] at hx172_0)
          (try rw [Addr.add_zero'] at hx172_0)
          have HR172_0:=Aside0.mk hi172_0
          have HC172_0:=Aside0.mk hl172_0
          clear hi172_0 hl172_0
          replace p172:=eq_true p172
          replace q172:=eq_true q172
          have ea_:=Option.some.inj (hx170_0.symm.trans hx172_0)
          injection ea_ with ea_ en_ ec_
          subst ea_
          subst ec_
          clear en_
          have p173 : 0≤(1 : Int):=(by omega)
          have q173 : 1 < ((rd_L5 t164 0).length : Int):=of_decide_eq_true (by first|(with_reducible assumption)|assumption)
          obtain ⟨ad173,e173,hx173_0,hx173_1⟩:=at_T45 (by repeat (first|(with_reducible exact HR172_0.out)|(with_reducible refine Kd.C_alloc ?_ _)|(with_reducible refine Kd.C_drewN ?_ _)|(with_reducible refine Kd.C_drew ?_)|exact HR172_0.out)) 1 p173 q173
          cases e173
          (try simp only [show (1 : Int).toNat=1 from rfl,Nat.reduceMul,Nat.reduceEqDiff,Go.Addr.add,↓reduceIte] at hx173_0)
          (try simp only [show (1 : Int).toNat=1 from rfl,Nat.reduceMul,Nat.reduceEqDiff,Go.Addr.add,↓reduceIte] at hx173_1)
          have qi173 : (1 < (rd_L5 t164 0).length)=True:=eq_true (by omega)
          (try rw [show ((1 : Int)).toNat=1 from rfl] at hx173_0)
          (try rw [show 1 * 2=2 from rfl] at hx173_0)
          (try rw [show ((1 : Int)).toNat=1 from rfl] at hx173_1)
          (try rw [show 1 * 2=2 from rfl] at hx173_1)
          replace p173:=eq_true p173
          replace q173:=eq_true q173
          go_wp2
          go_meet
          case rel=>exact ⟨_,(false),(by first|rfl|(simp;done)|(simp [*];done)),(by first|exact H'|(subst_vars;exact H')),⟨by first|omega|exact Nat.le_refl _⟩,⟨by (with_reducible repeat (first|apply Kd.R_alloc|apply Kd.R_drewN|apply Kd.R_drew));exact HO150.out⟩,⟨by (with_reducible repeat (first|refine blk_drewN ?_ _|refine blk_drew ?_|refine blk_alloc ?_ _));exact BK151.out⟩,⟨by repeat (first|(with_reducible first|exact HB.out|apply below_alloc|apply pw_below_drewN|apply below_drew1|refine below_set ?_ GE151.out)|exact HB.out)⟩⟩
        ·rw [if_neg c33] at H
         exact absurd H (by simp)
       ·rw [if_neg c32] at H
        have c32b0 : (((rd_L5 t167 0).length : Int) == 2)=false:=beq_eq_false_iff_ne.mpr c32
        have c32b1 : (((rd_L5 t167 0).length : Int) != 2)=true:=bne_iff_ne.mpr c32
        have H':=Aside0.mk H
        clear H
        obtain ⟨Ao40,co40,eo40⟩:=Kd.N_slice HO166.out
        subst eo40
        obtain ⟨Ao41,co41,eo41⟩:=Kd.N_slice HO169.out
        subst eo41
        have p170 : 0≤(0 : Int):=(by omega)
        have q170 : 0 < (t164.length : Int):=of_decide_eq_true (by first|(with_reducible assumption)|assumption)
        obtain ⟨ad170,A170_0,c170_0,e170,hx170_0,hl170_0,hi170_0⟩:=at_L5 (Kd.N_reads' HO166.out).2.2 0 p170 q170
        cases e170
        obtain ⟨ce170,hce170,hMe170,hcc170⟩:=Kd.N_get HO166.out [] 0 p170 (by first|exact q170|exact of_decide_eq_true (by first|(with_reducible assumption)|assumption)|(have e_:=(Kd.N_reads' HO166.out).1;omega))
        obtain ⟨ua170_0,uc170_0,rfl,ul170_0,ge170_0⟩:=Kd.FK_slice_open hMe170
        have hv170_0:=hcc170 0 _ rfl
        rw [Nat.add_zero,show ((Kd.slice 45 k45)).sz=1 from rfl,Nat.mul_one] at hv170_0
        replace hv170_0:=Option.some.inj (hv170_0.symm.trans hx170_0)
        injection hv170_0 with hva_ hvn_ hvc_
        rw [hva_] at ge170_0
        rw [hvc_] at ul170_0
        have HL170_0:=Aside0.mk (show Kd.V k45 45 _ w.heap.size _ _ (rd_L5 t164 0) from Kd.V_mk ul170_0 ge170_0)
        clear hva_ hvn_ hvc_ ge170_0 ul170_0
        clear hcc170 hce170
        have qi170 : (0 < t164.length)=True:=eq_true (by omega)
        (try rw [show ((0 : Int)).toNat=0 from rfl] at hx170_0)
        (try rw [Addr.add_zero'] at hx170_0)
        have HR170_0:=Aside0.mk hi170_0
        have HC170_0:=Aside0.mk hl170_0
        clear hi170_0 hl170_0
        replace p170:=eq_true p170
        replace q170:=eq_true q170
        have p171 : 0≤(0 : Int):=(by omega)
        have q171 : 0 < (t167.length : Int):=of_decide_eq_true (by first|(with_reducible assumption)|assumption)
        obtain ⟨ad171,A171_0,c171_0,e171,hx171_0,hl171_0,hi171_0⟩:=at_L5 (Kd.N_reads' HO169.out).2.2 0 p171 q171
        cases e171
        obtain ⟨ce171,hce171,hMe171,hcc171⟩:=Kd.N_get HO169.out [] 0 p171 (by first|exact q171|exact of_decide_eq_true (by first|(with_reducible assumption)|assumption)|(have e_:=(Kd.N_reads' HO169.out).1;omega))
        obtain ⟨ua171_0,uc171_0,rfl,ul171_0,ge171_0⟩:=Kd.FK_slice_open hMe171
        have hv171_0:=hcc171 0 _ rfl
        rw [Nat.add_zero,show ((Kd.slice 45 k45)).sz=1 from rfl,Nat.mul_one] at hv171_0
        replace hv171_0:=Option.some.inj (hv171_0.symm.trans hx171_0)
        injection hv171_0 with hva_ hvn_ hvc_
        rw [hva_] at ge171_0
        rw [hvc_] at ul171_0
        have HL171_0:=Aside0.mk (show Kd.V k45 45 _ w.heap.size _ _ (rd_L5 t167 0) from Kd.V_mk ul171_0 ge171_0)
        clear hva_ hvn_ hvc_ ge171_0 ul171_0
        clear hcc171 hce171
        have qi171 : (0 < t167.length)=True:=eq_true (by omega)
        (try rw [show ((0 : Int)).toNat=0 from rfl] at hx171_0)
        (try rw [Addr.add_zero'] at hx171_0)
        have HR171_0:=Aside0.mk hi171_0
        have HC171_0:=Aside0.mk hl171_0
        clear hi171_0 hl171_0
        replace p171:=eq_true p171
        replace q171:=eq_true q171
        go_wp2
        go_meet
        case rel=>exact ⟨_,(false),(by first|rfl|(simp;done)|(simp [*];done)),(by first|exact H'|(subst_vars;exact H')),⟨by first|omega|exact Nat.le_refl _⟩,⟨by (with_reducible repeat (first|apply Kd.R_alloc|apply Kd.R_drewN|apply Kd.R_drew));exact HO150.out⟩,⟨by (with_reducible repeat (first|refine blk_drewN ?_ _|refine blk_drew ?_|refine blk_alloc ?_ _));exact BK151.out⟩,⟨by repeat (first|(with_reducible first|exact HB.out|apply below_alloc|apply pw_below_drewN|apply below_drew1|refine below_set ?_ GE151.out)|exact HB.out)⟩⟩
      ·rw [if_neg c31] at H
       exact absurd H (by simp)
     ·rw [if_neg c30] at H
      have c30b0 : (((rd_L5 t164 0).length : Int) == 2)=false:=beq_eq_false_iff_ne.mpr c30
      have c30b1 : (((rd_L5 t164 0).length : Int) != 2)=true:=bne_iff_ne.mpr c30
      have H':=Aside0.mk H
      clear H
      obtain ⟨Ao42,co42,eo42⟩:=Kd.N_slice HO166.out
      subst eo42
      obtain ⟨Ao43,co43,eo43⟩:=Kd.N_slice HO169.out
      subst eo43
      have p170 : 0≤(0 : Int):=(by omega)
      have q170 : 0 < (t164.length : Int):=of_decide_eq_true (by first|(with_reducible assumption)|assumption)
      obtain ⟨ad170,A170_0,c170_0,e170,hx170_0,hl170_0,hi170_0⟩:=at_L5 (Kd.N_reads' HO166.out).2.2 0 p170 q170
      cases e170
      obtain ⟨ce170,hce170,hMe170,hcc170⟩:=Kd.N_get HO166.out [] 0 p170 (by first|exact q170|exact of_decide_eq_true (by first|(with_reducible assumption)|assumption)|(have e_:=(Kd.N_reads' HO166.out).1;omega))
      obtain ⟨ua170_0,uc170_0,rfl,ul170_0,ge170_0⟩:=Kd.FK_slice_open hMe170
      have hv170_0:=hcc170 0 _ rfl
      rw [Nat.add_zero,show ((Kd.slice 45 k45)).sz=1 from rfl,Nat.mul_one] at hv170_0
      replace hv170_0:=Option.some.inj (hv170_0.symm.trans hx170_0)
      injection hv170_0 with hva_ hvn_ hvc_
      rw [hva_] at ge170_0
      rw [hvc_] at ul170_0
      have HL170_0:=Aside0.mk (show Kd.V k45 45 _ w.heap.size _ _ (rd_L5 t164 0) from Kd.V_mk ul170_0 ge170_0)
      clear hva_ hvn_ hvc_ ge170_0 ul170_0
      clear hcc170 hce170
      have qi170 : (0 < t164.length)=True:=eq_true (by omega)
      (try rw [show ((0 : Int)).toNat=0 from rfl] at hx170_0)
      (try rw [Addr.add_zero'] at hx170_0)
      have HR170_0:=Aside0.mk hi170_0
      have HC170_0:=Aside0.mk hl170_0
      clear hi170_0 hl170_0
      replace p170:=eq_true p170
      replace q170:=eq_true q170
      go_wp2
      go_meet
      case rel=>exact ⟨_,(false),(by first|rfl|(simp;done)|(simp [*];done)),(by first|exact H'|(subst_vars;exact H')),⟨by first|omega|exact Nat.le_refl _⟩,⟨by (with_reducible repeat (first|apply Kd.R_alloc|apply Kd.R_drewN|apply Kd.R_drew));exact HO150.out⟩,⟨by (with_reducible repeat (first|refine blk_drewN ?_ _|refine blk_drew ?_|refine blk_alloc ?_ _));exact BK151.out⟩,⟨by repeat (first|(with_reducible first|exact HB.out|apply below_alloc|apply pw_below_drewN|apply below_drew1|refine below_set ?_ GE151.out)|exact HB.out)⟩⟩
    ·rw [if_neg c29] at H
     exact absurd H (by simp)
   ·rw [if_neg c28] at H
    have c28b0 : ((t167.length : Int) == 2)=false:=beq_eq_false_iff_ne.mpr c28
    have c28b1 : ((t167.length : Int) != 2)=true:=bne_iff_ne.mpr c28
    have H':=Aside0.mk H
    clear H
    obtain ⟨Ao44,co44,eo44⟩:=Kd.N_slice HO166.out
    subst eo44
    obtain ⟨Ao45,co45,eo45⟩:=Kd.N_slice HO169.out
    subst eo45
    go_wp2
    go_meet
    case rel=>exact ⟨_,(false),(by first|rfl|(simp;done)|(simp [*];done)),(by first|exact H'|(subst_vars;exact H')),⟨by first|omega|exact Nat.le_refl _⟩,⟨by (with_reducible repeat (first|apply Kd.R_alloc|apply Kd.R_drewN|apply Kd.R_drew));exact HO150.out⟩,⟨by (with_reducible repeat (first|refine blk_drewN ?_ _|refine blk_drew ?_|refine blk_alloc ?_ _));exact BK151.out⟩,⟨by repeat (first|(with_reducible first|exact HB.out|apply below_alloc|apply pw_below_drewN|apply below_drew1|refine below_set ?_ GE151.out)|exact HB.out)⟩⟩
  ·rw [if_neg c27] at H
   have c27b0 : ((t164.length : Int) == 2)=false:=beq_eq_false_iff_ne.mpr c27
   have c27b1 : ((t164.length : Int) != 2)=true:=bne_iff_ne.mpr c27
   (first|rw [c27b0]|(simp only [i64_w,i32_w];rw [c27b0])|skip)
   have H':=Aside0.mk H
   clear H
   obtain ⟨Ao46,co46,eo46⟩:=Kd.N_slice HO166.out
   subst eo46
   go_wp2
   go_meet
   case rel=>exact ⟨_,(false),(by first|rfl|(simp;done)|(simp [*];done)),(by first|exact H'|(subst_vars;exact H')),⟨by first|omega|exact Nat.le_refl _⟩,⟨by (with_reducible repeat (first|apply Kd.R_alloc|apply Kd.R_drewN|apply Kd.R_drew));exact HO150.out⟩,⟨by (with_reducible repeat (first|refine blk_drewN ?_ _|refine blk_drew ?_|refine blk_alloc ?_ _));exact BK151.out⟩,⟨by repeat (first|(with_reducible first|exact HB.out|apply below_alloc|apply pw_below_drewN|apply below_drew1|refine below_set ?_ GE151.out)|exact HB.out)⟩⟩
 case rest =>
  clear HC3
  try clear c1
  try clear p1
  try clear q1
  try clear hx1
  try clear qi1
  try clear c2
  try clear p2
  try clear c3
  try clear c8
  try clear c13
  try clear c17
  try clear p17
  try clear q17
  try clear hx17
  try clear qi17
  try clear c27
  try clear c27b0
  try clear c27b1
  try clear c28
  try clear c28b0
  try clear c28b1
  try clear c29
  try clear c29b0
  try clear c29b1
  try clear c30
  try clear c30b0
  try clear c30b1
  try clear c31
  try clear c31b0
  try clear c31b1
  try clear c32
  try clear c32b0
  try clear c32b1
  try clear c33
  try clear c33b0
  try clear c33b1
  try clear c34
  try clear c34b0
  try clear c34b1
  try clear c35
  try clear c35b0
  try clear c35b1
  try clear hcz20_0
  try clear hcz20_1
  try clear hcz20_2
  try clear hcz20_3
  try clear hcz23_0
  try clear hcz23_1
  try clear hcz23_2
  try clear hcz23_3
  try clear hcz25_0
  try clear hcz25_1
  try clear hcz25_2
  try clear hcz25_3
  try clear hcz8_0
  try clear hcz8_1
  try clear hcz8_2
  try clear hcz8_3
  try clear hfz20_0
  try clear hfz20_1
  try clear hfz20_2
  try clear hfz20_3
  try clear hfz23_0
  try clear hfz23_1
  try clear hfz23_2
  try clear hfz23_3
  try clear hfz25_0
  try clear hfz25_1
  try clear hfz25_2
  try clear hfz25_3
  try clear hfz8_0
  try clear hfz8_1
  try clear hfz8_2
  try clear hfz8_3
  try clear hx170_0
  try clear hx171_0
  try clear hx172_0
  try clear hx173_0
  try clear hx173_1
  try clear hx174_0
  try clear hx175_0
  try clear hx175_1
  try clear p170
  try clear p171
  try clear p172
  try clear p173
  try clear p174
  try clear p175
  try clear q170
  try clear q171
  try clear q172
  try clear q173
  try clear q174
  try clear q175
  obtain ⟨kq,x0_2,rfl,HA,HJ2,HO_152000,BK151,HB⟩:=hcut
  cases kq with
  | zero=>exact absurd HA.out (by simp [thresherlaw13_shown.j0])
  | succ kj2 =>
   have H:=HA.out
   clear HA
   simp only [thresherlaw13_shown.j0] at H
   obtain rfl:=Option.some.inj H
   go_wp2
   go_ret
   exact ⟨by first|rfl|(simp [errW_none,errW_some] <;> rfl)|(simp [*,errW_none,errW_some] <;> rfl),by repeat (first|(with_reducible first|exact HB.out|apply below_alloc|apply pw_below_drewN|apply below_drew1|refine below_set ?_ GE151.out)|exact HB.out)⟩
end Go.Proofs.Ytmanchjamkpklaa.P

