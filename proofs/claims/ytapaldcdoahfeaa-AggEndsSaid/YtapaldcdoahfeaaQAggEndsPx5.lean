/- Texts of AggEnds. Merged: Px5. -/
import Derived.Test.YtapaldcdoahfeaaQAggEndsPx0
import Derived.Test.YtapaldcdoahfeaaQAggEndsHAggD
namespace Go.Proofs.Ytapaldcdoahfeaa.P
open Go.RowKit Go.Proofs.YtapaldcdoahfeaaW.PrintWords Go.Proofs.YtapaldcdoahfeaaW.PrintLast Go.Proofs.YtapaldcdoahfeaaW.PrintMore
attribute [local go_sem] max2_int min2_int max_two min_two max_three min_three max_four min_four   -- for this text's walks alone
set_option linter.unusedVariables false
set_option linter.unusedSimpArgs false
def thresherlaw20_shown.f (k : Nat)  : Option (Bool):=(agg_Rows.f k (([1] : List Int)) 1 1 1 (([(⟨2,0⟩ : S33),(⟨3,0⟩ : S33)] : List (S33))) (([(([(⟨3,(⟨#[]⟩ : ByteArray)⟩ : S40)] : List (S40))),(([(⟨5,(⟨#[]⟩ : ByteArray)⟩ : S40)] : List (S40)))] : List (List (S40))))).bind fun t144=>(if (t144.length : Int)=2 then (if 0 < (t144.length : Int) then (if ((rd_T42 t144 0).f1.f0)=8 then (if 1 < (t144.length : Int) then (if ((rd_T42 t144 1).f1.f0)=3 then (if (rd_T42 t144 0).f0=true then (some ((rd_T42 t144 1).f0)) else (some false)) else (some false)) else (none)) else (some false)) else (none)) else (some false))
theorem thresherlaw20_shown.mono : ∀ k,LeO (thresherlaw20_shown.f k ) (thresherlaw20_shown.f (k + 1) ):=by
 intro  k
 unfold thresherlaw20_shown.f
 repeat' first
   | (with_reducible exact agg_Rows.mono _ _ _ _ _ _ _)
   | (with_reducible exact LeO.refl _)
   | (with_reducible exact LeO.none _)
   | (with_reducible refine LeO.ite ?_ ?_)
   | (with_reducible refine LeO.bind ?_ (fun _=>?_))
   | exact agg_Rows.mono _ _ _ _ _ _ _
   | exact LeO.none _
   | refine LeO.ite ?_ ?_
   | refine LeO.bind ?_ (fun _=>?_)
set_option maxHeartbeats 8000000 in
set_option maxRecDepth 100000 in
theorem thresherlaw20_shown.calls (k : Nat)  (r : Bool) (w : World) (h : thresherlaw20_shown.f k =some r) :
  Calls Try.prog 8 #[] w fun e w'=>e=.returned (.bool r)∧Below w.heap.size w w':=by
 have hu29:=Try.underlying29
 have hu33:=Try.underlying33
 have hu40:=Try.underlying40
 have HB:=Aside0.mk (Below.refl w.heap.size w)
 have H : ((agg_Rows.f k (([1] : List Int)) 1 1 1 (([(⟨2,0⟩ : S33),(⟨3,0⟩ : S33)] : List (S33))) (([(([(⟨3,(⟨#[]⟩ : ByteArray)⟩ : S40)] : List (S40))),(([(⟨5,(⟨#[]⟩ : ByteArray)⟩ : S40)] : List (S40)))] : List (List (S40))))).bind fun t144=>(if (t144.length : Int)=2 then (if 0 < (t144.length : Int) then (if ((rd_T42 t144 0).f1.f0)=8 then (if 1 < (t144.length : Int) then (if ((rd_T42 t144 1).f1.f0)=3 then (if (rd_T42 t144 0).f0=true then (some ((rd_T42 t144 1).f0)) else (some false)) else (some false)) else (none)) else (some false)) else (none)) else (some false)))=some r:=h
 clear h
 obtain ⟨y128,hy128⟩ : ∃ y_ : List Int,y_=(([1] : List Int)):=⟨_,rfl⟩
 replace H : ((agg_Rows.f k y128 1 1 1 (([(⟨2,0⟩ : S33),(⟨3,0⟩ : S33)] : List (S33))) (([(([(⟨3,(⟨#[]⟩ : ByteArray)⟩ : S40)] : List (S40))),(([(⟨5,(⟨#[]⟩ : ByteArray)⟩ : S40)] : List (S40)))] : List (List (S40))))).bind fun t144=>(if (t144.length : Int)=2 then (if 0 < (t144.length : Int) then (if ((rd_T42 t144 0).f1.f0)=8 then (if 1 < (t144.length : Int) then (if ((rd_T42 t144 1).f1.f0)=3 then (if (rd_T42 t144 0).f0=true then (some ((rd_T42 t144 1).f0)) else (some false)) else (some false)) else (none)) else (some false)) else (none)) else (some false)))=some r:=by first|(rw [hy128];with_reducible exact H)|(have H2_:=(Option.bind_some _ _).symm.trans H;rw [hy128];with_reducible exact H2_)|(have H2_:=(Option.bind_some _ _).symm.trans H;with_reducible exact H2_)|with_reducible exact H|(rw [hy128];exact H)|exact H
 have Ny128:=Aside0.mk hy128
 clear hy128
 obtain ⟨y132,hy132⟩ : ∃ y_ : List (S33),y_=(([(⟨2,0⟩ : S33),(⟨3,0⟩ : S33)] : List (S33))):=⟨_,rfl⟩
 replace H : ((agg_Rows.f k y128 1 1 1 y132 (([(([(⟨3,(⟨#[]⟩ : ByteArray)⟩ : S40)] : List (S40))),(([(⟨5,(⟨#[]⟩ : ByteArray)⟩ : S40)] : List (S40)))] : List (List (S40))))).bind fun t144=>(if (t144.length : Int)=2 then (if 0 < (t144.length : Int) then (if ((rd_T42 t144 0).f1.f0)=8 then (if 1 < (t144.length : Int) then (if ((rd_T42 t144 1).f1.f0)=3 then (if (rd_T42 t144 0).f0=true then (some ((rd_T42 t144 1).f0)) else (some false)) else (some false)) else (none)) else (some false)) else (none)) else (some false)))=some r:=by first|(rw [hy132];with_reducible exact H)|(have H2_:=(Option.bind_some _ _).symm.trans H;rw [hy132];with_reducible exact H2_)|(have H2_:=(Option.bind_some _ _).symm.trans H;with_reducible exact H2_)|with_reducible exact H|(rw [hy132];exact H)|exact H
 have Ny132:=Aside0.mk hy132
 clear hy132
 obtain ⟨y135,hy135⟩ : ∃ y_ : List (S40),y_=(([(⟨3,(⟨#[]⟩ : ByteArray)⟩ : S40)] : List (S40))):=⟨_,rfl⟩
 replace H : ((agg_Rows.f k y128 1 1 1 y132 (([y135,(([(⟨5,(⟨#[]⟩ : ByteArray)⟩ : S40)] : List (S40)))] : List (List (S40))))).bind fun t144=>(if (t144.length : Int)=2 then (if 0 < (t144.length : Int) then (if ((rd_T42 t144 0).f1.f0)=8 then (if 1 < (t144.length : Int) then (if ((rd_T42 t144 1).f1.f0)=3 then (if (rd_T42 t144 0).f0=true then (some ((rd_T42 t144 1).f0)) else (some false)) else (some false)) else (none)) else (some false)) else (none)) else (some false)))=some r:=by first|(rw [hy135];with_reducible exact H)|(have H2_:=(Option.bind_some _ _).symm.trans H;rw [hy135];with_reducible exact H2_)|(have H2_:=(Option.bind_some _ _).symm.trans H;with_reducible exact H2_)|with_reducible exact H|(rw [hy135];exact H)|exact H
 have Ny135:=Aside0.mk hy135
 clear hy135
 obtain ⟨y138,hy138⟩ : ∃ y_ : List (S40),y_=(([(⟨5,(⟨#[]⟩ : ByteArray)⟩ : S40)] : List (S40))):=⟨_,rfl⟩
 replace H : ((agg_Rows.f k y128 1 1 1 y132 (([y135,y138] : List (List (S40))))).bind fun t144=>(if (t144.length : Int)=2 then (if 0 < (t144.length : Int) then (if ((rd_T42 t144 0).f1.f0)=8 then (if 1 < (t144.length : Int) then (if ((rd_T42 t144 1).f1.f0)=3 then (if (rd_T42 t144 0).f0=true then (some ((rd_T42 t144 1).f0)) else (some false)) else (some false)) else (none)) else (some false)) else (none)) else (some false)))=some r:=by first|(rw [hy138];with_reducible exact H)|(have H2_:=(Option.bind_some _ _).symm.trans H;rw [hy138];with_reducible exact H2_)|(have H2_:=(Option.bind_some _ _).symm.trans H;with_reducible exact H2_)|with_reducible exact H|(rw [hy138];exact H)|exact H
 have Ny138:=Aside0.mk hy138
 clear hy138
 obtain ⟨y141,hy141⟩ : ∃ y_ : List (List (S40)),y_=(([y135,y138] : List (List (S40)))):=⟨_,rfl⟩
 replace H : ((agg_Rows.f k y128 1 1 1 y132 y141).bind fun t144=>(if (t144.length : Int)=2 then (if 0 < (t144.length : Int) then (if ((rd_T42 t144 0).f1.f0)=8 then (if 1 < (t144.length : Int) then (if ((rd_T42 t144 1).f1.f0)=3 then (if (rd_T42 t144 0).f0=true then (some ((rd_T42 t144 1).f0)) else (some false)) else (some false)) else (none)) else (some false)) else (none)) else (some false)))=some r:=by first|(rw [hy141];with_reducible exact H)|(have H2_:=(Option.bind_some _ _).symm.trans H;rw [hy141];with_reducible exact H2_)|(have H2_:=(Option.bind_some _ _).symm.trans H;with_reducible exact H2_)|with_reducible exact H|(rw [hy141];exact H)|exact H
 have Ny141:=Aside0.mk hy141
 clear hy141
 replace H:=Option.bind_eq_some_iff.mp H
 obtain ⟨t144,A10,H⟩:=H
 replace H : (if (t144.length : Int)=2 then (if 0 < (t144.length : Int) then (if ((rd_T42 t144 0).f1.f0)=8 then (if 1 < (t144.length : Int) then (if ((rd_T42 t144 1).f1.f0)=3 then (if (rd_T42 t144 0).f0=true then (some ((rd_T42 t144 1).f0)) else (some false)) else (some false)) else (none)) else (some false)) else (none)) else (some false))=some r:=H
 have A1:=Aside0.mk A10
 clear A10
 by_cases c2 : (t144.length : Int)=2
 ·rw [if_pos c2] at H
  have c2b0 : ((t144.length : Int) == 2)=true:=beq_iff_eq.mpr c2
  have c2b1 : ((t144.length : Int) != 2)=false:=bne_eq_false_iff_eq.mpr c2
  clear c2
  by_cases c3 : 0 < (t144.length : Int)
  ·rw [if_pos c3] at H
   have c3b0 : decide (0 < (t144.length : Int))=true:=decide_eq_true c3
   have c3b1 : decide (0 < t144.length)=true:=decide_eq_true (by omega)
   clear c3
   by_cases c4 : ((rd_T42 t144 0).f1.f0)=8
   ·rw [if_pos c4] at H
    have c4b0 : (((rd_T42 t144 0).f1.f0) == 8)=true:=beq_iff_eq.mpr c4
    have c4b1 : (((rd_T42 t144 0).f1.f0) != 8)=false:=bne_eq_false_iff_eq.mpr c4
    clear c4
    by_cases c5 : 1 < (t144.length : Int)
    ·rw [if_pos c5] at H
     have c5b0 : decide (1 < (t144.length : Int))=true:=decide_eq_true c5
     have c5b1 : decide (1 < t144.length)=true:=decide_eq_true (by omega)
     clear c5
     by_cases c6 : ((rd_T42 t144 1).f1.f0)=3
     ·rw [if_pos c6] at H
      have c6b0 : (((rd_T42 t144 1).f1.f0) == 3)=true:=beq_iff_eq.mpr c6
      have c6b1 : (((rd_T42 t144 1).f1.f0) != 3)=false:=bne_eq_false_iff_eq.mpr c6
      clear c6
      obtain ⟨bq7,hbq7⟩ : ∃ b_ : Bool,b_=((rd_T42 t144 0).f0):=⟨_,rfl⟩
      replace H : (if bq7=true then (some ((rd_T42 t144 1).f0)) else (some false))=some r:=by rw [← hbq7] at H;exact H
      have Nbq7:=Aside0.mk hbq7
      clear hbq7
      by_cases c8 : bq7=true
      ·subst c8
       have H1 : (some ((rd_T42 t144 1).f0))=some r:=by rw [if_pos rfl] at H;exact H
       clear H
       have H:=H1
       clear H1
       obtain rfl:=Option.some.inj H
       go_enter Try.func8,Try.ntmps8
       go_wp2_with (first|((with_reducible refine gate_dst (N:=3) rfl ?_);refine Kd.R_lit (Kd.int .i64) _ 3 ?hg (N:=3) ?hd (xs:=([1] : List Int)) (inner:=[.int .i64 1]) (ok:=fun _=>True) (okp:=fun _=>True) ?hr ?hp (fun _ hk=>hk) trivial (Below.refl _ _) (Nat.le_refl _) (by simp) ?_;(case hd=>rfl);(case hg=>rfl);(case hr=>first|(go_simp;done)|(go_simp;rfl));(case hp=>exact (Reps.one (show Kd.M (Kd.int .i64) _ _ _ 1 [.int .i64 1] from rfl) (Reps.none _ _)));intro v129 w9 ho10 hb hg_ hnew_;clear hg_ hnew_;(first|rw [← Ny128.out] at ho10|(simp only [Int.reduceToNat] at ho10;rw [← Ny128.out] at ho10));have n0_:=Aside0.mk (Kd.R_lower ho10 (below_size (below_up HB.out)));have n1_:=Aside0.mk (below_step (below_up HB.out) hb);clear HB;have HO130:=n0_;have HB:=n1_;clear n0_ n1_;clear hb ho10;obtain ⟨Ao11,co11,eo11⟩:=Kd.R_slice HO130.out;subst eo11)|((with_reducible refine gate_dst (N:=1) rfl ?_);refine box_event ?hg (N:=1) ?hd (cs:=#[.slice none 0 0,.int .i64 0,.int .i64 0,.int .i64 0]) (t:=29) ?hr ?_;(case hd=>rfl);(case hg=>rfl);(case hr=>first|(go_simp;done)|(go_simp;rfl));intro gb131 hg w12 hbox hb;have n0_:=Aside0.mk (Kd.R_below (R_up HO130.out) hb);have n1_:=Aside0.mk (below_step (below_up HB.out) hb);have n2_:=Aside0.mk (hbox);have n3_:=Aside0.mk ((by rw [hg];exact (below_size (below_up HB.out)) : w.heap.size≤gb131));have n4_:=Aside0.mk ((by rw [hg];exact (below_size (below_up HB.out)) : w.heap.size≤gb131));clear HO130;clear HB;have HO130:=n0_;have HB:=n1_;have BK131:=n2_;have GW131:=n3_;have GE131:=n4_;clear n0_ n1_ n2_ n3_ n4_;clear hb hbox hg;have hcz13_0 : w12.cell? ⟨gb131,0,none⟩=some (.slice none 0 0):=(blk_cell BK131.out 0).trans rfl;have hcz13_1 : w12.cell? ⟨gb131,1,none⟩=some (.int .i64 0):=(blk_cell BK131.out 1).trans rfl;have hcz13_2 : w12.cell? ⟨gb131,2,none⟩=some (.int .i64 0):=(blk_cell BK131.out 2).trans rfl;have hcz13_3 : w12.cell? ⟨gb131,3,none⟩=some (.int .i64 0):=(blk_cell BK131.out 3).trans rfl;have hfz13_0:=blk_frozen BK131.out 0;have hfz13_1:=blk_frozen BK131.out 1;have hfz13_2:=blk_frozen BK131.out 2;have hfz13_3:=blk_frozen BK131.out 3)|((with_reducible refine gate_dst (N:=8) rfl ?_);refine Kd.R_lit k33 _ 33 ?hg (N:=8) ?hd (xs:=([(⟨2,0⟩ : S33),(⟨3,0⟩ : S33)] : List (S33))) (inner:=[.int .i64 2,.int .i64 0,.int .i64 3,.int .i64 0]) (ok:=fun _=>True) (okp:=fun _=>True) ?hr ?hp (fun _ hk=>hk) trivial (Below.refl _ _) (Nat.le_refl _) (by simp) ?_;(case hd=>rfl);(case hg=>rfl);(case hr=>first|(go_simp;done)|(go_simp;rfl));(case hp=>exact (Reps.c2 (show Kd.M k33 _ _ _ (⟨2,0⟩ : S33) [.int .i64 2,.int .i64 0] from (k33_mkM _ _ _ (⟨2,0⟩ : S33) )) (Reps.c2 (show Kd.M k33 _ _ _ (⟨3,0⟩ : S33) [.int .i64 3,.int .i64 0] from (k33_mkM _ _ _ (⟨3,0⟩ : S33) )) (Reps.none _ _))));intro v133 w14 ho15 hb hg_ hnew_;clear hg_ hnew_;(first|rw [← Ny132.out] at ho15|(simp only [Int.reduceToNat] at ho15;rw [← Ny132.out] at ho15));have n0_:=Aside0.mk (Kd.R_below (by (with_reducible repeat (first|apply Kd.R_alloc|apply Kd.R_drewN|apply Kd.R_drew));exact (Kd.R_mono (Kd.R_far (p:=⟨gb131,3,none⟩) (Kd.R_far (p:=⟨gb131,2,none⟩) (Kd.R_far (p:=⟨gb131,1,none⟩) (Kd.R_far (p:=⟨gb131,0,none⟩) (Kd.R_types HO130.out BK131.out (by decide)) (fun _ hk=>hk.2) (.slice Ao11 y128.length co11)) (fun _ hk=>hk.2) (.int .i64 1)) (fun _ hk=>hk.2) (.int .i64 1)) (fun _ hk=>hk.2) (.int .i64 1)) (fun _ h_=>h_.1))) hb);have n1_:=Aside0.mk (Kd.R_lower ho15 (below_size (below_go HB.out)));have n2_:=Aside0.mk (blk_below (g:=gb131) (o:=.cells #[.slice Ao11 y128.length co11,.int .i64 1,.int .i64 1,.int .i64 1] 29 (0,0)) (by (with_reducible repeat (first|refine blk_drewN ?_ _|refine blk_drew ?_|refine blk_alloc ?_ _));refine blk_put (cs:=#[.slice Ao11 y128.length co11,.int .i64 1,.int .i64 1,.int .i64 0]) ?_ 3 _ rfl;(with_reducible repeat (first|refine blk_drewN ?_ _|refine blk_drew ?_|refine blk_alloc ?_ _));refine blk_put (cs:=#[.slice Ao11 y128.length co11,.int .i64 1,.int .i64 0,.int .i64 0]) ?_ 2 _ rfl;(with_reducible repeat (first|refine blk_drewN ?_ _|refine blk_drew ?_|refine blk_alloc ?_ _));refine blk_put (cs:=#[.slice Ao11 y128.length co11,.int .i64 0,.int .i64 0,.int .i64 0]) ?_ 1 _ rfl;(with_reducible repeat (first|refine blk_drewN ?_ _|refine blk_drew ?_|refine blk_alloc ?_ _));refine blk_put (cs:=#[.slice none 0 0,.int .i64 0,.int .i64 0,.int .i64 0]) ?_ 0 _ rfl;(with_reducible repeat (first|refine blk_drewN ?_ _|refine blk_drew ?_|refine blk_alloc ?_ _));exact BK131.out) hb);have n3_:=Aside0.mk (below_step (below_go HB.out) hb);clear HO130;clear BK131;clear HB;have HO130:=n0_;have HO134:=n1_;have BK131:=n2_;have HB:=n3_;clear n0_ n1_ n2_ n3_;clear hb ho15)|((with_reducible refine gate_dst (N:=10) rfl ?_);refine Kd.R_lit k40 _ 40 ?hg (N:=10) ?hd (xs:=([(⟨3,(⟨#[]⟩ : ByteArray)⟩ : S40)] : List (S40))) (inner:=[.int .i64 3,.string (⟨#[]⟩ : ByteArray)]) (ok:=fun _=>True) (okp:=fun _=>True) ?hr ?hp (fun _ hk=>hk) trivial (Below.refl _ _) (Nat.le_refl _) (by simp) ?_;(case hd=>rfl);(case hg=>rfl);(case hr=>first|(go_simp;done)|(go_simp;rfl));(case hp=>exact (Reps.c2 (show Kd.M k40 _ _ _ (⟨3,(⟨#[]⟩ : ByteArray)⟩ : S40) [.int .i64 3,.string (⟨#[]⟩ : ByteArray)] from (k40_mkM _ _ _ (⟨3,(⟨#[]⟩ : ByteArray)⟩ : S40) )) (Reps.none _ _)));intro v136 w16 ho17 hb hg_ hnew_;clear hg_ hnew_;(first|rw [← Ny135.out] at ho17|(simp only [Int.reduceToNat] at ho17;rw [← Ny135.out] at ho17));have n0_:=Aside0.mk (Kd.R_below (R_up HO130.out) hb);have n1_:=Aside0.mk (Kd.R_below (R_up HO134.out) hb);have n2_:=Aside0.mk (Kd.R_lower ho17 (below_size (below_go HB.out)));have n3_:=Aside0.mk (blk_below (blk_up BK131.out) hb);have n4_:=Aside0.mk (below_step (below_go HB.out) hb);clear HO130;clear HO134;clear BK131;clear HB;have HO130:=n0_;have HO134:=n1_;have HO137:=n2_;have BK131:=n3_;have HB:=n4_;clear n0_ n1_ n2_ n3_ n4_;clear hb ho17)|((with_reducible refine gate_dst (N:=12) rfl ?_);refine Kd.R_lit k40 _ 40 ?hg (N:=12) ?hd (xs:=([(⟨5,(⟨#[]⟩ : ByteArray)⟩ : S40)] : List (S40))) (inner:=[.int .i64 5,.string (⟨#[]⟩ : ByteArray)]) (ok:=fun _=>True) (okp:=fun _=>True) ?hr ?hp (fun _ hk=>hk) trivial (Below.refl _ _) (Nat.le_refl _) (by simp) ?_;(case hd=>rfl);(case hg=>rfl);(case hr=>first|(go_simp;done)|(go_simp;rfl));(case hp=>exact (Reps.c2 (show Kd.M k40 _ _ _ (⟨5,(⟨#[]⟩ : ByteArray)⟩ : S40) [.int .i64 5,.string (⟨#[]⟩ : ByteArray)] from (k40_mkM _ _ _ (⟨5,(⟨#[]⟩ : ByteArray)⟩ : S40) )) (Reps.none _ _)));intro v139 w18 ho19 hb hg_ hnew_;clear hg_ hnew_;(first|rw [← Ny138.out] at ho19|(simp only [Int.reduceToNat] at ho19;rw [← Ny138.out] at ho19));have n0_:=Aside0.mk (Kd.R_below (R_up HO130.out) hb);have n1_:=Aside0.mk (Kd.R_below (R_up HO134.out) hb);have n2_:=Aside0.mk (Kd.R_elder' (R_up HO137.out) (Kd.R_base ho19) hb);have n3_:=Aside0.mk (Kd.R_lower (Kd.R_new' ho19 (Kd.R_lt (R_up HO137.out))) (below_size (below_go HB.out)));have n4_:=Aside0.mk (blk_below (blk_up BK131.out) hb);have n5_:=Aside0.mk (below_step (below_go HB.out) hb);clear HO130;clear HO134;clear HO137;clear BK131;clear HB;have HO130:=n0_;have HO134:=n1_;have HO137:=n2_;have HO140:=n3_;have BK131:=n4_;have HB:=n5_;clear n0_ n1_ n2_ n3_ n4_ n5_;clear hb ho19;obtain ⟨Ao20,co20,eo20⟩:=Kd.R_slice HO137.out;subst eo20;obtain ⟨Ao21,co21,eo21⟩:=Kd.R_slice HO140.out;subst eo21)|((with_reducible refine gate_dst (N:=13) rfl ?_);refine Kd.N_lit (Kd.slice 40 k40) _ 44 ?hg (N':=13) ?hd (xs:=([y135,y138] : List (List (S40)))) (inner:=[.slice Ao20 y135.length co20,.slice Ao21 y138.length co21]) (ok:=(fun k_=>some k_≠(.slice Ao11 y128.length co11 : Value).ownBlock∧some k_≠(v133 : Value).ownBlock∧k_≠gb131)) (okp:=(fun k_=>some k_≠(.slice Ao11 y128.length co11 : Value).ownBlock∧some k_≠(v133 : Value).ownBlock∧k_≠gb131)) ?hr ?hp (fun _ hk=>hk) ((show ∀ k_,w18.heap.size≤k_→(fun k_=>some k_≠(.slice Ao11 y128.length co11 : Value).ownBlock∧some k_≠(v133 : Value).ownBlock∧k_≠gb131) k_ from fun k_ hk=>⟨Kd.fresh' (Kd.R_lt (R_up HO130.out)) k_ hk,Kd.fresh' (Kd.R_lt (R_up HO134.out)) k_ hk,Kd.freshB (blk_up BK131.out) k_ hk⟩) _ (Nat.le_refl _)) (Below.refl _ _) (Nat.le_refl _) (by simp) ?_;(case hd=>rfl);(case hg=>rfl);(case hr=>first|(go_simp;done)|(go_simp;rfl));(case hp=>exact (Reps.one (show Kd.FK (Kd.slice 40 k40) _ _ y135 [.slice Ao20 y135.length co20] from (Kd.FK_slice_mk (Kd.R_reads' (Kd.R_mono (ok':=(fun k_=>some k_≠(.slice Ao11 y128.length co11 : Value).ownBlock∧some k_≠(v133 : Value).ownBlock∧k_≠gb131)) (Kd.R_types (Kd.R_apart' (Kd.R_apart' (HO137.out) (Kd.R_typed HO130.out) (by decide)) (Kd.R_typed HO134.out) (by decide)) BK131.out (by decide)) (fun k_ hk=>⟨hk.1.1.2,⟨hk.1.2,hk.2⟩⟩))).2.1 (Kd.R_F (Kd.R_mono (ok':=(fun k_=>some k_≠(.slice Ao11 y128.length co11 : Value).ownBlock∧some k_≠(v133 : Value).ownBlock∧k_≠gb131)) (Kd.R_types (Kd.R_apart' (Kd.R_apart' (HO137.out) (Kd.R_typed HO130.out) (by decide)) (Kd.R_typed HO134.out) (by decide)) BK131.out (by decide)) (fun k_ hk=>⟨hk.1.1.2,⟨hk.1.2,hk.2⟩⟩))))) (Reps.one (show Kd.FK (Kd.slice 40 k40) _ _ y138 [.slice Ao21 y138.length co21] from (Kd.FK_slice_mk (Kd.R_reads' (Kd.R_mono (ok':=(fun k_=>some k_≠(.slice Ao11 y128.length co11 : Value).ownBlock∧some k_≠(v133 : Value).ownBlock∧k_≠gb131)) (Kd.R_types (Kd.R_apart' (Kd.R_apart' (HO140.out) (Kd.R_typed HO130.out) (by decide)) (Kd.R_typed HO134.out) (by decide)) BK131.out (by decide)) (fun k_ hk=>⟨hk.1.1.2,⟨hk.1.2,hk.2⟩⟩))).2.1 (Kd.R_F (Kd.R_mono (ok':=(fun k_=>some k_≠(.slice Ao11 y128.length co11 : Value).ownBlock∧some k_≠(v133 : Value).ownBlock∧k_≠gb131)) (Kd.R_types (Kd.R_apart' (Kd.R_apart' (HO140.out) (Kd.R_typed HO130.out) (by decide)) (Kd.R_typed HO134.out) (by decide)) BK131.out (by decide)) (fun k_ hk=>⟨hk.1.1.2,⟨hk.1.2,hk.2⟩⟩))))) (Reps.none _ _))));intro v142 w22 ho23 hb hg_ hnew_;clear hg_ hnew_;(first|rw [← Ny141.out] at ho23|(simp only [Int.reduceToNat] at ho23;rw [← Ny141.out] at ho23));have n0_:=Aside0.mk (Kd.R_below (R_up HO130.out) hb);have n1_:=Aside0.mk (Kd.R_below (R_up HO134.out) hb);have n2_:=Aside0.mk (Kd.N_lower ho23 (below_size (below_go HB.out)));have n3_:=Aside0.mk (blk_below (blk_up BK131.out) hb);have n4_:=Aside0.mk (below_step (below_go HB.out) hb);clear HO130;clear HO134;clear BK131;clear HB;clear HO137;clear HO140;have HO130:=n0_;have HO134:=n1_;have HO143:=n2_;have BK131:=n3_;have HB:=n4_;clear n0_ n1_ n2_ n3_ n4_;clear hb ho23;obtain ⟨Ao24,co24,eo24⟩:=Kd.R_slice HO134.out;subst eo24;obtain ⟨Ao25,co25,eo25⟩:=Kd.N_slice HO143.out;subst eo25)|((with_reducible refine gate_callee (f:=11) rfl ?_);refine goesL_ (some 14) rfl rfl Try.func11 (by kernel_rfl) rfl #[.agg #[.slice Ao11 y128.length co11,.int .i64 1,.int .i64 1,.int .i64 1],.slice Ao24 y132.length co24,.slice Ao25 y141.length co25] rfl (by (try simp only [List.map_toArray,List.map_cons,List.map_nil]);first|done|rfl|(simp only [List.length_drop,List.length_take];rfl)) ?_;(with_reducible refine (agg_Rows.calls k _ _ y128 1 1 1 _ _ y132 _ _ y141 t144 _ ?side1 ?side2 ?side3 ?side4 ?side5 ?side6 A1.out).mono ?_);(case side1=>repeat (first|exact (Kd.R_reads' HO130.out).2.2|(with_reducible refine Kd.C_alloc ?_ _)|(with_reducible refine Kd.C_drewN ?_ _)|(with_reducible refine Kd.C_drew ?_)));(case side2=>exact (Kd.R_reads' HO130.out).2.1);(case side3=>repeat (first|exact (Kd.R_reads' HO134.out).2.2|(with_reducible refine Kd.C_alloc ?_ _)|(with_reducible refine Kd.C_drewN ?_ _)|(with_reducible refine Kd.C_drew ?_)));(case side4=>exact (Kd.R_reads' HO134.out).2.1);(case side5=>repeat (first|exact (Kd.N_reads' HO143.out).2.2|(with_reducible refine Kd.C_alloc ?_ _)|(with_reducible refine Kd.C_drewN ?_ _)|(with_reducible refine Kd.C_drew ?_)));(case side6=>exact (Kd.N_reads' HO143.out).2.1);rintro e w26 ⟨v145,rfl,ho0,hb⟩;refine ⟨_,rfl,?_⟩;have n0_:=Aside0.mk (Kd.R_below (R_up HO130.out) hb);have n1_:=Aside0.mk (Kd.R_below (R_up HO134.out) hb);have n2_:=Aside0.mk (Kd.N_elder' (N_up HO143.out) (Kd.R_base ho0) hb);have n3_:=Aside0.mk (Kd.R_lower ho0 (below_size (below_go HB.out)));have n4_:=Aside0.mk (blk_below (blk_up BK131.out) hb);have n5_:=Aside0.mk (below_step (below_go HB.out) hb);clear HO130;clear HO134;clear HO143;clear BK131;clear HB;have HO130:=n0_;have HO134:=n1_;have HO143:=n2_;have HO146:=n3_;have BK131:=n4_;have HB:=n5_;clear n0_ n1_ n2_ n3_ n4_ n5_;(try clear hb);(try clear hb2);(try clear hk);(try clear hi);(try clear ho0);obtain ⟨Ao27,co27,eo27⟩:=Kd.R_slice HO146.out;subst eo27;have p147 : 0≤(0 : Int):=(by omega);have q147 : 0 < (t144.length : Int):=of_decide_eq_true (by first|(with_reducible assumption)|assumption);obtain ⟨ad147,e147,hx147_0,hx147_1,hx147_2⟩:=at_T42 (Kd.R_reads' HO146.out).2.2 0 p147 q147;(try rw [← Nbq7.out] at hx147_0);cases e147;have qi147 : (0 < t144.length)=True:=eq_true (by omega);(try rw [show ((0 : Int)).toNat=0 from rfl] at hx147_0);(try rw [show 0 * 3=0 from rfl] at hx147_0);(try rw [Addr.add_zero'] at hx147_0);(try rw [show ((0 : Int)).toNat=0 from rfl] at hx147_1);(try rw [show 0 * 3=0 from rfl] at hx147_1);(try rw [Addr.add_zero'] at hx147_1);(try rw [show ((0 : Int)).toNat=0 from rfl] at hx147_2);(try rw [show 0 * 3=0 from rfl] at hx147_2);(try rw [Addr.add_zero'] at hx147_2);replace p147:=eq_true p147;replace q147:=eq_true q147;have p148 : 0≤(1 : Int):=(by omega);have q148 : 1 < (t144.length : Int):=of_decide_eq_true (by first|(with_reducible assumption)|assumption);obtain ⟨ad148,e148,hx148_0,hx148_1,hx148_2⟩:=at_T42 (Kd.R_reads' HO146.out).2.2 1 p148 q148;(try rw [← Nbq7.out] at hx148_0);obtain rfl : ad147=ad148:=(by injection e148);(try simp only [show (1 : Int).toNat=1 from rfl,Nat.reduceMul,Nat.reduceEqDiff,Go.Addr.add,↓reduceIte] at hx148_0);(try simp only [show (1 : Int).toNat=1 from rfl,Nat.reduceMul,Nat.reduceEqDiff,Go.Addr.add,↓reduceIte] at hx148_1);(try simp only [show (1 : Int).toNat=1 from rfl,Nat.reduceMul,Nat.reduceEqDiff,Go.Addr.add,↓reduceIte] at hx148_2);have qi148 : (1 < t144.length)=True:=eq_true (by omega);(try rw [show ((1 : Int)).toNat=1 from rfl] at hx148_0);(try rw [show 1 * 3=3 from rfl] at hx148_0);(try rw [show ((1 : Int)).toNat=1 from rfl] at hx148_1);(try rw [show 1 * 3=3 from rfl] at hx148_1);(try rw [show ((1 : Int)).toNat=1 from rfl] at hx148_2);(try rw [show 1 * 3=3 from rfl] at hx148_2);replace p148:=eq_true p148;replace q148:=eq_true q148;have p149 : 0≤(0 : Int):=(by omega);have q149 : 0 < (t144.length : Int):=of_decide_eq_true (by first|(with_reducible assumption)|assumption);obtain ⟨ad149,e149,hx149_0,hx149_1,hx149_2⟩:=at_T42 (Kd.R_reads' HO146.out).2.2 0 p149 q149;(try rw [← Nbq7.out] at hx149_0);obtain rfl : ad147=ad149:=(by injection e149);have qi149 : (0 < t144.length)=True:=eq_true (by omega);(try rw [show ((0 : Int)).toNat=0 from rfl] at hx149_0);(try rw [show 0 * 3=0 from rfl] at hx149_0);(try rw [Addr.add_zero'] at hx149_0);(try rw [show ((0 : Int)).toNat=0 from rfl] at hx149_1);(try rw [show 0 * 3=0 from rfl] at hx149_1);(try rw [Addr.add_zero'] at hx149_1);(try rw [show ((0 : Int)).toNat=0 from rfl] at hx149_2);(try rw [show 0 * 3=0 from rfl] at hx149_2);(try rw [Addr.add_zero'] at hx149_2);replace p149:=eq_true p149;replace q149:=eq_true q149;have p150 : 0≤(1 : Int):=(by omega);have q150 : 1 < (t144.length : Int):=of_decide_eq_true (by first|(with_reducible assumption)|assumption);obtain ⟨ad150,e150,hx150_0,hx150_1,hx150_2⟩:=at_T42 (Kd.R_reads' HO146.out).2.2 1 p150 q150;(try rw [← Nbq7.out] at hx150_0);obtain rfl : ad147=ad150:=(by injection e150);(try simp only [show (1 : Int).toNat=1 from rfl,Nat.reduceMul,Nat.reduceEqDiff,Go.Addr.add,↓reduceIte] at hx150_0);(try simp only [show (1 : Int).toNat=1 from rfl,Nat.reduceMul,Nat.reduceEqDiff,Go.Addr.add,↓reduceIte] at hx150_1);(try simp only [show (1 : Int).toNat=1 from rfl,Nat.reduceMul,Nat.reduceEqDiff,Go.Addr.add,↓reduceIte] at hx150_2);have qi150 : (1 < t144.length)=True:=eq_true (by omega);(try rw [show ((1 : Int)).toNat=1 from rfl] at hx150_0);(try rw [show 1 * 3=3 from rfl] at hx150_0);(try rw [show ((1 : Int)).toNat=1 from rfl] at hx150_1);(try rw [show 1 * 3=3 from rfl] at hx150_1);(try rw [show ((1 : Int)).toNat=1 from rfl] at hx150_2);(try rw [show 1 * 3=3 from rfl] at hx150_2);replace p150:=eq_true p150;replace q150:=eq_true q150))
       go_ret
       exact ⟨by first|rfl|(simp [errW_none,errW_some] <;> rfl)|(simp [*,errW_none,errW_some] <;> rfl),by repeat (first|(with_reducible first|exact HB.out|apply below_alloc|apply pw_below_drewN|apply below_drew1|refine below_set ?_ GE131.out)|exact HB.out)⟩
      ·replace c8:=Bool.eq_false_iff.mpr c8
       subst c8
       have H1 : (some false)=some r:=by rw [if_neg (show ¬ (false=true) by decide)] at H;exact H
       clear H
       have H:=H1
       clear H1
       obtain rfl:=Option.some.inj H
       go_enter Try.func8,Try.ntmps8
       go_wp2_with (first|((with_reducible refine gate_dst (N:=3) rfl ?_);refine Kd.R_lit (Kd.int .i64) _ 3 ?hg (N:=3) ?hd (xs:=([1] : List Int)) (inner:=[.int .i64 1]) (ok:=fun _=>True) (okp:=fun _=>True) ?hr ?hp (fun _ hk=>hk) trivial (Below.refl _ _) (Nat.le_refl _) (by simp) ?_;(case hd=>rfl);(case hg=>rfl);(case hr=>first|(go_simp;done)|(go_simp;rfl));(case hp=>exact (Reps.one (show Kd.M (Kd.int .i64) _ _ _ 1 [.int .i64 1] from rfl) (Reps.none _ _)));intro v129 w28 ho29 hb hg_ hnew_;clear hg_ hnew_;(first|rw [← Ny128.out] at ho29|(simp only [Int.reduceToNat] at ho29;rw [← Ny128.out] at ho29));have n0_:=Aside0.mk (Kd.R_lower ho29 (below_size (below_up HB.out)));have n1_:=Aside0.mk (below_step (below_up HB.out) hb);clear HB;have HO130:=n0_;have HB:=n1_;clear n0_ n1_;clear hb ho29;obtain ⟨Ao30,co30,eo30⟩:=Kd.R_slice HO130.out;subst eo30)|((with_reducible refine gate_dst (N:=1) rfl ?_);refine box_event ?hg (N:=1) ?hd (cs:=#[.slice none 0 0,.int .i64 0,.int .i64 0,.int .i64 0]) (t:=29) ?hr ?_;(case hd=>rfl);(case hg=>rfl);(case hr=>first|(go_simp;done)|(go_simp;rfl));intro gb131 hg w31 hbox hb;have n0_:=Aside0.mk (Kd.R_below (R_up HO130.out) hb);have n1_:=Aside0.mk (below_step (below_up HB.out) hb);have n2_:=Aside0.mk (hbox);have n3_:=Aside0.mk ((by rw [hg];exact (below_size (below_up HB.out)) : w.heap.size≤gb131));have n4_:=Aside0.mk ((by rw [hg];exact (below_size (below_up HB.out)) : w.heap.size≤gb131));clear HO130;clear HB;have HO130:=n0_;have HB:=n1_;have BK131:=n2_;have GW131:=n3_;have GE131:=n4_;clear n0_ n1_ n2_ n3_ n4_;clear hb hbox hg;have hcz32_0 : w31.cell? ⟨gb131,0,none⟩=some (.slice none 0 0):=(blk_cell BK131.out 0).trans rfl;have hcz32_1 : w31.cell? ⟨gb131,1,none⟩=some (.int .i64 0):=(blk_cell BK131.out 1).trans rfl;have hcz32_2 : w31.cell? ⟨gb131,2,none⟩=some (.int .i64 0):=(blk_cell BK131.out 2).trans rfl;have hcz32_3 : w31.cell? ⟨gb131,3,none⟩=some (.int .i64 0):=(blk_cell BK131.out 3).trans rfl;have hfz32_0:=blk_frozen BK131.out 0;have hfz32_1:=blk_frozen BK131.out 1;have hfz32_2:=blk_frozen BK131.out 2;have hfz32_3:=blk_frozen BK131.out 3)|((with_reducible refine gate_dst (N:=8) rfl ?_);refine Kd.R_lit k33 _ 33 ?hg (N:=8) ?hd (xs:=([(⟨2,0⟩ : S33),(⟨3,0⟩ : S33)] : List (S33))) (inner:=[.int .i64 2,.int .i64 0,.int .i64 3,.int .i64 0]) (ok:=fun _=>True) (okp:=fun _=>True) ?hr ?hp (fun _ hk=>hk) trivial (Below.refl _ _) (Nat.le_refl _) (by simp) ?_;(case hd=>rfl);(case hg=>rfl);(case hr=>first|(go_simp;done)|(go_simp;rfl));(case hp=>exact (Reps.c2 (show Kd.M k33 _ _ _ (⟨2,0⟩ : S33) [.int .i64 2,.int .i64 0] from (k33_mkM _ _ _ (⟨2,0⟩ : S33) )) (Reps.c2 (show Kd.M k33 _ _ _ (⟨3,0⟩ : S33) [.int .i64 3,.int .i64 0] from (k33_mkM _ _ _ (⟨3,0⟩ : S33) )) (Reps.none _ _))));intro v133 w33 ho34 hb hg_ hnew_;clear hg_ hnew_;(first|rw [← Ny132.out] at ho34|(simp only [Int.reduceToNat] at ho34;rw [← Ny132.out] at ho34));have n0_:=Aside0.mk (Kd.R_below (by (with_reducible repeat (first|apply Kd.R_alloc|apply Kd.R_drewN|apply Kd.R_drew));exact (Kd.R_mono (Kd.R_far (p:=⟨gb131,3,none⟩) (Kd.R_far (p:=⟨gb131,2,none⟩) (Kd.R_far (p:=⟨gb131,1,none⟩) (Kd.R_far (p:=⟨gb131,0,none⟩) (Kd.R_types HO130.out BK131.out (by decide)) (fun _ hk=>hk.2) (.slice Ao30 y128.length co30)) (fun _ hk=>hk.2) (.int .i64 1)) (fun _ hk=>hk.2) (.int .i64 1)) (fun _ hk=>hk.2) (.int .i64 1)) (fun _ h_=>h_.1))) hb);have n1_:=Aside0.mk (Kd.R_lower ho34 (below_size (below_go HB.out)));have n2_:=Aside0.mk (blk_below (g:=gb131) (o:=.cells #[.slice Ao30 y128.length co30,.int .i64 1,.int .i64 1,.int .i64 1] 29 (0,0)) (by (with_reducible repeat (first|refine blk_drewN ?_ _|refine blk_drew ?_|refine blk_alloc ?_ _));refine blk_put (cs:=#[.slice Ao30 y128.length co30,.int .i64 1,.int .i64 1,.int .i64 0]) ?_ 3 _ rfl;(with_reducible repeat (first|refine blk_drewN ?_ _|refine blk_drew ?_|refine blk_alloc ?_ _));refine blk_put (cs:=#[.slice Ao30 y128.length co30,.int .i64 1,.int .i64 0,.int .i64 0]) ?_ 2 _ rfl;(with_reducible repeat (first|refine blk_drewN ?_ _|refine blk_drew ?_|refine blk_alloc ?_ _));refine blk_put (cs:=#[.slice Ao30 y128.length co30,.int .i64 0,.int .i64 0,.int .i64 0]) ?_ 1 _ rfl;(with_reducible repeat (first|refine blk_drewN ?_ _|refine blk_drew ?_|refine blk_alloc ?_ _));refine blk_put (cs:=#[.slice none 0 0,.int .i64 0,.int .i64 0,.int .i64 0]) ?_ 0 _ rfl;(with_reducible repeat (first|refine blk_drewN ?_ _|refine blk_drew ?_|refine blk_alloc ?_ _));exact BK131.out) hb);have n3_:=Aside0.mk (below_step (below_go HB.out) hb);clear HO130;clear BK131;clear HB;have HO130:=n0_;have HO134:=n1_;have BK131:=n2_;have HB:=n3_;clear n0_ n1_ n2_ n3_;clear hb ho34)|((with_reducible refine gate_dst (N:=10) rfl ?_);refine Kd.R_lit k40 _ 40 ?hg (N:=10) ?hd (xs:=([(⟨3,(⟨#[]⟩ : ByteArray)⟩ : S40)] : List (S40))) (inner:=[.int .i64 3,.string (⟨#[]⟩ : ByteArray)]) (ok:=fun _=>True) (okp:=fun _=>True) ?hr ?hp (fun _ hk=>hk) trivial (Below.refl _ _) (Nat.le_refl _) (by simp) ?_;(case hd=>rfl);(case hg=>rfl);(case hr=>first|(go_simp;done)|(go_simp;rfl));(case hp=>exact (Reps.c2 (show Kd.M k40 _ _ _ (⟨3,(⟨#[]⟩ : ByteArray)⟩ : S40) [.int .i64 3,.string (⟨#[]⟩ : ByteArray)] from (k40_mkM _ _ _ (⟨3,(⟨#[]⟩ : ByteArray)⟩ : S40) )) (Reps.none _ _)));intro v136 w35 ho36 hb hg_ hnew_;clear hg_ hnew_;(first|rw [← Ny135.out] at ho36|(simp only [Int.reduceToNat] at ho36;rw [← Ny135.out] at ho36));have n0_:=Aside0.mk (Kd.R_below (R_up HO130.out) hb);have n1_:=Aside0.mk (Kd.R_below (R_up HO134.out) hb);have n2_:=Aside0.mk (Kd.R_lower ho36 (below_size (below_go HB.out)));have n3_:=Aside0.mk (blk_below (blk_up BK131.out) hb);have n4_:=Aside0.mk (below_step (below_go HB.out) hb);clear HO130;clear HO134;clear BK131;clear HB;have HO130:=n0_;have HO134:=n1_;have HO137:=n2_;have BK131:=n3_;have HB:=n4_;clear n0_ n1_ n2_ n3_ n4_;clear hb ho36)|((with_reducible refine gate_dst (N:=12) rfl ?_);refine Kd.R_lit k40 _ 40 ?hg (N:=12) ?hd (xs:=([(⟨5,(⟨#[]⟩ : ByteArray)⟩ : S40)] : List (S40))) (inner:=[.int .i64 5,.string (⟨#[]⟩ : ByteArray)]) (ok:=fun _=>True) (okp:=fun _=>True) ?hr ?hp (fun _ hk=>hk) trivial (Below.refl _ _) (Nat.le_refl _) (by simp) ?_;(case hd=>rfl);(case hg=>rfl);(case hr=>first|(go_simp;done)|(go_simp;rfl));(case hp=>exact (Reps.c2 (show Kd.M k40 _ _ _ (⟨5,(⟨#[]⟩ : ByteArray)⟩ : S40) [.int .i64 5,.string (⟨#[]⟩ : ByteArray)] from (k40_mkM _ _ _ (⟨5,(⟨#[]⟩ : ByteArray)⟩ : S40) )) (Reps.none _ _)));intro v139 w37 ho38 hb hg_ hnew_;clear hg_ hnew_;(first|rw [← Ny138.out] at ho38|(simp only [Int.reduceToNat] at ho38;rw [← Ny138.out] at ho38));have n0_:=Aside0.mk (Kd.R_below (R_up HO130.out) hb);have n1_:=Aside0.mk (Kd.R_below (R_up HO134.out) hb);have n2_:=Aside0.mk (Kd.R_elder' (R_up HO137.out) (Kd.R_base ho38) hb);have n3_:=Aside0.mk (Kd.R_lower (Kd.R_new' ho38 (Kd.R_lt (R_up HO137.out))) (below_size (below_go HB.out)));have n4_:=Aside0.mk (blk_below (blk_up BK131.out) hb);have n5_:=Aside0.mk (below_step (below_go HB.out) hb);clear HO130;clear HO134;clear HO137;clear BK131;clear HB;have HO130:=n0_;have HO134:=n1_;have HO137:=n2_;have HO140:=n3_;have BK131:=n4_;have HB:=n5_;clear n0_ n1_ n2_ n3_ n4_ n5_;clear hb ho38;obtain ⟨Ao39,co39,eo39⟩:=Kd.R_slice HO137.out;subst eo39;obtain ⟨Ao40,co40,eo40⟩:=Kd.R_slice HO140.out;subst eo40)|((with_reducible refine gate_dst (N:=13) rfl ?_);refine Kd.N_lit (Kd.slice 40 k40) _ 44 ?hg (N':=13) ?hd (xs:=([y135,y138] : List (List (S40)))) (inner:=[.slice Ao39 y135.length co39,.slice Ao40 y138.length co40]) (ok:=(fun k_=>some k_≠(.slice Ao30 y128.length co30 : Value).ownBlock∧some k_≠(v133 : Value).ownBlock∧k_≠gb131)) (okp:=(fun k_=>some k_≠(.slice Ao30 y128.length co30 : Value).ownBlock∧some k_≠(v133 : Value).ownBlock∧k_≠gb131)) ?hr ?hp (fun _ hk=>hk) ((show ∀ k_,w37.heap.size≤k_→(fun k_=>some k_≠(.slice Ao30 y128.length co30 : Value).ownBlock∧some k_≠(v133 : Value).ownBlock∧k_≠gb131) k_ from fun k_ hk=>⟨Kd.fresh' (Kd.R_lt (R_up HO130.out)) k_ hk,Kd.fresh' (Kd.R_lt (R_up HO134.out)) k_ hk,Kd.freshB (blk_up BK131.out) k_ hk⟩) _ (Nat.le_refl _)) (Below.refl _ _) (Nat.le_refl _) (by simp) ?_;(case hd=>rfl);(case hg=>rfl);(case hr=>first|(go_simp;done)|(go_simp;rfl));(case hp=>exact (Reps.one (show Kd.FK (Kd.slice 40 k40) _ _ y135 [.slice Ao39 y135.length co39] from (Kd.FK_slice_mk (Kd.R_reads' (Kd.R_mono (ok':=(fun k_=>some k_≠(.slice Ao30 y128.length co30 : Value).ownBlock∧some k_≠(v133 : Value).ownBlock∧k_≠gb131)) (Kd.R_types (Kd.R_apart' (Kd.R_apart' (HO137.out) (Kd.R_typed HO130.out) (by decide)) (Kd.R_typed HO134.out) (by decide)) BK131.out (by decide)) (fun k_ hk=>⟨hk.1.1.2,⟨hk.1.2,hk.2⟩⟩))).2.1 (Kd.R_F (Kd.R_mono (ok':=(fun k_=>some k_≠(.slice Ao30 y128.length co30 : Value).ownBlock∧some k_≠(v133 : Value).ownBlock∧k_≠gb131)) (Kd.R_types (Kd.R_apart' (Kd.R_apart' (HO137.out) (Kd.R_typed HO130.out) (by decide)) (Kd.R_typed HO134.out) (by decide)) BK131.out (by decide)) (fun k_ hk=>⟨hk.1.1.2,⟨hk.1.2,hk.2⟩⟩))))) (Reps.one (show Kd.FK (Kd.slice 40 k40) _ _ y138 [.slice Ao40 y138.length co40] from (Kd.FK_slice_mk (Kd.R_reads' (Kd.R_mono (ok':=(fun k_=>some k_≠(.slice Ao30 y128.length co30 : Value).ownBlock∧some k_≠(v133 : Value).ownBlock∧k_≠gb131)) (Kd.R_types (Kd.R_apart' (Kd.R_apart' (HO140.out) (Kd.R_typed HO130.out) (by decide)) (Kd.R_typed HO134.out) (by decide)) BK131.out (by decide)) (fun k_ hk=>⟨hk.1.1.2,⟨hk.1.2,hk.2⟩⟩))).2.1 (Kd.R_F (Kd.R_mono (ok':=(fun k_=>some k_≠(.slice Ao30 y128.length co30 : Value).ownBlock∧some k_≠(v133 : Value).ownBlock∧k_≠gb131)) (Kd.R_types (Kd.R_apart' (Kd.R_apart' (HO140.out) (Kd.R_typed HO130.out) (by decide)) (Kd.R_typed HO134.out) (by decide)) BK131.out (by decide)) (fun k_ hk=>⟨hk.1.1.2,⟨hk.1.2,hk.2⟩⟩))))) (Reps.none _ _))));intro v142 w41 ho42 hb hg_ hnew_;clear hg_ hnew_;(first|rw [← Ny141.out] at ho42|(simp only [Int.reduceToNat] at ho42;rw [← Ny141.out] at ho42));have n0_:=Aside0.mk (Kd.R_below (R_up HO130.out) hb);have n1_:=Aside0.mk (Kd.R_below (R_up HO134.out) hb);have n2_:=Aside0.mk (Kd.N_lower ho42 (below_size (below_go HB.out)));have n3_:=Aside0.mk (blk_below (blk_up BK131.out) hb);have n4_:=Aside0.mk (below_step (below_go HB.out) hb);clear HO130;clear HO134;clear BK131;clear HB;clear HO137;clear HO140;have HO130:=n0_;have HO134:=n1_;have HO143:=n2_;have BK131:=n3_;have HB:=n4_;clear n0_ n1_ n2_ n3_ n4_;clear hb ho42;obtain ⟨Ao43,co43,eo43⟩:=Kd.R_slice HO134.out;subst eo43;obtain ⟨Ao44,co44,eo44⟩:=Kd.N_slice HO143.out;subst eo44)|((with_reducible refine gate_callee (f:=11) rfl ?_);refine goesL_ (some 14) rfl rfl Try.func11 (by kernel_rfl) rfl #[.agg #[.slice Ao30 y128.length co30,.int .i64 1,.int .i64 1,.int .i64 1],.slice Ao43 y132.length co43,.slice Ao44 y141.length co44] rfl (by (try simp only [List.map_toArray,List.map_cons,List.map_nil]);first|done|rfl|(simp only [List.length_drop,List.length_take];rfl)) ?_;(with_reducible refine (agg_Rows.calls k _ _ y128 1 1 1 _ _ y132 _ _ y141 t144 _ ?side1 ?side2 ?side3 ?side4 ?side5 ?side6 A1.out).mono ?_);(case side1=>repeat (first|exact (Kd.R_reads' HO130.out).2.2|(with_reducible refine Kd.C_alloc ?_ _)|(with_reducible refine Kd.C_drewN ?_ _)|(with_reducible refine Kd.C_drew ?_)));(case side2=>exact (Kd.R_reads' HO130.out).2.1);(case side3=>repeat (first|exact (Kd.R_reads' HO134.out).2.2|(with_reducible refine Kd.C_alloc ?_ _)|(with_reducible refine Kd.C_drewN ?_ _)|(with_reducible refine Kd.C_drew ?_)));(case side4=>exact (Kd.R_reads' HO134.out).2.1);(case side5=>repeat (first|exact (Kd.N_reads' HO143.out).2.2|(with_reducible refine Kd.C_alloc ?_ _)|(with_reducible refine Kd.C_drewN ?_ _)|(with_reducible refine Kd.C_drew ?_)));(case side6=>exact (Kd.N_reads' HO143.out).2.1);rintro e w45 ⟨v145,rfl,ho0,hb⟩;refine ⟨_,rfl,?_⟩;have n0_:=Aside0.mk (Kd.R_below (R_up HO130.out) hb);have n1_:=Aside0.mk (Kd.R_below (R_up HO134.out) hb);have n2_:=Aside0.mk (Kd.N_elder' (N_up HO143.out) (Kd.R_base ho0) hb);have n3_:=Aside0.mk (Kd.R_lower ho0 (below_size (below_go HB.out)));have n4_:=Aside0.mk (blk_below (blk_up BK131.out) hb);have n5_:=Aside0.mk (below_step (below_go HB.out) hb);clear HO130;clear HO134;clear HO143;clear BK131;clear HB;have HO130:=n0_;have HO134:=n1_;have HO143:=n2_;have HO146:=n3_;have BK131:=n4_;have HB:=n5_;clear n0_ n1_ n2_ n3_ n4_ n5_;(try clear hb);(try clear hb2);(try clear hk);(try clear hi);(try clear ho0);obtain ⟨Ao46,co46,eo46⟩:=Kd.R_slice HO146.out;subst eo46;have p147 : 0≤(0 : Int):=(by omega);have q147 : 0 < (t144.length : Int):=of_decide_eq_true (by first|(with_reducible assumption)|assumption);obtain ⟨ad147,e147,hx147_0,hx147_1,hx147_2⟩:=at_T42 (Kd.R_reads' HO146.out).2.2 0 p147 q147;(try rw [← Nbq7.out] at hx147_0);cases e147;have qi147 : (0 < t144.length)=True:=eq_true (by omega);(try rw [show ((0 : Int)).toNat=0 from rfl] at hx147_0);(try rw [show 0 * 3=0 from rfl] at hx147_0);(try rw [Addr.add_zero'] at hx147_0);(try rw [show ((0 : Int)).toNat=0 from rfl] at hx147_1);(try rw [show 0 * 3=0 from rfl] at hx147_1);(try rw [Addr.add_zero'] at hx147_1);(try rw [show ((0 : Int)).toNat=0 from rfl] at hx147_2);(try rw [show 0 * 3=0 from rfl] at hx147_2);(try rw [Addr.add_zero'] at hx147_2);replace p147:=eq_true p147;replace q147:=eq_true q147;have p148 : 0≤(1 : Int):=(by omega);have q148 : 1 < (t144.length : Int):=of_decide_eq_true (by first|(with_reducible assumption)|assumption);obtain ⟨ad148,e148,hx148_0,hx148_1,hx148_2⟩:=at_T42 (Kd.R_reads' HO146.out).2.2 1 p148 q148;(try rw [← Nbq7.out] at hx148_0);obtain rfl : ad147=ad148:=(by injection e148);(try simp only [show (1 : Int).toNat=1 from rfl,Nat.reduceMul,Nat.reduceEqDiff,Go.Addr.add,↓reduceIte] at hx148_0);(try simp only [show (1 : Int).toNat=1 from rfl,Nat.reduceMul,Nat.reduceEqDiff,Go.Addr.add,↓reduceIte] at hx148_1);(try simp only [show (1 : Int).toNat=1 from rfl,Nat.reduceMul,Nat.reduceEqDiff,Go.Addr.add,↓reduceIte] at hx148_2);have qi148 : (1 < t144.length)=True:=eq_true (by omega);(try rw [show ((1 : Int)).toNat=1 from rfl] at hx148_0);(try rw [show 1 * 3=3 from rfl] at hx148_0);(try rw [show ((1 : Int)).toNat=1 from rfl] at hx148_1);(try rw [show 1 * 3=3 from rfl] at hx148_1);(try rw [show ((1 : Int)).toNat=1 from rfl] at hx148_2);(try rw [show 1 * 3=3 from rfl] at hx148_2);replace p148:=eq_true p148;replace q148:=eq_true q148;have p149 : 0≤(0 : Int):=(by omega);have q149 : 0 < (t144.length : Int):=of_decide_eq_true (by first|(with_reducible assumption)|assumption);obtain ⟨ad149,e149,hx149_0,hx149_1,hx149_2⟩:=at_T42 (Kd.R_reads' HO146.out).2.2 0 p149 q149;(try rw [← Nbq7.out] at hx149_0);obtain rfl : ad147=ad149:=(by injection e149);have qi149 : (0 < t144.length)=True:=eq_true (by omega);(try rw [show ((0 : Int)).toNat=0 from rfl] at hx149_0);(try rw [show 0 * 3=0 from rfl] at hx149_0);(try rw [Addr.add_zero'] at hx149_0);(try rw [show ((0 : Int)).toNat=0 from rfl] at hx149_1);(try rw [show 0 * 3=0 from rfl] at hx149_1);(try rw [Addr.add_zero'] at hx149_1);(try rw [show ((0 : Int)).toNat=0 from rfl] at hx149_2);(try rw [show 0 * 3=0 from rfl] at hx149_2);(try rw [Addr.add_zero'] at hx149_2);replace p149:=eq_true p149;replace q149:=eq_true q149))
       go_ret
       exact ⟨by first|rfl|(simp [errW_none,errW_some] <;> rfl)|(simp [*,errW_none,errW_some] <;> rfl),by repeat (first|(with_reducible first|exact HB.out|apply below_alloc|apply pw_below_drewN|apply below_drew1|refine below_set ?_ GE131.out)|exact HB.out)⟩
     ·rw [if_neg c6] at H
      have c6b0 : (((rd_T42 t144 1).f1.f0) == 3)=false:=beq_eq_false_iff_ne.mpr c6
      have c6b1 : (((rd_T42 t144 1).f1.f0) != 3)=true:=bne_iff_ne.mpr c6
      obtain rfl:=Option.some.inj H
      go_enter Try.func8,Try.ntmps8
      go_wp2_with (first|((with_reducible refine gate_dst (N:=3) rfl ?_);refine Kd.R_lit (Kd.int .i64) _ 3 ?hg (N:=3) ?hd (xs:=([1] : List Int)) (inner:=[.int .i64 1]) (ok:=fun _=>True) (okp:=fun _=>True) ?hr ?hp (fun _ hk=>hk) trivial (Below.refl _ _) (Nat.le_refl _) (by simp) ?_;(case hd=>rfl);(case hg=>rfl);(case hr=>first|(go_simp;done)|(go_simp;rfl));(case hp=>exact (Reps.one (show Kd.M (Kd.int .i64) _ _ _ 1 [.int .i64 1] from rfl) (Reps.none _ _)));intro v129 w47 ho48 hb hg_ hnew_;clear hg_ hnew_;(first|rw [← Ny128.out] at ho48|(simp only [Int.reduceToNat] at ho48;rw [← Ny128.out] at ho48));have n0_:=Aside0.mk (Kd.R_lower ho48 (below_size (below_up HB.out)));have n1_:=Aside0.mk (below_step (below_up HB.out) hb);clear HB;have HO130:=n0_;have HB:=n1_;clear n0_ n1_;clear hb ho48;obtain ⟨Ao49,co49,eo49⟩:=Kd.R_slice HO130.out;subst eo49)|((with_reducible refine gate_dst (N:=1) rfl ?_);refine box_event ?hg (N:=1) ?hd (cs:=#[.slice none 0 0,.int .i64 0,.int .i64 0,.int .i64 0]) (t:=29) ?hr ?_;(case hd=>rfl);(case hg=>rfl);(case hr=>first|(go_simp;done)|(go_simp;rfl));intro gb131 hg w50 hbox hb;have n0_:=Aside0.mk (Kd.R_below (R_up HO130.out) hb);have n1_:=Aside0.mk (below_step (below_up HB.out) hb);have n2_:=Aside0.mk (hbox);have n3_:=Aside0.mk ((by rw [hg];exact (below_size (below_up HB.out)) : w.heap.size≤gb131));have n4_:=Aside0.mk ((by rw [hg];exact (below_size (below_up HB.out)) : w.heap.size≤gb131));clear HO130;clear HB;have HO130:=n0_;have HB:=n1_;have BK131:=n2_;have GW131:=n3_;have GE131:=n4_;clear n0_ n1_ n2_ n3_ n4_;clear hb hbox hg;have hcz51_0 : w50.cell? ⟨gb131,0,none⟩=some (.slice none 0 0):=(blk_cell BK131.out 0).trans rfl;have hcz51_1 : w50.cell? ⟨gb131,1,none⟩=some (.int .i64 0):=(blk_cell BK131.out 1).trans rfl;have hcz51_2 : w50.cell? ⟨gb131,2,none⟩=some (.int .i64 0):=(blk_cell BK131.out 2).trans rfl;have hcz51_3 : w50.cell? ⟨gb131,3,none⟩=some (.int .i64 0):=(blk_cell BK131.out 3).trans rfl;have hfz51_0:=blk_frozen BK131.out 0;have hfz51_1:=blk_frozen BK131.out 1;have hfz51_2:=blk_frozen BK131.out 2;have hfz51_3:=blk_frozen BK131.out 3)|((with_reducible refine gate_dst (N:=8) rfl ?_);refine Kd.R_lit k33 _ 33 ?hg (N:=8) ?hd (xs:=([(⟨2,0⟩ : S33),(⟨3,0⟩ : S33)] : List (S33))) (inner:=[.int .i64 2,.int .i64 0,.int .i64 3,.int .i64 0]) (ok:=fun _=>True) (okp:=fun _=>True) ?hr ?hp (fun _ hk=>hk) trivial (Below.refl _ _) (Nat.le_refl _) (by simp) ?_;(case hd=>rfl);(case hg=>rfl);(case hr=>first|(go_simp;done)|(go_simp;rfl));(case hp=>exact (Reps.c2 (show Kd.M k33 _ _ _ (⟨2,0⟩ : S33) [.int .i64 2,.int .i64 0] from (k33_mkM _ _ _ (⟨2,0⟩ : S33) )) (Reps.c2 (show Kd.M k33 _ _ _ (⟨3,0⟩ : S33) [.int .i64 3,.int .i64 0] from (k33_mkM _ _ _ (⟨3,0⟩ : S33) )) (Reps.none _ _))));intro v133 w52 ho53 hb hg_ hnew_;clear hg_ hnew_;(first|rw [← Ny132.out] at ho53|(simp only [Int.reduceToNat] at ho53;rw [← Ny132.out] at ho53));have n0_:=Aside0.mk (Kd.R_below (by (with_reducible repeat (first|apply Kd.R_alloc|apply Kd.R_drewN|apply Kd.R_drew));exact (Kd.R_mono (Kd.R_far (p:=⟨gb131,3,none⟩) (Kd.R_far (p:=⟨gb131,2,none⟩) (Kd.R_far (p:=⟨gb131,1,none⟩) (Kd.R_far (p:=⟨gb131,0,none⟩) (Kd.R_types HO130.out BK131.out (by decide)) (fun _ hk=>hk.2) (.slice Ao49 y128.length co49)) (fun _ hk=>hk.2) (.int .i64 1)) (fun _ hk=>hk.2) (.int .i64 1)) (fun _ hk=>hk.2) (.int .i64 1)) (fun _ h_=>h_.1))) hb);have n1_:=Aside0.mk (Kd.R_lower ho53 (below_size (below_go HB.out)));have n2_:=Aside0.mk (blk_below (g:=gb131) (o:=.cells #[.slice Ao49 y128.length co49,.int .i64 1,.int .i64 1,.int .i64 1] 29 (0,0)) (by (with_reducible repeat (first|refine blk_drewN ?_ _|refine blk_drew ?_|refine blk_alloc ?_ _));refine blk_put (cs:=#[.slice Ao49 y128.length co49,.int .i64 1,.int .i64 1,.int .i64 0]) ?_ 3 _ rfl;(with_reducible repeat (first|refine blk_drewN ?_ _|refine blk_drew ?_|refine blk_alloc ?_ _));refine blk_put (cs:=#[.slice Ao49 y128.length co49,.int .i64 1,.int .i64 0,.int .i64 0]) ?_ 2 _ rfl;(with_reducible repeat (first|refine blk_drewN ?_ _|refine blk_drew ?_|refine blk_alloc ?_ _));refine blk_put (cs:=#[.slice Ao49 y128.length co49,.int .i64 0,.int .i64 0,.int .i64 0]) ?_ 1 _ rfl;(with_reducible repeat (first|refine blk_drewN ?_ _|refine blk_drew ?_|refine blk_alloc ?_ _));refine blk_put (cs:=#[.slice none 0 0,.int .i64 0,.int .i64 0,.int .i64 0]) ?_ 0 _ rfl;(with_reducible repeat (first|refine blk_drewN ?_ _|refine blk_drew ?_|refine blk_alloc ?_ _));exact BK131.out) hb);have n3_:=Aside0.mk (below_step (below_go HB.out) hb);clear HO130;clear BK131;clear HB;have HO130:=n0_;have HO134:=n1_;have BK131:=n2_;have HB:=n3_;clear n0_ n1_ n2_ n3_;clear hb ho53)|((with_reducible refine gate_dst (N:=10) rfl ?_);refine Kd.R_lit k40 _ 40 ?hg (N:=10) ?hd (xs:=([(⟨3,(⟨#[]⟩ : ByteArray)⟩ : S40)] : List (S40))) (inner:=[.int .i64 3,.string (⟨#[]⟩ : ByteArray)]) (ok:=fun _=>True) (okp:=fun _=>True) ?hr ?hp (fun _ hk=>hk) trivial (Below.refl _ _) (Nat.le_refl _) (by simp) ?_;(case hd=>rfl);(case hg=>rfl);(case hr=>first|(go_simp;done)|(go_simp;rfl));(case hp=>exact (Reps.c2 (show Kd.M k40 _ _ _ (⟨3,(⟨#[]⟩ : ByteArray)⟩ : S40) [.int .i64 3,.string (⟨#[]⟩ : ByteArray)] from (k40_mkM _ _ _ (⟨3,(⟨#[]⟩ : ByteArray)⟩ : S40) )) (Reps.none _ _)));intro v136 w54 ho55 hb hg_ hnew_;clear hg_ hnew_;(first|rw [← Ny135.out] at ho55|(simp only [Int.reduceToNat] at ho55;rw [← Ny135.out] at ho55));have n0_:=Aside0.mk (Kd.R_below (R_up HO130.out) hb);have n1_:=Aside0.mk (Kd.R_below (R_up HO134.out) hb);have n2_:=Aside0.mk (Kd.R_lower ho55 (below_size (below_go HB.out)));have n3_:=Aside0.mk (blk_below (blk_up BK131.out) hb);have n4_:=Aside0.mk (below_step (below_go HB.out) hb);clear HO130;clear HO134;clear BK131;clear HB;have HO130:=n0_;have HO134:=n1_;have HO137:=n2_;have BK131:=n3_;have HB:=n4_;clear n0_ n1_ n2_ n3_ n4_;clear hb ho55)|((with_reducible refine gate_dst (N:=12) rfl ?_);refine Kd.R_lit k40 _ 40 ?hg (N:=12) ?hd (xs:=([(⟨5,(⟨#[]⟩ : ByteArray)⟩ : S40)] : List (S40))) (inner:=[.int .i64 5,.string (⟨#[]⟩ : ByteArray)]) (ok:=fun _=>True) (okp:=fun _=>True) ?hr ?hp (fun _ hk=>hk) trivial (Below.refl _ _) (Nat.le_refl _) (by simp) ?_;(case hd=>rfl);(case hg=>rfl);(case hr=>first|(go_simp;done)|(go_simp;rfl));(case hp=>exact (Reps.c2 (show Kd.M k40 _ _ _ (⟨5,(⟨#[]⟩ : ByteArray)⟩ : S40) [.int .i64 5,.string (⟨#[]⟩ : ByteArray)] from (k40_mkM _ _ _ (⟨5,(⟨#[]⟩ : ByteArray)⟩ : S40) )) (Reps.none _ _)));intro v139 w56 ho57 hb hg_ hnew_;clear hg_ hnew_;(first|rw [← Ny138.out] at ho57|(simp only [Int.reduceToNat] at ho57;rw [← Ny138.out] at ho57));have n0_:=Aside0.mk (Kd.R_below (R_up HO130.out) hb);have n1_:=Aside0.mk (Kd.R_below (R_up HO134.out) hb);have n2_:=Aside0.mk (Kd.R_elder' (R_up HO137.out) (Kd.R_base ho57) hb);have n3_:=Aside0.mk (Kd.R_lower (Kd.R_new' ho57 (Kd.R_lt (R_up HO137.out))) (below_size (below_go HB.out)));have n4_:=Aside0.mk (blk_below (blk_up BK131.out) hb);have n5_:=Aside0.mk (below_step (below_go HB.out) hb);clear HO130;clear HO134;clear HO137;clear BK131;clear HB;have HO130:=n0_;have HO134:=n1_;have HO137:=n2_;have HO140:=n3_;have BK131:=n4_;have HB:=n5_;clear n0_ n1_ n2_ n3_ n4_ n5_;clear hb ho57;obtain ⟨Ao58,co58,eo58⟩:=Kd.R_slice HO137.out;subst eo58;obtain ⟨Ao59,co59,eo59⟩:=Kd.R_slice HO140.out;subst eo59)|((with_reducible refine gate_dst (N:=13) rfl ?_);refine Kd.N_lit (Kd.slice 40 k40) _ 44 ?hg (N':=13) ?hd (xs:=([y135,y138] : List (List (S40)))) (inner:=[.slice Ao58 y135.length co58,.slice Ao59 y138.length co59]) (ok:=(fun k_=>some k_≠(.slice Ao49 y128.length co49 : Value).ownBlock∧some k_≠(v133 : Value).ownBlock∧k_≠gb131)) (okp:=(fun k_=>some k_≠(.slice Ao49 y128.length co49 : Value).ownBlock∧some k_≠(v133 : Value).ownBlock∧k_≠gb131)) ?hr ?hp (fun _ hk=>hk) ((show ∀ k_,w56.heap.size≤k_→(fun k_=>some k_≠(.slice Ao49 y128.length co49 : Value).ownBlock∧some k_≠(v133 : Value).ownBlock∧k_≠gb131) k_ from fun k_ hk=>⟨Kd.fresh' (Kd.R_lt (R_up HO130.out)) k_ hk,Kd.fresh' (Kd.R_lt (R_up HO134.out)) k_ hk,Kd.freshB (blk_up BK131.out) k_ hk⟩) _ (Nat.le_refl _)) (Below.refl _ _) (Nat.le_refl _) (by simp) ?_;(case hd=>rfl);(case hg=>rfl);(case hr=>first|(go_simp;done)|(go_simp;rfl));(case hp=>exact (Reps.one (show Kd.FK (Kd.slice 40 k40) _ _ y135 [.slice Ao58 y135.length co58] from (Kd.FK_slice_mk (Kd.R_reads' (Kd.R_mono (ok':=(fun k_=>some k_≠(.slice Ao49 y128.length co49 : Value).ownBlock∧some k_≠(v133 : Value).ownBlock∧k_≠gb131)) (Kd.R_types (Kd.R_apart' (Kd.R_apart' (HO137.out) (Kd.R_typed HO130.out) (by decide)) (Kd.R_typed HO134.out) (by decide)) BK131.out (by decide)) (fun k_ hk=>⟨hk.1.1.2,⟨hk.1.2,hk.2⟩⟩))).2.1 (Kd.R_F (Kd.R_mono (ok':=(fun k_=>some k_≠(.slice Ao49 y128.length co49 : Value).ownBlock∧some k_≠(v133 : Value).ownBlock∧k_≠gb131)) (Kd.R_types (Kd.R_apart' (Kd.R_apart' (HO137.out) (Kd.R_typed HO130.out) (by decide)) (Kd.R_typed HO134.out) (by decide)) BK131.out (by decide)) (fun k_ hk=>⟨hk.1.1.2,⟨hk.1.2,hk.2⟩⟩))))) (Reps.one (show Kd.FK (Kd.slice 40 k40) _ _ y138 [.slice Ao59 y138.length co59] from (Kd.FK_slice_mk (Kd.R_reads' (Kd.R_mono (ok':=(fun k_=>some k_≠(.slice Ao49 y128.length co49 : Value).ownBlock∧some k_≠(v133 : Value).ownBlock∧k_≠gb131)) (Kd.R_types (Kd.R_apart' (Kd.R_apart' (HO140.out) (Kd.R_typed HO130.out) (by decide)) (Kd.R_typed HO134.out) (by decide)) BK131.out (by decide)) (fun k_ hk=>⟨hk.1.1.2,⟨hk.1.2,hk.2⟩⟩))).2.1 (Kd.R_F (Kd.R_mono (ok':=(fun k_=>some k_≠(.slice Ao49 y128.length co49 : Value).ownBlock∧some k_≠(v133 : Value).ownBlock∧k_≠gb131)) (Kd.R_types (Kd.R_apart' (Kd.R_apart' (HO140.out) (Kd.R_typed HO130.out) (by decide)) (Kd.R_typed HO134.out) (by decide)) BK131.out (by decide)) (fun k_ hk=>⟨hk.1.1.2,⟨hk.1.2,hk.2⟩⟩))))) (Reps.none _ _))));intro v142 w60 ho61 hb hg_ hnew_;clear hg_ hnew_;(first|rw [← Ny141.out] at ho61|(simp only [Int.reduceToNat] at ho61;rw [← Ny141.out] at ho61));have n0_:=Aside0.mk (Kd.R_below (R_up HO130.out) hb);have n1_:=Aside0.mk (Kd.R_below (R_up HO134.out) hb);have n2_:=Aside0.mk (Kd.N_lower ho61 (below_size (below_go HB.out)));have n3_:=Aside0.mk (blk_below (blk_up BK131.out) hb);have n4_:=Aside0.mk (below_step (below_go HB.out) hb);clear HO130;clear HO134;clear BK131;clear HB;clear HO137;clear HO140;have HO130:=n0_;have HO134:=n1_;have HO143:=n2_;have BK131:=n3_;have HB:=n4_;clear n0_ n1_ n2_ n3_ n4_;clear hb ho61;obtain ⟨Ao62,co62,eo62⟩:=Kd.R_slice HO134.out;subst eo62;obtain ⟨Ao63,co63,eo63⟩:=Kd.N_slice HO143.out;subst eo63)|((with_reducible refine gate_callee (f:=11) rfl ?_);refine goesL_ (some 14) rfl rfl Try.func11 (by kernel_rfl) rfl #[.agg #[.slice Ao49 y128.length co49,.int .i64 1,.int .i64 1,.int .i64 1],.slice Ao62 y132.length co62,.slice Ao63 y141.length co63] rfl (by (try simp only [List.map_toArray,List.map_cons,List.map_nil]);first|done|rfl|(simp only [List.length_drop,List.length_take];rfl)) ?_;(with_reducible refine (agg_Rows.calls k _ _ y128 1 1 1 _ _ y132 _ _ y141 t144 _ ?side1 ?side2 ?side3 ?side4 ?side5 ?side6 A1.out).mono ?_);(case side1=>repeat (first|exact (Kd.R_reads' HO130.out).2.2|(with_reducible refine Kd.C_alloc ?_ _)|(with_reducible refine Kd.C_drewN ?_ _)|(with_reducible refine Kd.C_drew ?_)));(case side2=>exact (Kd.R_reads' HO130.out).2.1);(case side3=>repeat (first|exact (Kd.R_reads' HO134.out).2.2|(with_reducible refine Kd.C_alloc ?_ _)|(with_reducible refine Kd.C_drewN ?_ _)|(with_reducible refine Kd.C_drew ?_)));(case side4=>exact (Kd.R_reads' HO134.out).2.1);(case side5=>repeat (first|exact (Kd.N_reads' HO143.out).2.2|(with_reducible refine Kd.C_alloc ?_ _)|(with_reducible refine Kd.C_drewN ?_ _)|(with_reducible refine Kd.C_drew ?_)));(case side6=>exact (Kd.N_reads' HO143.out).2.1);rintro e w64 ⟨v145,rfl,ho0,hb⟩;refine ⟨_,rfl,?_⟩;have n0_:=Aside0.mk (Kd.R_below (R_up HO130.out) hb);have n1_:=Aside0.mk (Kd.R_below (R_up HO134.out) hb);have n2_:=Aside0.mk (Kd.N_elder' (N_up HO143.out) (Kd.R_base ho0) hb);have n3_:=Aside0.mk (Kd.R_lower ho0 (below_size (below_go HB.out)));have n4_:=Aside0.mk (blk_below (blk_up BK131.out) hb);have n5_:=Aside0.mk (below_step (below_go HB.out) hb);clear HO130;clear HO134;clear HO143;clear BK131;clear HB;have HO130:=n0_;have HO134:=n1_;have HO143:=n2_;have HO146:=n3_;have BK131:=n4_;have HB:=n5_;clear n0_ n1_ n2_ n3_ n4_ n5_;(try clear hb);(try clear hb2);(try clear hk);(try clear hi);(try clear ho0);obtain ⟨Ao65,co65,eo65⟩:=Kd.R_slice HO146.out;subst eo65;have p147 : 0≤(0 : Int):=(by omega);have q147 : 0 < (t144.length : Int):=of_decide_eq_true (by first|(with_reducible assumption)|assumption);obtain ⟨ad147,e147,hx147_0,hx147_1,hx147_2⟩:=at_T42 (Kd.R_reads' HO146.out).2.2 0 p147 q147;cases e147;have qi147 : (0 < t144.length)=True:=eq_true (by omega);(try rw [show ((0 : Int)).toNat=0 from rfl] at hx147_0);(try rw [show 0 * 3=0 from rfl] at hx147_0);(try rw [Addr.add_zero'] at hx147_0);(try rw [show ((0 : Int)).toNat=0 from rfl] at hx147_1);(try rw [show 0 * 3=0 from rfl] at hx147_1);(try rw [Addr.add_zero'] at hx147_1);(try rw [show ((0 : Int)).toNat=0 from rfl] at hx147_2);(try rw [show 0 * 3=0 from rfl] at hx147_2);(try rw [Addr.add_zero'] at hx147_2);replace p147:=eq_true p147;replace q147:=eq_true q147;have p148 : 0≤(1 : Int):=(by omega);have q148 : 1 < (t144.length : Int):=of_decide_eq_true (by first|(with_reducible assumption)|assumption);obtain ⟨ad148,e148,hx148_0,hx148_1,hx148_2⟩:=at_T42 (Kd.R_reads' HO146.out).2.2 1 p148 q148;obtain rfl : ad147=ad148:=(by injection e148);(try simp only [show (1 : Int).toNat=1 from rfl,Nat.reduceMul,Nat.reduceEqDiff,Go.Addr.add,↓reduceIte] at hx148_0);(try simp only [show (1 : Int).toNat=1 from rfl,Nat.reduceMul,Nat.reduceEqDiff,Go.Addr.add,↓reduceIte] at hx148_1);(try simp only [show (1 : Int).toNat=1 from rfl,Nat.reduceMul,Nat.reduceEqDiff,Go.Addr.add,↓reduceIte] at hx148_2);have qi148 : (1 < t144.length)=True:=eq_true (by omega);(try rw [show ((1 : Int)).toNat=1 from rfl] at hx148_0);(try rw [show 1 * 3=3 from rfl] at hx148_0);(try rw [show ((1 : Int)).toNat=1 from rfl] at hx148_1);(try rw [show 1 * 3=3 from rfl] at hx148_1);(try rw [show ((1 : Int)).toNat=1 from rfl] at hx148_2);(try rw [show 1 * 3=3 from rfl] at hx148_2);replace p148:=eq_true p148;replace q148:=eq_true q148))
      go_ret
      exact ⟨by first|rfl|(simp [errW_none,errW_some] <;> rfl)|(simp [*,errW_none,errW_some] <;> rfl),by repeat (first|(with_reducible first|exact HB.out|apply below_alloc|apply pw_below_drewN|apply below_drew1|refine below_set ?_ GE131.out)|exact HB.out)⟩
    ·rw [if_neg c5] at H
     exact absurd H (by simp)
   ·rw [if_neg c4] at H
    have c4b0 : (((rd_T42 t144 0).f1.f0) == 8)=false:=beq_eq_false_iff_ne.mpr c4
    have c4b1 : (((rd_T42 t144 0).f1.f0) != 8)=true:=bne_iff_ne.mpr c4
    obtain rfl:=Option.some.inj H
    go_enter Try.func8,Try.ntmps8
    go_wp2_with (first|((with_reducible refine gate_dst (N:=3) rfl ?_);refine Kd.R_lit (Kd.int .i64) _ 3 ?hg (N:=3) ?hd (xs:=([1] : List Int)) (inner:=[.int .i64 1]) (ok:=fun _=>True) (okp:=fun _=>True) ?hr ?hp (fun _ hk=>hk) trivial (Below.refl _ _) (Nat.le_refl _) (by simp) ?_;(case hd=>rfl);(case hg=>rfl);(case hr=>first|(go_simp;done)|(go_simp;rfl));(case hp=>exact (Reps.one (show Kd.M (Kd.int .i64) _ _ _ 1 [.int .i64 1] from rfl) (Reps.none _ _)));intro v129 w66 ho67 hb hg_ hnew_;clear hg_ hnew_;(first|rw [← Ny128.out] at ho67|(simp only [Int.reduceToNat] at ho67;rw [← Ny128.out] at ho67));have n0_:=Aside0.mk (Kd.R_lower ho67 (below_size (below_up HB.out)));have n1_:=Aside0.mk (below_step (below_up HB.out) hb);clear HB;have HO130:=n0_;have HB:=n1_;clear n0_ n1_;clear hb ho67;obtain ⟨Ao68,co68,eo68⟩:=Kd.R_slice HO130.out;subst eo68)|((with_reducible refine gate_dst (N:=1) rfl ?_);refine box_event ?hg (N:=1) ?hd (cs:=#[.slice none 0 0,.int .i64 0,.int .i64 0,.int .i64 0]) (t:=29) ?hr ?_;(case hd=>rfl);(case hg=>rfl);(case hr=>first|(go_simp;done)|(go_simp;rfl));intro gb131 hg w69 hbox hb;have n0_:=Aside0.mk (Kd.R_below (R_up HO130.out) hb);have n1_:=Aside0.mk (below_step (below_up HB.out) hb);have n2_:=Aside0.mk (hbox);have n3_:=Aside0.mk ((by rw [hg];exact (below_size (below_up HB.out)) : w.heap.size≤gb131));have n4_:=Aside0.mk ((by rw [hg];exact (below_size (below_up HB.out)) : w.heap.size≤gb131));clear HO130;clear HB;have HO130:=n0_;have HB:=n1_;have BK131:=n2_;have GW131:=n3_;have GE131:=n4_;clear n0_ n1_ n2_ n3_ n4_;clear hb hbox hg;have hcz70_0 : w69.cell? ⟨gb131,0,none⟩=some (.slice none 0 0):=(blk_cell BK131.out 0).trans rfl;have hcz70_1 : w69.cell? ⟨gb131,1,none⟩=some (.int .i64 0):=(blk_cell BK131.out 1).trans rfl;have hcz70_2 : w69.cell? ⟨gb131,2,none⟩=some (.int .i64 0):=(blk_cell BK131.out 2).trans rfl;have hcz70_3 : w69.cell? ⟨gb131,3,none⟩=some (.int .i64 0):=(blk_cell BK131.out 3).trans rfl;have hfz70_0:=blk_frozen BK131.out 0;have hfz70_1:=blk_frozen BK131.out 1;have hfz70_2:=blk_frozen BK131.out 2;have hfz70_3:=blk_frozen BK131.out 3)|((with_reducible refine gate_dst (N:=8) rfl ?_);refine Kd.R_lit k33 _ 33 ?hg (N:=8) ?hd (xs:=([(⟨2,0⟩ : S33),(⟨3,0⟩ : S33)] : List (S33))) (inner:=[.int .i64 2,.int .i64 0,.int .i64 3,.int .i64 0]) (ok:=fun _=>True) (okp:=fun _=>True) ?hr ?hp (fun _ hk=>hk) trivial (Below.refl _ _) (Nat.le_refl _) (by simp) ?_;(case hd=>rfl);(case hg=>rfl);(case hr=>first|(go_simp;done)|(go_simp;rfl));(case hp=>exact (Reps.c2 (show Kd.M k33 _ _ _ (⟨2,0⟩ : S33) [.int .i64 2,.int .i64 0] from (k33_mkM _ _ _ (⟨2,0⟩ : S33) )) (Reps.c2 (show Kd.M k33 _ _ _ (⟨3,0⟩ : S33) [.int .i64 3,.int .i64 0] from (k33_mkM _ _ _ (⟨3,0⟩ : S33) )) (Reps.none _ _))));intro v133 w71 ho72 hb hg_ hnew_;clear hg_ hnew_;(first|rw [← Ny132.out] at ho72|(simp only [Int.reduceToNat] at ho72;rw [← Ny132.out] at ho72));have n0_:=Aside0.mk (Kd.R_below (by (with_reducible repeat (first|apply Kd.R_alloc|apply Kd.R_drewN|apply Kd.R_drew));exact (Kd.R_mono (Kd.R_far (p:=⟨gb131,3,none⟩) (Kd.R_far (p:=⟨gb131,2,none⟩) (Kd.R_far (p:=⟨gb131,1,none⟩) (Kd.R_far (p:=⟨gb131,0,none⟩) (Kd.R_types HO130.out BK131.out (by decide)) (fun _ hk=>hk.2) (.slice Ao68 y128.length co68)) (fun _ hk=>hk.2) (.int .i64 1)) (fun _ hk=>hk.2) (.int .i64 1)) (fun _ hk=>hk.2) (.int .i64 1)) (fun _ h_=>h_.1))) hb);have n1_:=Aside0.mk (Kd.R_lower ho72 (below_size (below_go HB.out)));have n2_:=Aside0.mk (blk_below (g:=gb131) (o:=.cells #[.slice Ao68 y128.length co68,.int .i64 1,.int .i64 1,.int .i64 1] 29 (0,0)) (by (with_reducible repeat (first|refine blk_drewN ?_ _|refine blk_drew ?_|refine blk_alloc ?_ _));refine blk_put (cs:=#[.slice Ao68 y128.length co68,.int .i64 1,.int .i64 1,.int .i64 0]) ?_ 3 _ rfl;(with_reducible repeat (first|refine blk_drewN ?_ _|refine blk_drew ?_|refine blk_alloc ?_ _));refine blk_put (cs:=#[.slice Ao68 y128.length co68,.int .i64 1,.int .i64 0,.int .i64 0]) ?_ 2 _ rfl;(with_reducible repeat (first|refine blk_drewN ?_ _|refine blk_drew ?_|refine blk_alloc ?_ _));refine blk_put (cs:=#[.slice Ao68 y128.length co68,.int .i64 0,.int .i64 0,.int .i64 0]) ?_ 1 _ rfl;(with_reducible repeat (first|refine blk_drewN ?_ _|refine blk_drew ?_|refine blk_alloc ?_ _));refine blk_put (cs:=#[.slice none 0 0,.int .i64 0,.int .i64 0,.int .i64 0]) ?_ 0 _ rfl;(with_reducible repeat (first|refine blk_drewN ?_ _|refine blk_drew ?_|refine blk_alloc ?_ _));exact BK131.out) hb);have n3_:=Aside0.mk (below_step (below_go HB.out) hb);clear HO130;clear BK131;clear HB;have HO130:=n0_;have HO134:=n1_;have BK131:=n2_;have HB:=n3_;clear n0_ n1_ n2_ n3_;clear hb ho72)|((with_reducible refine gate_dst (N:=10) rfl ?_);refine Kd.R_lit k40 _ 40 ?hg (N:=10) ?hd (xs:=([(⟨3,(⟨#[]⟩ : ByteArray)⟩ : S40)] : List (S40))) (inner:=[.int .i64 3,.string (⟨#[]⟩ : ByteArray)]) (ok:=fun _=>True) (okp:=fun _=>True) ?hr ?hp (fun _ hk=>hk) trivial (Below.refl _ _) (Nat.le_refl _) (by simp) ?_;(case hd=>rfl);(case hg=>rfl);(case hr=>first|(go_simp;done)|(go_simp;rfl));(case hp=>exact (Reps.c2 (show Kd.M k40 _ _ _ (⟨3,(⟨#[]⟩ : ByteArray)⟩ : S40) [.int .i64 3,.string (⟨#[]⟩ : ByteArray)] from (k40_mkM _ _ _ (⟨3,(⟨#[]⟩ : ByteArray)⟩ : S40) )) (Reps.none _ _)));intro v136 w73 ho74 hb hg_ hnew_;clear hg_ hnew_;(first|rw [← Ny135.out] at ho74|(simp only [Int.reduceToNat] at ho74;rw [← Ny135.out] at ho74));have n0_:=Aside0.mk (Kd.R_below (R_up HO130.out) hb);have n1_:=Aside0.mk (Kd.R_below (R_up HO134.out) hb);have n2_:=Aside0.mk (Kd.R_lower ho74 (below_size (below_go HB.out)));have n3_:=Aside0.mk (blk_below (blk_up BK131.out) hb);have n4_:=Aside0.mk (below_step (below_go HB.out) hb);clear HO130;clear HO134;clear BK131;clear HB;have HO130:=n0_;have HO134:=n1_;have HO137:=n2_;have BK131:=n3_;have HB:=n4_;clear n0_ n1_ n2_ n3_ n4_;clear hb ho74)|((with_reducible refine gate_dst (N:=12) rfl ?_);refine Kd.R_lit k40 _ 40 ?hg (N:=12) ?hd (xs:=([(⟨5,(⟨#[]⟩ : ByteArray)⟩ : S40)] : List (S40))) (inner:=[.int .i64 5,.string (⟨#[]⟩ : ByteArray)]) (ok:=fun _=>True) (okp:=fun _=>True) ?hr ?hp (fun _ hk=>hk) trivial (Below.refl _ _) (Nat.le_refl _) (by simp) ?_;(case hd=>rfl);(case hg=>rfl);(case hr=>first|(go_simp;done)|(go_simp;rfl));(case hp=>exact (Reps.c2 (show Kd.M k40 _ _ _ (⟨5,(⟨#[]⟩ : ByteArray)⟩ : S40) [.int .i64 5,.string (⟨#[]⟩ : ByteArray)] from (k40_mkM _ _ _ (⟨5,(⟨#[]⟩ : ByteArray)⟩ : S40) )) (Reps.none _ _)));intro v139 w75 ho76 hb hg_ hnew_;clear hg_ hnew_;(first|rw [← Ny138.out] at ho76|(simp only [Int.reduceToNat] at ho76;rw [← Ny138.out] at ho76));have n0_:=Aside0.mk (Kd.R_below (R_up HO130.out) hb);have n1_:=Aside0.mk (Kd.R_below (R_up HO134.out) hb);have n2_:=Aside0.mk (Kd.R_elder' (R_up HO137.out) (Kd.R_base ho76) hb);have n3_:=Aside0.mk (Kd.R_lower (Kd.R_new' ho76 (Kd.R_lt (R_up HO137.out))) (below_size (below_go HB.out)));have n4_:=Aside0.mk (blk_below (blk_up BK131.out) hb);have n5_:=Aside0.mk (below_step (below_go HB.out) hb);clear HO130;clear HO134;clear HO137;clear BK131;clear HB;have HO130:=n0_;have HO134:=n1_;have HO137:=n2_;have HO140:=n3_;have BK131:=n4_;have HB:=n5_;clear n0_ n1_ n2_ n3_ n4_ n5_;clear hb ho76;obtain ⟨Ao77,co77,eo77⟩:=Kd.R_slice HO137.out;subst eo77;obtain ⟨Ao78,co78,eo78⟩:=Kd.R_slice HO140.out;subst eo78)|((with_reducible refine gate_dst (N:=13) rfl ?_);refine Kd.N_lit (Kd.slice 40 k40) _ 44 ?hg (N':=13) ?hd (xs:=([y135,y138] : List (List (S40)))) (inner:=[.slice Ao77 y135.length co77,.slice Ao78 y138.length co78]) (ok:=(fun k_=>some k_≠(.slice Ao68 y128.length co68 : Value).ownBlock∧some k_≠(v133 : Value).ownBlock∧k_≠gb131)) (okp:=(fun k_=>some k_≠(.slice Ao68 y128.length co68 : Value).ownBlock∧some k_≠(v133 : Value).ownBlock∧k_≠gb131)) ?hr ?hp (fun _ hk=>hk) ((show ∀ k_,w75.heap.size≤k_→(fun k_=>some k_≠(.slice Ao68 y128.length co68 : Value).ownBlock∧some k_≠(v133 : Value).ownBlock∧k_≠gb131) k_ from fun k_ hk=>⟨Kd.fresh' (Kd.R_lt (R_up HO130.out)) k_ hk,Kd.fresh' (Kd.R_lt (R_up HO134.out)) k_ hk,Kd.freshB (blk_up BK131.out) k_ hk⟩) _ (Nat.le_refl _)) (Below.refl _ _) (Nat.le_refl _) (by simp) ?_;(case hd=>rfl);(case hg=>rfl);(case hr=>first|(go_simp;done)|(go_simp;rfl));(case hp=>exact (Reps.one (show Kd.FK (Kd.slice 40 k40) _ _ y135 [.slice Ao77 y135.length co77] from (Kd.FK_slice_mk (Kd.R_reads' (Kd.R_mono (ok':=(fun k_=>some k_≠(.slice Ao68 y128.length co68 : Value).ownBlock∧some k_≠(v133 : Value).ownBlock∧k_≠gb131)) (Kd.R_types (Kd.R_apart' (Kd.R_apart' (HO137.out) (Kd.R_typed HO130.out) (by decide)) (Kd.R_typed HO134.out) (by decide)) BK131.out (by decide)) (fun k_ hk=>⟨hk.1.1.2,⟨hk.1.2,hk.2⟩⟩))).2.1 (Kd.R_F (Kd.R_mono (ok':=(fun k_=>some k_≠(.slice Ao68 y128.length co68 : Value).ownBlock∧some k_≠(v133 : Value).ownBlock∧k_≠gb131)) (Kd.R_types (Kd.R_apart' (Kd.R_apart' (HO137.out) (Kd.R_typed HO130.out) (by decide)) (Kd.R_typed HO134.out) (by decide)) BK131.out (by decide)) (fun k_ hk=>⟨hk.1.1.2,⟨hk.1.2,hk.2⟩⟩))))) (Reps.one (show Kd.FK (Kd.slice 40 k40) _ _ y138 [.slice Ao78 y138.length co78] from (Kd.FK_slice_mk (Kd.R_reads' (Kd.R_mono (ok':=(fun k_=>some k_≠(.slice Ao68 y128.length co68 : Value).ownBlock∧some k_≠(v133 : Value).ownBlock∧k_≠gb131)) (Kd.R_types (Kd.R_apart' (Kd.R_apart' (HO140.out) (Kd.R_typed HO130.out) (by decide)) (Kd.R_typed HO134.out) (by decide)) BK131.out (by decide)) (fun k_ hk=>⟨hk.1.1.2,⟨hk.1.2,hk.2⟩⟩))).2.1 (Kd.R_F (Kd.R_mono (ok':=(fun k_=>some k_≠(.slice Ao68 y128.length co68 : Value).ownBlock∧some k_≠(v133 : Value).ownBlock∧k_≠gb131)) (Kd.R_types (Kd.R_apart' (Kd.R_apart' (HO140.out) (Kd.R_typed HO130.out) (by decide)) (Kd.R_typed HO134.out) (by decide)) BK131.out (by decide)) (fun k_ hk=>⟨hk.1.1.2,⟨hk.1.2,hk.2⟩⟩))))) (Reps.none _ _))));intro v142 w79 ho80 hb hg_ hnew_;clear hg_ hnew_;(first|rw [← Ny141.out] at ho80|(simp only [Int.reduceToNat] at ho80;rw [← Ny141.out] at ho80));have n0_:=Aside0.mk (Kd.R_below (R_up HO130.out) hb);have n1_:=Aside0.mk (Kd.R_below (R_up HO134.out) hb);have n2_:=Aside0.mk (Kd.N_lower ho80 (below_size (below_go HB.out)));have n3_:=Aside0.mk (blk_below (blk_up BK131.out) hb);have n4_:=Aside0.mk (below_step (below_go HB.out) hb);clear HO130;clear HO134;clear BK131;clear HB;clear HO137;clear HO140;have HO130:=n0_;have HO134:=n1_;have HO143:=n2_;have BK131:=n3_;have HB:=n4_;clear n0_ n1_ n2_ n3_ n4_;clear hb ho80;obtain ⟨Ao81,co81,eo81⟩:=Kd.R_slice HO134.out;subst eo81;obtain ⟨Ao82,co82,eo82⟩:=Kd.N_slice HO143.out;subst eo82)|((with_reducible refine gate_callee (f:=11) rfl ?_);refine goesL_ (some 14) rfl rfl Try.func11 (by kernel_rfl) rfl #[.agg #[.slice Ao68 y128.length co68,.int .i64 1,.int .i64 1,.int .i64 1],.slice Ao81 y132.length co81,.slice Ao82 y141.length co82] rfl (by (try simp only [List.map_toArray,List.map_cons,List.map_nil]);first|done|rfl|(simp only [List.length_drop,List.length_take];rfl)) ?_;(with_reducible refine (agg_Rows.calls k _ _ y128 1 1 1 _ _ y132 _ _ y141 t144 _ ?side1 ?side2 ?side3 ?side4 ?side5 ?side6 A1.out).mono ?_);(case side1=>repeat (first|exact (Kd.R_reads' HO130.out).2.2|(with_reducible refine Kd.C_alloc ?_ _)|(with_reducible refine Kd.C_drewN ?_ _)|(with_reducible refine Kd.C_drew ?_)));(case side2=>exact (Kd.R_reads' HO130.out).2.1);(case side3=>repeat (first|exact (Kd.R_reads' HO134.out).2.2|(with_reducible refine Kd.C_alloc ?_ _)|(with_reducible refine Kd.C_drewN ?_ _)|(with_reducible refine Kd.C_drew ?_)));(case side4=>exact (Kd.R_reads' HO134.out).2.1);(case side5=>repeat (first|exact (Kd.N_reads' HO143.out).2.2|(with_reducible refine Kd.C_alloc ?_ _)|(with_reducible refine Kd.C_drewN ?_ _)|(with_reducible refine Kd.C_drew ?_)));(case side6=>exact (Kd.N_reads' HO143.out).2.1);rintro e w83 ⟨v145,rfl,ho0,hb⟩;refine ⟨_,rfl,?_⟩;have n0_:=Aside0.mk (Kd.R_below (R_up HO130.out) hb);have n1_:=Aside0.mk (Kd.R_below (R_up HO134.out) hb);have n2_:=Aside0.mk (Kd.N_elder' (N_up HO143.out) (Kd.R_base ho0) hb);have n3_:=Aside0.mk (Kd.R_lower ho0 (below_size (below_go HB.out)));have n4_:=Aside0.mk (blk_below (blk_up BK131.out) hb);have n5_:=Aside0.mk (below_step (below_go HB.out) hb);clear HO130;clear HO134;clear HO143;clear BK131;clear HB;have HO130:=n0_;have HO134:=n1_;have HO143:=n2_;have HO146:=n3_;have BK131:=n4_;have HB:=n5_;clear n0_ n1_ n2_ n3_ n4_ n5_;(try clear hb);(try clear hb2);(try clear hk);(try clear hi);(try clear ho0);obtain ⟨Ao84,co84,eo84⟩:=Kd.R_slice HO146.out;subst eo84;have p147 : 0≤(0 : Int):=(by omega);have q147 : 0 < (t144.length : Int):=of_decide_eq_true (by first|(with_reducible assumption)|assumption);obtain ⟨ad147,e147,hx147_0,hx147_1,hx147_2⟩:=at_T42 (Kd.R_reads' HO146.out).2.2 0 p147 q147;cases e147;have qi147 : (0 < t144.length)=True:=eq_true (by omega);(try rw [show ((0 : Int)).toNat=0 from rfl] at hx147_0);(try rw [show 0 * 3=0 from rfl] at hx147_0);(try rw [Addr.add_zero'] at hx147_0);(try rw [show ((0 : Int)).toNat=0 from rfl] at hx147_1);(try rw [show 0 * 3=0 from rfl] at hx147_1);(try rw [Addr.add_zero'] at hx147_1);(try rw [show ((0 : Int)).toNat=0 from rfl] at hx147_2);(try rw [show 0 * 3=0 from rfl] at hx147_2);(try rw [Addr.add_zero'] at hx147_2);replace p147:=eq_true p147;replace q147:=eq_true q147))
    go_ret
    exact ⟨by first|rfl|(simp [errW_none,errW_some] <;> rfl)|(simp [*,errW_none,errW_some] <;> rfl),by repeat (first|(with_reducible first|exact HB.out|apply below_alloc|apply pw_below_drewN|apply below_drew1|refine below_set ?_ GE131.out)|exact HB.out)⟩
  ·rw [if_neg c3] at H
   exact absurd H (by simp)
 ·rw [if_neg c2] at H
  have c2b0 : ((t144.length : Int) == 2)=false:=beq_eq_false_iff_ne.mpr c2
  have c2b1 : ((t144.length : Int) != 2)=true:=bne_iff_ne.mpr c2
  obtain rfl:=Option.some.inj H
  go_enter Try.func8,Try.ntmps8
  go_wp2_with (first|((with_reducible refine gate_dst (N:=3) rfl ?_);refine Kd.R_lit (Kd.int .i64) _ 3 ?hg (N:=3) ?hd (xs:=([1] : List Int)) (inner:=[.int .i64 1]) (ok:=fun _=>True) (okp:=fun _=>True) ?hr ?hp (fun _ hk=>hk) trivial (Below.refl _ _) (Nat.le_refl _) (by simp) ?_;(case hd=>rfl);(case hg=>rfl);(case hr=>first|(go_simp;done)|(go_simp;rfl));(case hp=>exact (Reps.one (show Kd.M (Kd.int .i64) _ _ _ 1 [.int .i64 1] from rfl) (Reps.none _ _)));intro v129 w85 ho86 hb hg_ hnew_;clear hg_ hnew_;(first|rw [← Ny128.out] at ho86|(simp only [Int.reduceToNat] at ho86;rw [← Ny128.out] at ho86));have n0_:=Aside0.mk (Kd.R_lower ho86 (below_size (below_up HB.out)));have n1_:=Aside0.mk (below_step (below_up HB.out) hb);clear HB;have HO130:=n0_;have HB:=n1_;clear n0_ n1_;clear hb ho86;obtain ⟨Ao87,co87,eo87⟩:=Kd.R_slice HO130.out;subst eo87)|((with_reducible refine gate_dst (N:=1) rfl ?_);refine box_event ?hg (N:=1) ?hd (cs:=#[.slice none 0 0,.int .i64 0,.int .i64 0,.int .i64 0]) (t:=29) ?hr ?_;(case hd=>rfl);(case hg=>rfl);(case hr=>first|(go_simp;done)|(go_simp;rfl));intro gb131 hg w88 hbox hb;have n0_:=Aside0.mk (Kd.R_below (R_up HO130.out) hb);have n1_:=Aside0.mk (below_step (below_up HB.out) hb);have n2_:=Aside0.mk (hbox);have n3_:=Aside0.mk ((by rw [hg];exact (below_size (below_up HB.out)) : w.heap.size≤gb131));have n4_:=Aside0.mk ((by rw [hg];exact (below_size (below_up HB.out)) : w.heap.size≤gb131));clear HO130;clear HB;have HO130:=n0_;have HB:=n1_;have BK131:=n2_;have GW131:=n3_;have GE131:=n4_;clear n0_ n1_ n2_ n3_ n4_;clear hb hbox hg;have hcz89_0 : w88.cell? ⟨gb131,0,none⟩=some (.slice none 0 0):=(blk_cell BK131.out 0).trans rfl;have hcz89_1 : w88.cell? ⟨gb131,1,none⟩=some (.int .i64 0):=(blk_cell BK131.out 1).trans rfl;have hcz89_2 : w88.cell? ⟨gb131,2,none⟩=some (.int .i64 0):=(blk_cell BK131.out 2).trans rfl;have hcz89_3 : w88.cell? ⟨gb131,3,none⟩=some (.int .i64 0):=(blk_cell BK131.out 3).trans rfl;have hfz89_0:=blk_frozen BK131.out 0;have hfz89_1:=blk_frozen BK131.out 1;have hfz89_2:=blk_frozen BK131.out 2;have hfz89_3:=blk_frozen BK131.out 3)|((with_reducible refine gate_dst (N:=8) rfl ?_);refine Kd.R_lit k33 _ 33 ?hg (N:=8) ?hd (xs:=([(⟨2,0⟩ : S33),(⟨3,0⟩ : S33)] : List (S33))) (inner:=[.int .i64 2,.int .i64 0,.int .i64 3,.int .i64 0]) (ok:=fun _=>True) (okp:=fun _=>True) ?hr ?hp (fun _ hk=>hk) trivial (Below.refl _ _) (Nat.le_refl _) (by simp) ?_;(case hd=>rfl);(case hg=>rfl);(case hr=>first|(go_simp;done)|(go_simp;rfl));(case hp=>exact (Reps.c2 (show Kd.M k33 _ _ _ (⟨2,0⟩ : S33) [.int .i64 2,.int .i64 0] from (k33_mkM _ _ _ (⟨2,0⟩ : S33) )) (Reps.c2 (show Kd.M k33 _ _ _ (⟨3,0⟩ : S33) [.int .i64 3,.int .i64 0] from (k33_mkM _ _ _ (⟨3,0⟩ : S33) )) (Reps.none _ _))));intro v133 w90 ho91 hb hg_ hnew_;clear hg_ hnew_;(first|rw [← Ny132.out] at ho91|(simp only [Int.reduceToNat] at ho91;rw [← Ny132.out] at ho91));have n0_:=Aside0.mk (Kd.R_below (by (with_reducible repeat (first|apply Kd.R_alloc|apply Kd.R_drewN|apply Kd.R_drew));exact (Kd.R_mono (Kd.R_far (p:=⟨gb131,3,none⟩) (Kd.R_far (p:=⟨gb131,2,none⟩) (Kd.R_far (p:=⟨gb131,1,none⟩) (Kd.R_far (p:=⟨gb131,0,none⟩) (Kd.R_types HO130.out BK131.out (by decide)) (fun _ hk=>hk.2) (.slice Ao87 y128.length co87)) (fun _ hk=>hk.2) (.int .i64 1)) (fun _ hk=>hk.2) (.int .i64 1)) (fun _ hk=>hk.2) (.int .i64 1)) (fun _ h_=>h_.1))) hb);have n1_:=Aside0.mk (Kd.R_lower ho91 (below_size (below_go HB.out)));have n2_:=Aside0.mk (blk_below (g:=gb131) (o:=.cells #[.slice Ao87 y128.length co87,.int .i64 1,.int .i64 1,.int .i64 1] 29 (0,0)) (by (with_reducible repeat (first|refine blk_drewN ?_ _|refine blk_drew ?_|refine blk_alloc ?_ _));refine blk_put (cs:=#[.slice Ao87 y128.length co87,.int .i64 1,.int .i64 1,.int .i64 0]) ?_ 3 _ rfl;(with_reducible repeat (first|refine blk_drewN ?_ _|refine blk_drew ?_|refine blk_alloc ?_ _));refine blk_put (cs:=#[.slice Ao87 y128.length co87,.int .i64 1,.int .i64 0,.int .i64 0]) ?_ 2 _ rfl;(with_reducible repeat (first|refine blk_drewN ?_ _|refine blk_drew ?_|refine blk_alloc ?_ _));refine blk_put (cs:=#[.slice Ao87 y128.length co87,.int .i64 0,.int .i64 0,.int .i64 0]) ?_ 1 _ rfl;(with_reducible repeat (first|refine blk_drewN ?_ _|refine blk_drew ?_|refine blk_alloc ?_ _));refine blk_put (cs:=#[.slice none 0 0,.int .i64 0,.int .i64 0,.int .i64 0]) ?_ 0 _ rfl;(with_reducible repeat (first|refine blk_drewN ?_ _|refine blk_drew ?_|refine blk_alloc ?_ _));exact BK131.out) hb);have n3_:=Aside0.mk (below_step (below_go HB.out) hb);clear HO130;clear BK131;clear HB;have HO130:=n0_;have HO134:=n1_;have BK131:=n2_;have HB:=n3_;clear n0_ n1_ n2_ n3_;clear hb ho91)|((with_reducible refine gate_dst (N:=10) rfl ?_);refine Kd.R_lit k40 _ 40 ?hg (N:=10) ?hd (xs:=([(⟨3,(⟨#[]⟩ : ByteArray)⟩ : S40)] : List (S40))) (inner:=[.int .i64 3,.string (⟨#[]⟩ : ByteArray)]) (ok:=fun _=>True) (okp:=fun _=>True) ?hr ?hp (fun _ hk=>hk) trivial (Below.refl _ _) (Nat.le_refl _) (by simp) ?_;(case hd=>rfl);(case hg=>rfl);(case hr=>first|(go_simp;done)|(go_simp;rfl));(case hp=>exact (Reps.c2 (show Kd.M k40 _ _ _ (⟨3,(⟨#[]⟩ : ByteArray)⟩ : S40) [.int .i64 3,.string (⟨#[]⟩ : ByteArray)] from (k40_mkM _ _ _ (⟨3,(⟨#[]⟩ : ByteArray)⟩ : S40) )) (Reps.none _ _)));intro v136 w92 ho93 hb hg_ hnew_;clear hg_ hnew_;(first|rw [← Ny135.out] at ho93|(simp only [Int.reduceToNat] at ho93;rw [← Ny135.out] at ho93));have n0_:=Aside0.mk (Kd.R_below (R_up HO130.out) hb);have n1_:=Aside0.mk (Kd.R_below (R_up HO134.out) hb);have n2_:=Aside0.mk (Kd.R_lower ho93 (below_size (below_go HB.out)));have n3_:=Aside0.mk (blk_below (blk_up BK131.out) hb);have n4_:=Aside0.mk (below_step (below_go HB.out) hb);clear HO130;clear HO134;clear BK131;clear HB;have HO130:=n0_;have HO134:=n1_;have HO137:=n2_;have BK131:=n3_;have HB:=n4_;clear n0_ n1_ n2_ n3_ n4_;clear hb ho93)|((with_reducible refine gate_dst (N:=12) rfl ?_);refine Kd.R_lit k40 _ 40 ?hg (N:=12) ?hd (xs:=([(⟨5,(⟨#[]⟩ : ByteArray)⟩ : S40)] : List (S40))) (inner:=[.int .i64 5,.string (⟨#[]⟩ : ByteArray)]) (ok:=fun _=>True) (okp:=fun _=>True) ?hr ?hp (fun _ hk=>hk) trivial (Below.refl _ _) (Nat.le_refl _) (by simp) ?_;(case hd=>rfl);(case hg=>rfl);(case hr=>first|(go_simp;done)|(go_simp;rfl));(case hp=>exact (Reps.c2 (show Kd.M k40 _ _ _ (⟨5,(⟨#[]⟩ : ByteArray)⟩ : S40) [.int .i64 5,.string (⟨#[]⟩ : ByteArray)] from (k40_mkM _ _ _ (⟨5,(⟨#[]⟩ : ByteArray)⟩ : S40) )) (Reps.none _ _)));intro v139 w94 ho95 hb hg_ hnew_;clear hg_ hnew_;(first|rw [← Ny138.out] at ho95|(simp only [Int.reduceToNat] at ho95;rw [← Ny138.out] at ho95));have n0_:=Aside0.mk (Kd.R_below (R_up HO130.out) hb);have n1_:=Aside0.mk (Kd.R_below (R_up HO134.out) hb);have n2_:=Aside0.mk (Kd.R_elder' (R_up HO137.out) (Kd.R_base ho95) hb);have n3_:=Aside0.mk (Kd.R_lower (Kd.R_new' ho95 (Kd.R_lt (R_up HO137.out))) (below_size (below_go HB.out)));have n4_:=Aside0.mk (blk_below (blk_up BK131.out) hb);have n5_:=Aside0.mk (below_step (below_go HB.out) hb);clear HO130;clear HO134;clear HO137;clear BK131;clear HB;have HO130:=n0_;have HO134:=n1_;have HO137:=n2_;have HO140:=n3_;have BK131:=n4_;have HB:=n5_;clear n0_ n1_ n2_ n3_ n4_ n5_;clear hb ho95;obtain ⟨Ao96,co96,eo96⟩:=Kd.R_slice HO137.out;subst eo96;obtain ⟨Ao97,co97,eo97⟩:=Kd.R_slice HO140.out;subst eo97)|((with_reducible refine gate_dst (N:=13) rfl ?_);refine Kd.N_lit (Kd.slice 40 k40) _ 44 ?hg (N':=13) ?hd (xs:=([y135,y138] : List (List (S40)))) (inner:=[.slice Ao96 y135.length co96,.slice Ao97 y138.length co97]) (ok:=(fun k_=>some k_≠(.slice Ao87 y128.length co87 : Value).ownBlock∧some k_≠(v133 : Value).ownBlock∧k_≠gb131)) (okp:=(fun k_=>some k_≠(.slice Ao87 y128.length co87 : Value).ownBlock∧some k_≠(v133 : Value).ownBlock∧k_≠gb131)) ?hr ?hp (fun _ hk=>hk) ((show ∀ k_,w94.heap.size≤k_→(fun k_=>some k_≠(.slice Ao87 y128.length co87 : Value).ownBlock∧some k_≠(v133 : Value).ownBlock∧k_≠gb131) k_ from fun k_ hk=>⟨Kd.fresh' (Kd.R_lt (R_up HO130.out)) k_ hk,Kd.fresh' (Kd.R_lt (R_up HO134.out)) k_ hk,Kd.freshB (blk_up BK131.out) k_ hk⟩) _ (Nat.le_refl _)) (Below.refl _ _) (Nat.le_refl _) (by simp) ?_;(case hd=>rfl);(case hg=>rfl);(case hr=>first|(go_simp;done)|(go_simp;rfl));(case hp=>exact (Reps.one (show Kd.FK (Kd.slice 40 k40) _ _ y135 [.slice Ao96 y135.length co96] from (Kd.FK_slice_mk (Kd.R_reads' (Kd.R_mono (ok':=(fun k_=>some k_≠(.slice Ao87 y128.length co87 : Value).ownBlock∧some k_≠(v133 : Value).ownBlock∧k_≠gb131)) (Kd.R_types (Kd.R_apart' (Kd.R_apart' (HO137.out) (Kd.R_typed HO130.out) (by decide)) (Kd.R_typed HO134.out) (by decide)) BK131.out (by decide)) (fun k_ hk=>⟨hk.1.1.2,⟨hk.1.2,hk.2⟩⟩))).2.1 (Kd.R_F (Kd.R_mono (ok':=(fun k_=>some k_≠(.slice Ao87 y128.length co87 : Value).ownBlock∧some k_≠(v133 : Value).ownBlock∧k_≠gb131)) (Kd.R_types (Kd.R_apart' (Kd.R_apart' (HO137.out) (Kd.R_typed HO130.out) (by decide)) (Kd.R_typed HO134.out) (by decide)) BK131.out (by decide)) (fun k_ hk=>⟨hk.1.1.2,⟨hk.1.2,hk.2⟩⟩))))) (Reps.one (show Kd.FK (Kd.slice 40 k40) _ _ y138 [.slice Ao97 y138.length co97] from (Kd.FK_slice_mk (Kd.R_reads' (Kd.R_mono (ok':=(fun k_=>some k_≠(.slice Ao87 y128.length co87 : Value).ownBlock∧some k_≠(v133 : Value).ownBlock∧k_≠gb131)) (Kd.R_types (Kd.R_apart' (Kd.R_apart' (HO140.out) (Kd.R_typed HO130.out) (by decide)) (Kd.R_typed HO134.out) (by decide)) BK131.out (by decide)) (fun k_ hk=>⟨hk.1.1.2,⟨hk.1.2,hk.2⟩⟩))).2.1 (Kd.R_F (Kd.R_mono (ok':=(fun k_=>some k_≠(.slice Ao87 y128.length co87 : Value).ownBlock∧some k_≠(v133 : Value).ownBlock∧k_≠gb131)) (Kd.R_types (Kd.R_apart' (Kd.R_apart' (HO140.out) (Kd.R_typed HO130.out) (by decide)) (Kd.R_typed HO134.out) (by decide)) BK131.out (by decide)) (fun k_ hk=>⟨hk.1.1.2,⟨hk.1.2,hk.2⟩⟩))))) (Reps.none _ _))));intro v142 w98 ho99 hb hg_ hnew_;clear hg_ hnew_;(first|rw [← Ny141.out] at ho99|(simp only [Int.reduceToNat] at ho99;rw [← Ny141.out] at ho99));have n0_:=Aside0.mk (Kd.R_below (R_up HO130.out) hb);have n1_:=Aside0.mk (Kd.R_below (R_up HO134.out) hb);have n2_:=Aside0.mk (Kd.N_lower ho99 (below_size (below_go HB.out)));have n3_:=Aside0.mk (blk_below (blk_up BK131.out) hb);have n4_:=Aside0.mk (below_step (below_go HB.out) hb);clear HO130;clear HO134;clear BK131;clear HB;clear HO137;clear HO140;have HO130:=n0_;have HO134:=n1_;have HO143:=n2_;have BK131:=n3_;have HB:=n4_;clear n0_ n1_ n2_ n3_ n4_;clear hb ho99;obtain ⟨Ao100,co100,eo100⟩:=Kd.R_slice HO134.out;subst eo100;obtain ⟨Ao101,co101,eo101⟩:=Kd.N_slice HO143.out;subst eo101)|((with_reducible refine gate_callee (f:=11) rfl ?_);refine goesL_ (some 14) rfl rfl Try.func11 (by kernel_rfl) rfl #[.agg #[.slice Ao87 y128.length co87,.int .i64 1,.int .i64 1,.int .i64 1],.slice Ao100 y132.length co100,.slice Ao101 y141.length co101] rfl (by (try simp only [List.map_toArray,List.map_cons,List.map_nil]);first|done|rfl|(simp only [List.length_drop,List.length_take];rfl)) ?_;(with_reducible refine (agg_Rows.calls k _ _ y128 1 1 1 _ _ y132 _ _ y141 t144 _ ?side1 ?side2 ?side3 ?side4 ?side5 ?side6 A1.out).mono ?_);(case side1=>repeat (first|exact (Kd.R_reads' HO130.out).2.2|(with_reducible refine Kd.C_alloc ?_ _)|(with_reducible refine Kd.C_drewN ?_ _)|(with_reducible refine Kd.C_drew ?_)));(case side2=>exact (Kd.R_reads' HO130.out).2.1);(case side3=>repeat (first|exact (Kd.R_reads' HO134.out).2.2|(with_reducible refine Kd.C_alloc ?_ _)|(with_reducible refine Kd.C_drewN ?_ _)|(with_reducible refine Kd.C_drew ?_)));(case side4=>exact (Kd.R_reads' HO134.out).2.1);(case side5=>repeat (first|exact (Kd.N_reads' HO143.out).2.2|(with_reducible refine Kd.C_alloc ?_ _)|(with_reducible refine Kd.C_drewN ?_ _)|(with_reducible refine Kd.C_drew ?_)));(case side6=>exact (Kd.N_reads' HO143.out).2.1);rintro e w102 ⟨v145,rfl,ho0,hb⟩;refine ⟨_,rfl,?_⟩;have n0_:=Aside0.mk (Kd.R_below (R_up HO130.out) hb);have n1_:=Aside0.mk (Kd.R_below (R_up HO134.out) hb);have n2_:=Aside0.mk (Kd.N_elder' (N_up HO143.out) (Kd.R_base ho0) hb);have n3_:=Aside0.mk (Kd.R_lower ho0 (below_size (below_go HB.out)));have n4_:=Aside0.mk (blk_below (blk_up BK131.out) hb);have n5_:=Aside0.mk (below_step (below_go HB.out) hb);clear HO130;clear HO134;clear HO143;clear BK131;clear HB;have HO130:=n0_;have HO134:=n1_;have HO143:=n2_;have HO146:=n3_;have BK131:=n4_;have HB:=n5_;clear n0_ n1_ n2_ n3_ n4_ n5_;(try clear hb);(try clear hb2);(try clear hk);(try clear hi);(try clear ho0);obtain ⟨Ao103,co103,eo103⟩:=Kd.R_slice HO146.out;subst eo103))
  go_ret
  exact ⟨by first|rfl|(simp [errW_none,errW_some] <;> rfl)|(simp [*,errW_none,errW_some] <;> rfl),by repeat (first|(with_reducible first|exact HB.out|apply below_alloc|apply pw_below_drewN|apply below_drew1|refine below_set ?_ GE131.out)|exact HB.out)⟩
def thresherref04_Made.l0 : Nat→Int→Int→Int→Int→Int→Int→Int→Int→Int→Int→List Int→Int→Int→Int→Option (List Int × Int × Int × Int)
 | 0,_,_,_,_,_,_,_,_,_,_,_,_,_,_=>none
 | k + 1,x11,x13,x152000,x152001,x152002,x152003,x152004,x152005,x152006,x152007,x154000,x154001,x154002,x154003=>if x13 < x11 then (if 0≤x13 then (if x13 < 8 then (if x154000.length < 17592186044416 then (thresherref04_Made.l0 k x11 (wrap64 (x13 + 1)) x152000 x152001 x152002 x152003 x152004 x152005 x152006 x152007 (x154000 ++ [wrap64 (1 + (Int.tmod (wrap64 (rd [x152000,x152001,x152002,x152003,x152004,x152005,x152006,x152007] x13)) 3))]) x154001 x154002 x154003) else (none)) else (none)) else (none)) else (some (x154000,x154001,x154002,x154003))
def thresherref04_Made.f (k : Nat) (a0_0 : Int) (a0_1 : Int) (a0_2 : Int) (a0_3 : Int) (a0_4 : Int) (a0_5 : Int) (a0_6 : Int) (a0_7 : Int) (a1 : Int) (a2 : Int) (a3 : Int) (a4 : Int) : Option (List Int × Int × Int × Int):=if (wrap64 (1 + (Int.tmod (wrap64 (a1)) 8)))=0 then (none) else (thresherref04_Made.l0 k (wrap64 (1 + (Int.tmod (wrap64 (a1)) 8))) 0 a0_0 a0_1 a0_2 a0_3 a0_4 a0_5 a0_6 a0_7 ([] : List Int) (wrap64 (1 + (Int.tmod (wrap64 (a2)) (wrap64 (1 + (Int.tmod (wrap64 (a1)) 8)))))) (wrap64 (1 + (Int.tmod (wrap64 (a3)) 3))) (wrap64 (1 + (Int.tmod (wrap64 (a4)) 8))))
theorem thresherref04_Made.mono_l : ∀ k,(∀ y0 y1 y2 y3 y4 y5 y6 y7 y8 y9 y10 y11 y12 y13,LeO (thresherref04_Made.l0 k y0 y1 y2 y3 y4 y5 y6 y7 y8 y9 y10 y11 y12 y13) (thresherref04_Made.l0 (k + 1) y0 y1 y2 y3 y4 y5 y6 y7 y8 y9 y10 y11 y12 y13))
 | 0=>fun _ _ _ _ _ _ _ _ _ _ _ _ _ _ r h=>by simp [thresherref04_Made.l0] at h
 | k + 1=>by
  have ih0:=thresherref04_Made.mono_l k
  ·intro y0 y1 y2 y3 y4 y5 y6 y7 y8 y9 y10 y11 y12 y13
   unfold thresherref04_Made.l0
   repeat' first
   | (with_reducible exact ih0 _ _ _ _ _ _ _ _ _ _ _ _ _ _)
   | (with_reducible exact LeO.refl _)
   | (with_reducible exact LeO.none _)
   | (with_reducible refine LeO.ite ?_ ?_)
   | (with_reducible refine LeO.bind ?_ (fun _=>?_))
   | exact ih0 _ _ _ _ _ _ _ _ _ _ _ _ _ _
   | exact LeO.none _
   | refine LeO.ite ?_ ?_
   | refine LeO.bind ?_ (fun _=>?_)
theorem thresherref04_Made.mono : ∀ a0 a1 a2 a3 a4 a5 a6 a7 a8 a9 a10 a11 k,LeO (thresherref04_Made.f k a0 a1 a2 a3 a4 a5 a6 a7 a8 a9 a10 a11) (thresherref04_Made.f (k + 1) a0 a1 a2 a3 a4 a5 a6 a7 a8 a9 a10 a11):=by
 intro a0 a1 a2 a3 a4 a5 a6 a7 a8 a9 a10 a11 k
 have ih0:=thresherref04_Made.mono_l k
 unfold thresherref04_Made.f
 repeat' first
   | (with_reducible exact ih0 _ _ _ _ _ _ _ _ _ _ _ _ _ _)
   | (with_reducible exact LeO.refl _)
   | (with_reducible exact LeO.none _)
   | (with_reducible refine LeO.ite ?_ ?_)
   | (with_reducible refine LeO.bind ?_ (fun _=>?_))
   | exact ih0 _ _ _ _ _ _ _ _ _ _ _ _ _ _
   | exact LeO.none _
   | refine LeO.ite ?_ ?_
   | refine LeO.bind ?_ (fun _=>?_)
def thresherref04_Made.T6 : Bool × List (List Nat × List Nat):=(true,[([],[]),([0],[0]),([],[]),([2],[2]),([3],[3]),([4],[4]),([5],[5]),([6],[6]),([7],[7]),([1,8],[1,8]),([0,1,2,3,4,5,6,7,8,9],[]),([10,9,9,0,1,2,3,4,5,6,7,8,9],[9,10])])
def thresherref04_Made.B6 : List Nat:=[0,1,0,4,12,28,60,124,252,511,1023,2047]
theorem thresherref04_Made.tab6 : rtab .any (opsOf Try.f19 6)=thresherref04_Made.T6:=by kernel_rfl
theorem thresherref04_Made.bits6 : waitsOk thresherref04_Made.T6.2 thresherref04_Made.B6=true:=by kernel_rfl
set_option maxHeartbeats 8000000 in
set_option maxRecDepth 100000 in
theorem thresherref04_Made.calls (k : Nat) (a0_0 : Int) (a0_1 : Int) (a0_2 : Int) (a0_3 : Int) (a0_4 : Int) (a0_5 : Int) (a0_6 : Int) (a0_7 : Int) (a1 : Int) (a2 : Int) (a3 : Int) (a4 : Int) (r1 : List Int) (r2 : Int) (r3 : Int) (r4 : Int) (w : World) (h : thresherref04_Made.f k a0_0 a0_1 a0_2 a0_3 a0_4 a0_5 a0_6 a0_7 a1 a2 a3 a4=some (r1,r2,r3,r4)) :
  Calls Try.prog 19 #[.agg #[.int .u8 a0_0,.int .u8 a0_1,.int .u8 a0_2,.int .u8 a0_3,.int .u8 a0_4,.int .u8 a0_5,.int .u8 a0_6,.int .u8 a0_7],.int .u8 a1,.int .u8 a2,.int .u8 a3,.int .u8 a4] w fun e w'=>∃ v0_ : Value,e=.returned (.agg #[v0_,.int .i64 r2,.int .i64 r3,.int .i64 r4])∧Kd.R (Kd.int .i64) 3 w' w.heap.size (fun _=>True) v0_ r1∧Below w.heap.size w w':=by
 have hu22:=Try.underlying22
 have hu29:=Try.underlying29
 have HB:=Aside0.mk (Below.refl w.heap.size w)
 have H : (if (wrap64 (1 + (Int.tmod (wrap64 (a1)) 8)))=0 then (none) else (thresherref04_Made.l0 k (wrap64 (1 + (Int.tmod (wrap64 (a1)) 8))) 0 a0_0 a0_1 a0_2 a0_3 a0_4 a0_5 a0_6 a0_7 ([] : List Int) (wrap64 (1 + (Int.tmod (wrap64 (a2)) (wrap64 (1 + (Int.tmod (wrap64 (a1)) 8)))))) (wrap64 (1 + (Int.tmod (wrap64 (a3)) 3))) (wrap64 (1 + (Int.tmod (wrap64 (a4)) 8)))))=some (r1,r2,r3,r4):=h
 clear h
 by_cases c6 : (wrap64 (1 + (Int.tmod (wrap64 (a1)) 8)))=0
 ·rw [if_pos c6] at H
  exact absurd H (by simp)
 ·rw [if_neg c6] at H
  have c6b0 : ((wrap64 (1 + (Int.tmod (wrap64 (a1)) 8))) == 0)=false:=beq_eq_false_iff_ne.mpr c6
  have c6b1 : ((wrap64 (1 + (Int.tmod (wrap64 (a1)) 8))) != 0)=true:=bne_iff_ne.mpr c6
  have H':=Aside0.mk H
  clear H
  go_enter Try.func19,Try.ntmps19
  go_wp2_with (first|((with_reducible refine gate_dst (N:=5) rfl ?_);refine box_event ?hg (N:=5) ?hd (cs:=#[.int .u8 a0_0,.int .u8 a0_1,.int .u8 a0_2,.int .u8 a0_3,.int .u8 a0_4,.int .u8 a0_5,.int .u8 a0_6,.int .u8 a0_7]) (t:=22) ?hr ?_;(case hd=>rfl);(case hg=>rfl);(case hr=>first|(go_simp;done)|(go_simp;rfl));intro gb151 hg w7 hbox hb;have n0_:=Aside0.mk (below_step (below_up HB.out) hb);have n1_:=Aside0.mk (hbox);have n2_:=Aside0.mk ((by rw [hg];exact (below_size (below_up HB.out)) : w.heap.size≤gb151));have n3_:=Aside0.mk ((by rw [hg];exact (below_size (below_up HB.out)) : w.heap.size≤gb151));clear HB;have HB:=n0_;have BK151:=n1_;have GW151:=n2_;have GE151:=n3_;clear n0_ n1_ n2_ n3_;clear hb hbox hg)|((with_reducible refine gate_dst (N:=10) rfl ?_);refine box_event ?hg (N:=10) ?hd (cs:=#[.slice none 0 0,.int .i64 0,.int .i64 0,.int .i64 0]) (t:=29) ?hr ?_;(case hd=>rfl);(case hg=>rfl);(case hr=>first|(go_simp;done)|(go_simp;rfl));intro gb152 hg w8 hbox hb;have n0_:=Aside0.mk (blk_below (blk_up BK151.out) hb);have n1_:=Aside0.mk (below_step (below_go HB.out) hb);have n2_:=Aside0.mk (hbox);have n3_:=Aside0.mk ((by rw [hg];exact (below_size (below_go HB.out)) : w.heap.size≤gb152));have n4_:=Aside0.mk ((by rw [hg];exact (below_size (below_go HB.out)) : w.heap.size≤gb152));have n5_:=Aside0.mk ((by rw [hg];exact Nat.ne_of_lt (blk_lt (blk_up BK151.out)) : gb151≠gb152));have n6_:=Aside0.mk ((by rw [hg];exact Nat.ne_of_gt (blk_lt (blk_up BK151.out)) : gb152≠gb151));clear BK151;clear HB;have BK151:=n0_;have HB:=n1_;have BK152:=n2_;have GW152:=n3_;have GE152:=n4_;have NB151_152:=n5_;have NB152_151:=n6_;clear n0_ n1_ n2_ n3_ n4_ n5_ n6_;clear hb hbox hg)|((with_reducible refine gate_dst (N:=12) rfl ?_);refine box_event ?hg (N:=12) ?hd (cs:=#[.slice none 0 0,.int .i64 0,.int .i64 0,.int .i64 0]) (t:=29) ?hr ?_;(case hd=>rfl);(case hg=>rfl);(case hr=>first|(go_simp;done)|(go_simp;rfl));intro gb153 hg w9 hbox hb;have n0_:=Aside0.mk (blk_below (blk_up BK151.out) hb);have n1_:=Aside0.mk (blk_below (blk_up BK152.out) hb);have n2_:=Aside0.mk (below_step (below_go HB.out) hb);have n3_:=Aside0.mk (hbox);have n4_:=Aside0.mk ((by rw [hg];exact (below_size (below_go HB.out)) : w.heap.size≤gb153));have n5_:=Aside0.mk ((by rw [hg];exact (below_size (below_go HB.out)) : w.heap.size≤gb153));have n6_:=Aside0.mk ((by rw [hg];exact Nat.ne_of_lt (blk_lt (blk_up BK151.out)) : gb151≠gb153));have n7_:=Aside0.mk ((by rw [hg];exact Nat.ne_of_gt (blk_lt (blk_up BK151.out)) : gb153≠gb151));have n8_:=Aside0.mk ((by rw [hg];exact Nat.ne_of_lt (blk_lt (blk_up BK152.out)) : gb152≠gb153));have n9_:=Aside0.mk ((by rw [hg];exact Nat.ne_of_gt (blk_lt (blk_up BK152.out)) : gb153≠gb152));clear BK151;clear BK152;clear HB;have BK151:=n0_;have BK152:=n1_;have HB:=n2_;have BK153:=n3_;have GW153:=n4_;have GE153:=n5_;have NB151_153:=n6_;have NB153_151:=n7_;have NB152_153:=n8_;have NB153_152:=n9_;clear n0_ n1_ n2_ n3_ n4_ n5_ n6_ n7_ n8_ n9_;clear hb hbox hg;have hnb10:=NB153_151.out;have hnc10:=NB151_153.out;have hnb11:=NB153_152.out;have hnc11:=NB152_153.out;have hcz12_0 : w9.cell? ⟨gb153,0,none⟩=some (.slice none 0 0):=(blk_cell BK153.out 0).trans rfl;have hcz12_1 : w9.cell? ⟨gb153,1,none⟩=some (.int .i64 0):=(blk_cell BK153.out 1).trans rfl;have hcz12_2 : w9.cell? ⟨gb153,2,none⟩=some (.int .i64 0):=(blk_cell BK153.out 2).trans rfl;have hcz12_3 : w9.cell? ⟨gb153,3,none⟩=some (.int .i64 0):=(blk_cell BK153.out 3).trans rfl;have hfz12_0:=blk_frozen BK153.out 0;have hfz12_1:=blk_frozen BK153.out 1;have hfz12_2:=blk_frozen BK153.out 2;have hfz12_3:=blk_frozen BK153.out 3))
  go_loopg [13] k (fun kq v13 w'=>∃ (x13_1 : Int) (x154000_1 : List Int) (u154000 : Value),v13=.int .i64 x13_1∧Aside0 (thresherref04_Made.l0 kq (wrap64 (1 + (Int.tmod (wrap64 (a1)) 8))) x13_1 a0_0 a0_1 a0_2 a0_3 a0_4 a0_5 a0_6 a0_7 x154000_1 (wrap64 (1 + (Int.tmod (wrap64 (a2)) (wrap64 (1 + (Int.tmod (wrap64 (a1)) 8)))))) (wrap64 (1 + (Int.tmod (wrap64 (a3)) 3))) (wrap64 (1 + (Int.tmod (wrap64 (a4)) 8)))=some (r1,r2,r3,r4))∧Aside0 (kq≤k)∧Aside0 (Kd.R (Kd.int .i64) 3 w' w.heap.size (fun _=>True) u154000 x154000_1)∧Aside0 (w'.heap[gb151]?=some (.cells #[.int .u8 a0_0,.int .u8 a0_1,.int .u8 a0_2,.int .u8 a0_3,.int .u8 a0_4,.int .u8 a0_5,.int .u8 a0_6,.int .u8 a0_7] 22 (0,0)))∧Aside0 (w'.heap[gb152]?=some (.cells #[(.slice none 0 0),.int .i64 0,.int .i64 0,.int .i64 0] 29 (0,0)))∧Aside0 (w'.heap[gb153]?=some (.cells #[u154000,.int .i64 (wrap64 (1 + (Int.tmod (wrap64 (a2)) (wrap64 (1 + (Int.tmod (wrap64 (a1)) 8)))))),.int .i64 (wrap64 (1 + (Int.tmod (wrap64 (a3)) 3))),.int .i64 (wrap64 (1 + (Int.tmod (wrap64 (a4)) 8)))] 29 (0,0)))∧Aside0 (Below w.heap.size w w'))
  case atStart=>exact ⟨(0),(([] : List Int)),(.slice none 0 0),(by first|rfl|(simp;done)|(simp [*];done)),H',⟨Nat.le_refl _⟩,⟨by first|exact Kd.R_nil _ _ _ _ _|exact Kd.N_nil _ _ _ _ _|exact Kd.V_nil _ _ _ _ _|exact Kd.Q_nil _ _ _ _ _|exact Kd.S_nil _ _ _ _ _⟩,⟨by (with_reducible repeat (first|refine blk_drewN ?_ _|refine blk_drew ?_|refine blk_alloc ?_ _));refine blk_far ?_ NB151_153.out _;(with_reducible repeat (first|refine blk_drewN ?_ _|refine blk_drew ?_|refine blk_alloc ?_ _));refine blk_far ?_ NB151_153.out _;(with_reducible repeat (first|refine blk_drewN ?_ _|refine blk_drew ?_|refine blk_alloc ?_ _));refine blk_far ?_ NB151_153.out _;(with_reducible repeat (first|refine blk_drewN ?_ _|refine blk_drew ?_|refine blk_alloc ?_ _));refine blk_far ?_ NB151_153.out _;(with_reducible repeat (first|refine blk_drewN ?_ _|refine blk_drew ?_|refine blk_alloc ?_ _));exact BK151.out⟩,⟨by (with_reducible repeat (first|refine blk_drewN ?_ _|refine blk_drew ?_|refine blk_alloc ?_ _));refine blk_far ?_ NB152_153.out _;(with_reducible repeat (first|refine blk_drewN ?_ _|refine blk_drew ?_|refine blk_alloc ?_ _));refine blk_far ?_ NB152_153.out _;(with_reducible repeat (first|refine blk_drewN ?_ _|refine blk_drew ?_|refine blk_alloc ?_ _));refine blk_far ?_ NB152_153.out _;(with_reducible repeat (first|refine blk_drewN ?_ _|refine blk_drew ?_|refine blk_alloc ?_ _));refine blk_far ?_ NB152_153.out _;(with_reducible repeat (first|refine blk_drewN ?_ _|refine blk_drew ?_|refine blk_alloc ?_ _));exact BK152.out⟩,⟨by (with_reducible repeat (first|refine blk_drewN ?_ _|refine blk_drew ?_|refine blk_alloc ?_ _));refine blk_put (cs:=#[.slice none 0 0,.int .i64 (wrap64 (1 + (Int.tmod (wrap64 (a2)) (wrap64 (1 + (Int.tmod (wrap64 (a1)) 8)))))),.int .i64 (wrap64 (1 + (Int.tmod (wrap64 (a3)) 3))),.int .i64 0]) ?_ 3 _ rfl;(with_reducible repeat (first|refine blk_drewN ?_ _|refine blk_drew ?_|refine blk_alloc ?_ _));refine blk_put (cs:=#[.slice none 0 0,.int .i64 (wrap64 (1 + (Int.tmod (wrap64 (a2)) (wrap64 (1 + (Int.tmod (wrap64 (a1)) 8)))))),.int .i64 0,.int .i64 0]) ?_ 2 _ rfl;(with_reducible repeat (first|refine blk_drewN ?_ _|refine blk_drew ?_|refine blk_alloc ?_ _));refine blk_put (cs:=#[.slice none 0 0,.int .i64 0,.int .i64 0,.int .i64 0]) ?_ 1 _ rfl;(with_reducible repeat (first|refine blk_drewN ?_ _|refine blk_drew ?_|refine blk_alloc ?_ _));refine blk_put (cs:=#[.slice none 0 0,.int .i64 0,.int .i64 0,.int .i64 0]) ?_ 0 _ rfl;(with_reducible repeat (first|refine blk_drewN ?_ _|refine blk_drew ?_|refine blk_alloc ?_ _));exact BK153.out⟩,⟨by repeat (first|(with_reducible first|exact HB.out|apply below_alloc|apply pw_below_drewN|apply below_drew1|refine below_set ?_ GE151.out|refine below_set ?_ GE152.out|refine below_set ?_ GE153.out)|exact HB.out)⟩⟩
  case round =>
   clear H'
   try clear c1
   try clear p2
   try clear c6
   try clear c6b0
   try clear c6b1
   try clear p6
   try clear c10
   try clear c11
   try clear hcz12_0
   try clear hcz12_1
   try clear hcz12_2
   try clear hcz12_3
   try clear hfz12_0
   try clear hfz12_1
   try clear hfz12_2
   try clear hfz12_3
   obtain ⟨x13_1,x154000_1,u154000,rfl,HA,HK1,HO_154000,BK151,BK152,BK153,HB⟩:=hrel
   cases gk with
   | zero=>exact absurd HA.out (by simp [thresherref04_Made.l0])
   | succ k1 =>
    have H:=HA.out
    clear HA
    simp only [thresherref04_Made.l0] at H
    by_cases c13 : x13_1 < (wrap64 (1 + (Int.tmod (wrap64 (a1)) 8)))
    ·rw [if_pos c13] at H
     have c13b0 : decide (x13_1 < (wrap64 (1 + (Int.tmod (wrap64 (a1)) 8))))=true:=decide_eq_true c13
     clear c13
     by_cases c14 : 0≤x13_1
     ·rw [if_pos c14] at H
      have c14b0 : decide (0≤x13_1)=true:=decide_eq_true c14
      clear c14
      by_cases c15 : x13_1 < 8
      ·rw [if_pos c15] at H
       have c15b0 : decide (x13_1 < 8)=true:=decide_eq_true c15
       clear c15
       have c16b0:=eq_true (of_decide_eq_true (by first|(with_reducible assumption)|assumption) : 0≤x13_1)
       have c17b0:=eq_true (of_decide_eq_true (by first|(with_reducible assumption)|assumption) : x13_1 < 8)
       by_cases c18 : x154000_1.length < 17592186044416
       ·rw [if_pos c18] at H
        have LMc18:=Aside0.mk c18
        clear c18
        obtain ⟨y154,hy154⟩ : ∃ y_ : List Int,y_=(x154000_1 ++ [wrap64 (1 + (Int.tmod (wrap64 (rd [a0_0,a0_1,a0_2,a0_3,a0_4,a0_5,a0_6,a0_7] x13_1)) 3))]):=⟨_,rfl⟩
        replace H : (thresherref04_Made.l0 k1 (wrap64 (1 + (Int.tmod (wrap64 (a1)) 8))) (wrap64 (x13_1 + 1)) a0_0 a0_1 a0_2 a0_3 a0_4 a0_5 a0_6 a0_7 y154 (wrap64 (1 + (Int.tmod (wrap64 (a2)) (wrap64 (1 + (Int.tmod (wrap64 (a1)) 8)))))) (wrap64 (1 + (Int.tmod (wrap64 (a3)) 3))) (wrap64 (1 + (Int.tmod (wrap64 (a4)) 8))))=some (r1,r2,r3,r4):=by first|(rw [hy154];with_reducible exact H)|(have H2_:=(Option.bind_some _ _).symm.trans H;rw [hy154];with_reducible exact H2_)|(have H2_:=(Option.bind_some _ _).symm.trans H;with_reducible exact H2_)|with_reducible exact H|(rw [hy154];exact H)|exact H
        have Ny154:=Aside0.mk hy154
        clear hy154
        have H':=Aside0.mk H
        clear H
        try go_wp2
        have n0_:=Aside0.mk (Kd.R_drew HO_154000.out)
        have n1_:=Aside0.mk (blk_drew BK151.out)
        have n2_:=Aside0.mk (blk_drew BK152.out)
        have n3_:=Aside0.mk (blk_drew BK153.out)
        have n4_:=Aside0.mk (below_drew1 HB.out)
        clear HO_154000
        clear BK151
        clear BK152
        clear BK153
        clear HB
        have HO_154000:=n0_
        have BK151:=n1_
        have BK152:=n2_
        have BK153:=n3_
        have HB:=n4_
        clear n0_ n1_ n2_ n3_ n4_
        refine start_ (n:=12) (S:=fun w'=>w'.cell? ⟨gb153,0,none⟩=some (u154000)∧w'.cell? ⟨gb153,1,none⟩=some (.int .i64 (wrap64 (1 + (Int.tmod (wrap64 (a2)) (wrap64 (1 + (Int.tmod (wrap64 (a1)) 8)))))))∧w'.cell? ⟨gb153,2,none⟩=some (.int .i64 (wrap64 (1 + (Int.tmod (wrap64 (a3)) 3))))∧w'.cell? ⟨gb153,3,none⟩=some (.int .i64 (wrap64 (1 + (Int.tmod (wrap64 (a4)) 8))))∧w'.cell? ⟨gb151,0,none⟩=some (.int .u8 a0_0)∧w'.cell? ⟨gb151,1,none⟩=some (.int .u8 a0_1)∧w'.cell? ⟨gb151,2,none⟩=some (.int .u8 a0_2)∧w'.cell? ⟨gb151,3,none⟩=some (.int .u8 a0_3)∧w'.cell? ⟨gb151,4,none⟩=some (.int .u8 a0_4)∧w'.cell? ⟨gb151,5,none⟩=some (.int .u8 a0_5)∧w'.cell? ⟨gb151,6,none⟩=some (.int .u8 a0_6)∧w'.cell? ⟨gb151,7,none⟩=some (.int .u8 a0_7)∧w'.cell? ⟨gb151,x13_1.toNat,none⟩=some (.int .u8 (rd [a0_0,a0_1,a0_2,a0_3,a0_4,a0_5,a0_6,a0_7] x13_1))) (ds:=[11]) #[false,false,false,false,false,false,false,false,false,false,false,false] (by kernel_rfl) rfl rfl ⟨(blk_cell BK153.out 0).trans rfl,(blk_cell BK153.out 1).trans rfl,(blk_cell BK153.out 2).trans rfl,(blk_cell BK153.out 3).trans rfl,(blk_cell BK151.out 0).trans rfl,(blk_cell BK151.out 1).trans rfl,(blk_cell BK151.out 2).trans rfl,(blk_cell BK151.out 3).trans rfl,(blk_cell BK151.out 4).trans rfl,(blk_cell BK151.out 5).trans rfl,(blk_cell BK151.out 6).trans rfl,(blk_cell BK151.out 7).trans rfl,(blk_cell BK151.out x13_1.toNat).trans (cells_rd .u8 [a0_0,a0_1,a0_2,a0_3,a0_4,a0_5,a0_6,a0_7] x13_1 (of_decide_eq_true (by first|(with_reducible assumption)|assumption)) (of_decide_eq_true (by first|(with_reducible assumption)|assumption)))⟩ (fun hHeld=>?_);refine with_tabW thresherref04_Made.tab6 thresherref04_Made.bits6 (fun HT_ HW_=>?_)
        generalize wr.drew=w19 at HO_154000 BK151 BK152 BK153 HB hHeld ⊢
        refine pure_ (i:=0) (N:=some 37) (v:=?_) (a':=?_) #[true,false,false,false,false,false,false,false,false,false,false,false] rfl rfl (any_of HT_.out (by kernel_rfl)) (fun _ _ _ h=>h) (Or.inl ⟨by rfl,?_⟩) ?_ ?_
        rotate_left;(intro w';go_simp;with_reducible rfl);rotate_left;(simp only [Act.put,List.setIfInBounds_toArray,List.set_cons_zero,List.set_cons_succ,i64_w,i32_w];rfl)
        refine pure_ (i:=2) (N:=some 39) (v:=?_) (a':=?_) #[true,false,true,false,false,false,false,false,false,false,false,false] rfl rfl (any_of HT_.out (by kernel_rfl)) (fun _ _ _ h=>h) (Or.inl ⟨by rfl,?_⟩) ?_ ?_
        rotate_left;(intro w';go_simp;with_reducible rfl);rotate_left;(simp only [Act.put,List.setIfInBounds_toArray,List.set_cons_zero,List.set_cons_succ,i64_w,i32_w];rfl)
        refine pure_ (i:=3) (N:=some 40) (v:=?_) (a':=?_) #[true,false,true,true,false,false,false,false,false,false,false,false] rfl rfl (any_of HT_.out (by kernel_rfl)) (fun _ _ _ h=>h) (Or.inl ⟨by rfl,?_⟩) ?_ ?_
        rotate_left;(intro w';go_simp;with_reducible rfl);rotate_left;(simp only [Act.put,List.setIfInBounds_toArray,List.set_cons_zero,List.set_cons_succ,i64_w,i32_w];rfl)
        refine take_ (i:=1) (N:=some 38) (v:=?_) (a':=?_) #[true,true,true,true,false,false,false,false,false,false,false,false] rfl rfl (take_ofW HT_.out HW_.out (by kernel_rfl)) (fun _ _ _ h=>h) (Or.inl ⟨by rfl,?_⟩) hHeld ?_ ?_
        rotate_left;(rintro w' ⟨s0,s1,s2,s3,s4,s5,s6,s7,s8,s9,s10,s11,s12⟩;go_simp;with_reducible rfl);rotate_left;(simp only [Act.put,List.setIfInBounds_toArray,List.set_cons_zero,List.set_cons_succ,i64_w,i32_w];rfl)
        refine take_ (i:=4) (N:=some 41) (v:=?_) (a':=?_) #[true,true,true,true,true,false,false,false,false,false,false,false] rfl rfl (take_ofW HT_.out HW_.out (by kernel_rfl)) (fun _ _ _ h=>h) (Or.inl ⟨by rfl,?_⟩) hHeld ?_ ?_
        rotate_left;(rintro w' ⟨s0,s1,s2,s3,s4,s5,s6,s7,s8,s9,s10,s11,s12⟩;go_simp;with_reducible rfl);rotate_left;(simp only [Act.put,List.setIfInBounds_toArray,List.set_cons_zero,List.set_cons_succ,i64_w,i32_w];rfl)
        refine pure_ (i:=5) (N:=some 42) (v:=?_) (a':=?_) #[true,true,true,true,true,true,false,false,false,false,false,false] rfl rfl (any_of HT_.out (by kernel_rfl)) (fun _ _ _ h=>h) (Or.inl ⟨by rfl,?_⟩) ?_ ?_
        rotate_left;(intro w';go_simp;with_reducible rfl);rotate_left;(simp only [Act.put,List.setIfInBounds_toArray,List.set_cons_zero,List.set_cons_succ,i64_w,i32_w];rfl)
        refine pure_ (i:=6) (N:=some 43) (v:=?_) (a':=?_) #[true,true,true,true,true,true,true,false,false,false,false,false] rfl rfl (any_of HT_.out (by kernel_rfl)) (fun _ _ _ h=>h) (Or.inl ⟨by rfl,?_⟩) ?_ ?_
        rotate_left;(intro w';go_simp;with_reducible rfl);rotate_left;(simp only [Act.put,List.setIfInBounds_toArray,List.set_cons_zero,List.set_cons_succ,i64_w,i32_w];rfl)
        refine pure_ (i:=7) (N:=some 44) (v:=?_) (a':=?_) #[true,true,true,true,true,true,true,true,false,false,false,false] rfl rfl (any_of HT_.out (by kernel_rfl)) (fun _ _ _ h=>h) (Or.inl ⟨by rfl,?_⟩) ?_ ?_
        rotate_left;(intro w';go_simp;with_reducible rfl);rotate_left;(simp only [Act.put,List.setIfInBounds_toArray,List.set_cons_zero,List.set_cons_succ,i64_w,i32_w];rfl)
        refine one_ (i:=8) (N:=some 45) #[true,true,true,true,true,true,true,true,true,false,false,false] rfl rfl (one_of HT_.out (by kernel_rfl)) (by decide) (fun K hK=>?_)
        refine value_ (w1:=?_) (v:=?_) (by rfl) rfl ?_ ?_
        rotate_left 2
        ·go_simp
         constructor
         ·rfl
         ·rfl
        refine hK.out _ _ ⟨(blk_cell (blk_alloc BK153.out _) 0).trans rfl,(blk_cell (blk_alloc BK153.out _) 1).trans rfl,(blk_cell (blk_alloc BK153.out _) 2).trans rfl,(blk_cell (blk_alloc BK153.out _) 3).trans rfl,(blk_cell (blk_alloc BK151.out _) 0).trans rfl,(blk_cell (blk_alloc BK151.out _) 1).trans rfl,(blk_cell (blk_alloc BK151.out _) 2).trans rfl,(blk_cell (blk_alloc BK151.out _) 3).trans rfl,(blk_cell (blk_alloc BK151.out _) 4).trans rfl,(blk_cell (blk_alloc BK151.out _) 5).trans rfl,(blk_cell (blk_alloc BK151.out _) 6).trans rfl,(blk_cell (blk_alloc BK151.out _) 7).trans rfl,(blk_cell (blk_alloc BK151.out _) x13_1.toNat).trans (cells_rd .u8 [a0_0,a0_1,a0_2,a0_3,a0_4,a0_5,a0_6,a0_7] x13_1 (of_decide_eq_true (by first|(with_reducible assumption)|assumption)) (of_decide_eq_true (by first|(with_reducible assumption)|assumption)))⟩ (fun hHeld=>?_)
        clear hK K
        refine norm_ (a':=?_) ?_ ?_
        rotate_left
        ·show Act.put _ (some 45) _=_
         simp only [Act.put,List.setIfInBounds_toArray,List.set_cons_zero,List.set_cons_succ,i64_w,i32_w]
         rfl
        refine one_ (i:=9) (N:=some 46) #[true,true,true,true,true,true,true,true,true,true,false,false] rfl rfl (one_of HT_.out (by kernel_rfl)) (by decide) (fun K hK=>?_)
        refine Kd.R_append_step (Kd.int .i64) (w0:=w) w.heap.size (by rfl) (.tmp 38) (.tmp 45) 27 3 (.int .i64 0) 8 rfl Try.underlying27 info3 rfl (by decide) (by omega) u154000 x154000_1 (wrap64 (1 + (Int.tmod (wrap64 (rd [a0_0,a0_1,a0_2,a0_3,a0_4,a0_5,a0_6,a0_7] x13_1)) 3))) [.int .i64 (wrap64 (1 + (Int.tmod (wrap64 (rd [a0_0,a0_1,a0_2,a0_3,a0_4,a0_5,a0_6,a0_7] x13_1)) 3)))] (fun _=>True) (fun _=>False) rfl rfl ?aP (fun _ hk=>hk.elim) ?aF ?aO ?aB ?aS ?aL ?_
        (case aP=>exact rfl)
        (case aB=>exact (below_go HB.out))
        (case aF=>exact (fun _ _=>trivial))
        (case aO=>exact (R_up HO_154000.out))
        (case aS=>exact (below_size (below_go HB.out)))
        (case aL=>have:=LMc18.out;omega)
        intro v155 w20 ho hb hg hat
        rw [← Ny154.out] at ho
        have n0_:=Aside0.mk (blk_grown (blk_up BK151.out) hg (Kd.R_ne HO_154000.out BK151.out (by decide)))
        have n1_:=Aside0.mk (blk_grown (blk_up BK152.out) hg (Kd.R_ne HO_154000.out BK152.out (by decide)))
        have n2_:=Aside0.mk (blk_grown (blk_up BK153.out) hg (Kd.R_ne HO_154000.out BK153.out (by decide)))
        have n3_:=Aside0.mk (hb)
        have n4_:=Aside0.mk (ho)
        clear BK151
        clear BK152
        clear BK153
        clear HB
        clear HO_154000
        have BK151:=n0_
        have BK152:=n1_
        have BK153:=n2_
        have HB:=n3_
        have HO156:=n4_
        clear n0_ n1_ n2_ n3_ n4_
        clear ho hb hg hat
        obtain ⟨Ao21,co21,eo21⟩:=Kd.R_slice HO156.out
        (first|subst eo21|(injection eo21 with f1_ f2_ f3_;have f4_:=f1_.symm;have f5_:=f3_.symm;clear f1_ f2_ f3_;subst f4_;subst f5_))
        refine hK.out _ _ ⟨(blk_cell BK153.out 0).trans rfl,(blk_cell BK153.out 1).trans rfl,(blk_cell BK153.out 2).trans rfl,(blk_cell BK153.out 3).trans rfl,(blk_cell BK151.out 0).trans rfl,(blk_cell BK151.out 1).trans rfl,(blk_cell BK151.out 2).trans rfl,(blk_cell BK151.out 3).trans rfl,(blk_cell BK151.out 4).trans rfl,(blk_cell BK151.out 5).trans rfl,(blk_cell BK151.out 6).trans rfl,(blk_cell BK151.out 7).trans rfl,(blk_cell BK151.out x13_1.toNat).trans (cells_rd .u8 [a0_0,a0_1,a0_2,a0_3,a0_4,a0_5,a0_6,a0_7] x13_1 (of_decide_eq_true (by first|(with_reducible assumption)|assumption)) (of_decide_eq_true (by first|(with_reducible assumption)|assumption)))⟩ (fun hHeld=>?_)
        clear hK K
        refine norm_ (a':=?_) ?_ ?_
        rotate_left
        ·show Act.put _ (some 46) _=_
         simp only [Act.put,List.setIfInBounds_toArray,List.set_cons_zero,List.set_cons_succ,i64_w,i32_w]
         rfl
        refine pure_ (i:=10) (N:=some 47) (v:=?_) (a':=?_) #[true,true,true,true,true,true,true,true,true,true,true,false] rfl rfl (any_of HT_.out (by kernel_rfl)) (fun _ _ _ h=>h) (Or.inl ⟨by rfl,?_⟩) ?_ ?_
        rotate_left;(intro w';go_simp;with_reducible rfl);rotate_left;(simp only [Act.put,List.setIfInBounds_toArray,List.set_cons_zero,List.set_cons_succ,i64_w,i32_w];rfl)
        refine last_ (i:=11) (N:=none) #[true,true,true,true,true,true,true,true,true,true,true,true] rfl rfl (one_of HT_.out (by kernel_rfl)) (by decide) (fun K hK=>?_)
        have hs22 : w20.cell? ⟨gb153,0,none⟩=some (u154000):=(blk_cell BK153.out 0).trans rfl
        have hfs22:=blk_frozen BK153.out 0
        have hns22_0:=NB151_153.out
        have hns22_1:=NB152_153.out
        have hms22_0:=NB153_151.out
        have hms22_1:=NB153_152.out
        refine skip_ (w1:=?_) (by rfl) rfl ?_ ?_
        rotate_left
        ·go_simp
         rfl
        refine hK.out _ _ ?_
        clear hK K
        refine done_ (done_of HT_.out (by kernel_rfl)) ?_
        (try clear hHeld)
        try go_wp2
        go_roundg k1
        case measure=>have:=HK1.out;omega
        case rel=>exact ⟨(wrap64 (x13_1 + 1)),(y154),(.slice Ao21 y154.length co21),(by first|rfl|(simp;done)|(simp [*];done)),(by first|exact H'|(subst_vars;exact H')),⟨by have:=HK1.out;omega⟩,⟨by (with_reducible repeat (first|apply Kd.R_alloc|apply Kd.R_drewN|apply Kd.R_drew));exact Kd.R_mono (Kd.R_far (p:=⟨gb153,0,none⟩) (Kd.R_types HO156.out BK153.out (by decide)) (fun _ hk=>hk.2) (.slice Ao21 y154.length co21)) (fun _ hk=>trivial)⟩,⟨by (with_reducible repeat (first|refine blk_drewN ?_ _|refine blk_drew ?_|refine blk_alloc ?_ _));refine blk_far ?_ NB151_153.out _;(with_reducible repeat (first|refine blk_drewN ?_ _|refine blk_drew ?_|refine blk_alloc ?_ _));exact BK151.out⟩,⟨by (with_reducible repeat (first|refine blk_drewN ?_ _|refine blk_drew ?_|refine blk_alloc ?_ _));refine blk_far ?_ NB152_153.out _;(with_reducible repeat (first|refine blk_drewN ?_ _|refine blk_drew ?_|refine blk_alloc ?_ _));exact BK152.out⟩,⟨by (with_reducible repeat (first|refine blk_drewN ?_ _|refine blk_drew ?_|refine blk_alloc ?_ _));refine blk_put (cs:=#[u154000,.int .i64 (wrap64 (1 + (Int.tmod (wrap64 (a2)) (wrap64 (1 + (Int.tmod (wrap64 (a1)) 8)))))),.int .i64 (wrap64 (1 + (Int.tmod (wrap64 (a3)) 3))),.int .i64 (wrap64 (1 + (Int.tmod (wrap64 (a4)) 8)))]) ?_ 0 _ rfl;(with_reducible repeat (first|refine blk_drewN ?_ _|refine blk_drew ?_|refine blk_alloc ?_ _));exact BK153.out⟩,⟨by repeat (first|(with_reducible first|exact HB.out|apply below_alloc|apply pw_below_drewN|apply below_drew1|refine below_set ?_ GE151.out|refine below_set ?_ GE152.out|refine below_set ?_ GE153.out)|exact HB.out)⟩⟩
       ·rw [if_neg c18] at H
        exact absurd H (by simp)
      ·rw [if_neg c15] at H
       exact absurd H (by simp)
     ·rw [if_neg c14] at H
      exact absurd H (by simp)
    ·rw [if_neg c13] at H
     have c13b0 : decide (x13_1 < (wrap64 (1 + (Int.tmod (wrap64 (a1)) 8))))=false:=decide_eq_false c13
     clear c13
     simp only [Option.some.injEq,Prod.mk.injEq] at H
     obtain ⟨rfl,rfl,rfl,rfl⟩:=H
     have hnb23:=NB153_151.out
     have hnc23:=NB151_153.out
     have hnb24:=NB153_152.out
     have hnc24:=NB152_153.out
     have hcz25_0 : wr.cell? ⟨gb153,0,none⟩=some (u154000):=(blk_cell BK153.out 0).trans rfl
     have hcz25_1 : wr.cell? ⟨gb153,1,none⟩=some (.int .i64 (wrap64 (1 + (Int.tmod (wrap64 (a2)) (wrap64 (1 + (Int.tmod (wrap64 (a1)) 8))))))):=(blk_cell BK153.out 1).trans rfl
     have hcz25_2 : wr.cell? ⟨gb153,2,none⟩=some (.int .i64 (wrap64 (1 + (Int.tmod (wrap64 (a3)) 3)))):=(blk_cell BK153.out 2).trans rfl
     have hcz25_3 : wr.cell? ⟨gb153,3,none⟩=some (.int .i64 (wrap64 (1 + (Int.tmod (wrap64 (a4)) 8)))):=(blk_cell BK153.out 3).trans rfl
     have hfz25_0:=blk_frozen BK153.out 0
     have hfz25_1:=blk_frozen BK153.out 1
     have hfz25_2:=blk_frozen BK153.out 2
     have hfz25_3:=blk_frozen BK153.out 3
     obtain ⟨Ao26,co26,eo26⟩:=Kd.R_slice HO_154000.out
     subst eo26
     have hnb27:=NB152_151.out
     have hnc27:=NB151_152.out
     have hcz28_0 : wr.cell? ⟨gb152,0,none⟩=some (.slice none 0 0):=(blk_cell BK152.out 0).trans rfl
     have hcz28_1 : wr.cell? ⟨gb152,1,none⟩=some (.int .i64 0):=(blk_cell BK152.out 1).trans rfl
     have hcz28_2 : wr.cell? ⟨gb152,2,none⟩=some (.int .i64 0):=(blk_cell BK152.out 2).trans rfl
     have hcz28_3 : wr.cell? ⟨gb152,3,none⟩=some (.int .i64 0):=(blk_cell BK152.out 3).trans rfl
     have hfz28_0:=blk_frozen BK152.out 0
     have hfz28_1:=blk_frozen BK152.out 1
     have hfz28_2:=blk_frozen BK152.out 2
     have hfz28_3:=blk_frozen BK152.out 3
     go_wp2
     refine bodyPost_ret (results_cell_row rfl _ _ gb152 29 #[.slice Ao26 x154000_1.length co26,.int .i64 (wrap64 (1 + (Int.tmod (wrap64 (a2)) (wrap64 (1 + (Int.tmod (wrap64 (a1)) 8)))))),.int .i64 (wrap64 (1 + (Int.tmod (wrap64 (a3)) 3))),.int .i64 (wrap64 (1 + (Int.tmod (wrap64 (a4)) 8)))] (0,0) _ rfl (by (with_reducible repeat (first|refine blk_drewN ?_ _|refine blk_drew ?_|refine blk_alloc ?_ _));refine blk_put (cs:=#[.slice Ao26 x154000_1.length co26,.int .i64 (wrap64 (1 + (Int.tmod (wrap64 (a2)) (wrap64 (1 + (Int.tmod (wrap64 (a1)) 8)))))),.int .i64 (wrap64 (1 + (Int.tmod (wrap64 (a3)) 3))),.int .i64 0]) ?_ 3 _ rfl;(with_reducible repeat (first|refine blk_drewN ?_ _|refine blk_drew ?_|refine blk_alloc ?_ _));refine blk_put (cs:=#[.slice Ao26 x154000_1.length co26,.int .i64 (wrap64 (1 + (Int.tmod (wrap64 (a2)) (wrap64 (1 + (Int.tmod (wrap64 (a1)) 8)))))),.int .i64 0,.int .i64 0]) ?_ 2 _ rfl;(with_reducible repeat (first|refine blk_drewN ?_ _|refine blk_drew ?_|refine blk_alloc ?_ _));refine blk_put (cs:=#[.slice Ao26 x154000_1.length co26,.int .i64 0,.int .i64 0,.int .i64 0]) ?_ 1 _ rfl;(with_reducible repeat (first|refine blk_drewN ?_ _|refine blk_drew ?_|refine blk_alloc ?_ _));refine blk_put (cs:=#[.slice none 0 0,.int .i64 0,.int .i64 0,.int .i64 0]) ?_ 0 _ rfl;(with_reducible repeat (first|refine blk_drewN ?_ _|refine blk_drew ?_|refine blk_alloc ?_ _));exact BK152.out) Try.underlying29 rfl (by kernel_rfl)) rfl ?_
     exact ⟨_,by first|rfl|(simp [errW_none,errW_some] <;> rfl)|(simp [*,errW_none,errW_some] <;> rfl),by (with_reducible repeat (first|apply Kd.R_alloc|apply Kd.R_drewN|apply Kd.R_drew));exact Kd.R_mono (Kd.R_far (p:=⟨gb152,3,none⟩) (Kd.R_far (p:=⟨gb152,2,none⟩) (Kd.R_far (p:=⟨gb152,1,none⟩) (Kd.R_far (p:=⟨gb152,0,none⟩) (Kd.R_types HO_154000.out BK152.out (by decide)) (fun _ hk=>hk.2) (.slice Ao26 x154000_1.length co26)) (fun _ hk=>hk.2) (.int .i64 (wrap64 (1 + (Int.tmod (wrap64 (a2)) (wrap64 (1 + (Int.tmod (wrap64 (a1)) 8)))))))) (fun _ hk=>hk.2) (.int .i64 (wrap64 (1 + (Int.tmod (wrap64 (a3)) 3))))) (fun _ hk=>hk.2) (.int .i64 (wrap64 (1 + (Int.tmod (wrap64 (a4)) 8))))) (fun _ hk=>trivial),by repeat (first|(with_reducible first|exact HB.out|apply below_alloc|apply pw_below_drewN|apply below_drew1|refine below_set ?_ GE151.out|refine below_set ?_ GE152.out|refine below_set ?_ GE153.out)|exact HB.out)⟩
def thresherlaw20_made.f (k : Nat) (a0_0 : Int) (a0_1 : Int) (a0_2 : Int) (a0_3 : Int) (a0_4 : Int) (a0_5 : Int) (a0_6 : Int) (a0_7 : Int) (a0_8 : Int) (a0_9 : Int) (a0_10 : Int) (a0_11 : Int) : Option (List Int × Int × Int × Int):=(thresherref04_Made.f k a0_0 a0_1 a0_2 a0_3 a0_4 a0_5 a0_6 a0_7 a0_8 a0_9 a0_10 a0_11).bind fun bt159=>(some (bt159.1,bt159.2.1,bt159.2.2.1,bt159.2.2.2))
theorem thresherlaw20_made.mono : ∀ a0 a1 a2 a3 a4 a5 a6 a7 a8 a9 a10 a11 k,LeO (thresherlaw20_made.f k a0 a1 a2 a3 a4 a5 a6 a7 a8 a9 a10 a11) (thresherlaw20_made.f (k + 1) a0 a1 a2 a3 a4 a5 a6 a7 a8 a9 a10 a11):=by
 intro a0 a1 a2 a3 a4 a5 a6 a7 a8 a9 a10 a11 k
 unfold thresherlaw20_made.f
 repeat' first
   | (with_reducible exact thresherref04_Made.mono _ _ _ _ _ _ _ _ _ _ _ _ _)
   | (with_reducible exact LeO.refl _)
   | (with_reducible exact LeO.none _)
   | (with_reducible refine LeO.ite ?_ ?_)
   | (with_reducible refine LeO.bind ?_ (fun _=>?_))
   | exact thresherref04_Made.mono _ _ _ _ _ _ _ _ _ _ _ _ _
   | exact LeO.none _
   | refine LeO.ite ?_ ?_
   | refine LeO.bind ?_ (fun _=>?_)
set_option maxHeartbeats 8000000 in
set_option maxRecDepth 100000 in
theorem thresherlaw20_made.calls (k : Nat) (a0_0 : Int) (a0_1 : Int) (a0_2 : Int) (a0_3 : Int) (a0_4 : Int) (a0_5 : Int) (a0_6 : Int) (a0_7 : Int) (a0_8 : Int) (a0_9 : Int) (a0_10 : Int) (a0_11 : Int) (r1 : List Int) (r2 : Int) (r3 : Int) (r4 : Int) (w : World) (h : thresherlaw20_made.f k a0_0 a0_1 a0_2 a0_3 a0_4 a0_5 a0_6 a0_7 a0_8 a0_9 a0_10 a0_11=some (r1,r2,r3,r4)) :
  Calls Try.prog 9 #[.agg #[.int .u8 a0_0,.int .u8 a0_1,.int .u8 a0_2,.int .u8 a0_3,.int .u8 a0_4,.int .u8 a0_5,.int .u8 a0_6,.int .u8 a0_7,.int .u8 a0_8,.int .u8 a0_9,.int .u8 a0_10,.int .u8 a0_11]] w fun e w'=>∃ v0_ : Value,e=.returned (.agg #[v0_,.int .i64 r2,.int .i64 r3,.int .i64 r4])∧Kd.R (Kd.int .i64) 3 w' w.heap.size (fun _=>True) v0_ r1∧Below w.heap.size w w':=by
 have hu24:=Try.underlying24
 have hu29:=Try.underlying29
 have hu22:=Try.underlying22
 have HB:=Aside0.mk (Below.refl w.heap.size w)
 have H : ((thresherref04_Made.f k a0_0 a0_1 a0_2 a0_3 a0_4 a0_5 a0_6 a0_7 a0_8 a0_9 a0_10 a0_11).bind fun bt159=>(some (bt159.1,bt159.2.1,bt159.2.2.1,bt159.2.2.2)))=some (r1,r2,r3,r4):=h
 clear h
 replace H:=Option.bind_eq_some_iff.mp H
 obtain ⟨⟨t159,t162,t163,t164⟩,A20,H⟩:=H
 replace H : (some (t159,t162,t163,t164))=some (r1,r2,r3,r4):=H
 have A2:=Aside0.mk A20
 clear A20
 simp only [Option.some.injEq,Prod.mk.injEq] at H
 obtain ⟨rfl,rfl,rfl,rfl⟩:=H
 go_enter Try.func9,Try.ntmps9
 go_wp2_with (first|((with_reducible refine gate_dst (N:=1) rfl ?_);refine box_event ?hg (N:=1) ?hd (cs:=#[.int .u8 a0_0,.int .u8 a0_1,.int .u8 a0_2,.int .u8 a0_3,.int .u8 a0_4,.int .u8 a0_5,.int .u8 a0_6,.int .u8 a0_7,.int .u8 a0_8,.int .u8 a0_9,.int .u8 a0_10,.int .u8 a0_11]) (t:=24) ?hr ?_;(case hd=>rfl);(case hg=>rfl);(case hr=>first|(go_simp;done)|(go_simp;rfl));intro gb157 hg w3 hbox hb;have n0_:=Aside0.mk (below_step (below_up HB.out) hb);have n1_:=Aside0.mk (hbox);have n2_:=Aside0.mk ((by rw [hg];exact (below_size (below_up HB.out)) : w.heap.size≤gb157));have n3_:=Aside0.mk ((by rw [hg];exact (below_size (below_up HB.out)) : w.heap.size≤gb157));clear HB;have HB:=n0_;have BK157:=n1_;have GW157:=n2_;have GE157:=n3_;clear n0_ n1_ n2_ n3_;clear hb hbox hg)|((with_reducible refine gate_dst (N:=2) rfl ?_);refine box_event ?hg (N:=2) ?hd (cs:=#[.slice none 0 0,.int .i64 0,.int .i64 0,.int .i64 0]) (t:=29) ?hr ?_;(case hd=>rfl);(case hg=>rfl);(case hr=>first|(go_simp;done)|(go_simp;rfl));intro gb158 hg w4 hbox hb;have n0_:=Aside0.mk (blk_below (blk_up BK157.out) hb);have n1_:=Aside0.mk (below_step (below_go HB.out) hb);have n2_:=Aside0.mk (hbox);have n3_:=Aside0.mk ((by rw [hg];exact (below_size (below_go HB.out)) : w.heap.size≤gb158));have n4_:=Aside0.mk ((by rw [hg];exact (below_size (below_go HB.out)) : w.heap.size≤gb158));have n5_:=Aside0.mk ((by rw [hg];exact Nat.ne_of_lt (blk_lt (blk_up BK157.out)) : gb157≠gb158));have n6_:=Aside0.mk ((by rw [hg];exact Nat.ne_of_gt (blk_lt (blk_up BK157.out)) : gb158≠gb157));clear BK157;clear HB;have BK157:=n0_;have HB:=n1_;have BK158:=n2_;have GW158:=n3_;have GE158:=n4_;have NB157_158:=n5_;have NB158_157:=n6_;clear n0_ n1_ n2_ n3_ n4_ n5_ n6_;clear hb hbox hg;have hnb5:=NB157_158.out;have hnc5:=NB158_157.out;have hcz6_0 : w4.cell? ⟨gb157,0,none⟩=some (.int .u8 a0_0):=(blk_cell BK157.out 0).trans rfl;have hcz6_1 : w4.cell? ⟨gb157,1,none⟩=some (.int .u8 a0_1):=(blk_cell BK157.out 1).trans rfl;have hcz6_2 : w4.cell? ⟨gb157,2,none⟩=some (.int .u8 a0_2):=(blk_cell BK157.out 2).trans rfl;have hcz6_3 : w4.cell? ⟨gb157,3,none⟩=some (.int .u8 a0_3):=(blk_cell BK157.out 3).trans rfl;have hcz6_4 : w4.cell? ⟨gb157,4,none⟩=some (.int .u8 a0_4):=(blk_cell BK157.out 4).trans rfl;have hcz6_5 : w4.cell? ⟨gb157,5,none⟩=some (.int .u8 a0_5):=(blk_cell BK157.out 5).trans rfl;have hcz6_6 : w4.cell? ⟨gb157,6,none⟩=some (.int .u8 a0_6):=(blk_cell BK157.out 6).trans rfl;have hcz6_7 : w4.cell? ⟨gb157,7,none⟩=some (.int .u8 a0_7):=(blk_cell BK157.out 7).trans rfl;have hcz6_8 : w4.cell? ⟨gb157,8,none⟩=some (.int .u8 a0_8):=(blk_cell BK157.out 8).trans rfl;have hcz6_9 : w4.cell? ⟨gb157,9,none⟩=some (.int .u8 a0_9):=(blk_cell BK157.out 9).trans rfl;have hcz6_10 : w4.cell? ⟨gb157,10,none⟩=some (.int .u8 a0_10):=(blk_cell BK157.out 10).trans rfl;have hcz6_11 : w4.cell? ⟨gb157,11,none⟩=some (.int .u8 a0_11):=(blk_cell BK157.out 11).trans rfl;have hfz6_0:=blk_frozen BK157.out 0;have hfz6_1:=blk_frozen BK157.out 1;have hfz6_2:=blk_frozen BK157.out 2;have hfz6_3:=blk_frozen BK157.out 3;have hfz6_4:=blk_frozen BK157.out 4;have hfz6_5:=blk_frozen BK157.out 5;have hfz6_6:=blk_frozen BK157.out 6;have hfz6_7:=blk_frozen BK157.out 7;have hfz6_8:=blk_frozen BK157.out 8;have hfz6_9:=blk_frozen BK157.out 9;have hfz6_10:=blk_frozen BK157.out 10;have hfz6_11:=blk_frozen BK157.out 11)|((with_reducible refine gate_callee (f:=19) rfl ?_);refine goesL_ (some 13) rfl rfl Try.func19 (by kernel_rfl) rfl #[.agg #[.int .u8 a0_0,.int .u8 a0_1,.int .u8 a0_2,.int .u8 a0_3,.int .u8 a0_4,.int .u8 a0_5,.int .u8 a0_6,.int .u8 a0_7],.int .u8 a0_8,.int .u8 a0_9,.int .u8 a0_10,.int .u8 a0_11] rfl (by (try simp only [List.map_toArray,List.map_cons,List.map_nil]);first|done|rfl|(simp only [List.length_drop,List.length_take];rfl)) ?_;(with_reducible refine (thresherref04_Made.calls k a0_0 a0_1 a0_2 a0_3 a0_4 a0_5 a0_6 a0_7 a0_8 a0_9 a0_10 a0_11 t159 t162 t163 t164 _ A2.out).mono ?_);rintro e w7 ⟨v160,rfl,ho0,hb⟩;refine ⟨_,rfl,?_⟩;have n0_:=Aside0.mk (Kd.R_lower ho0 (below_size (below_go HB.out)));have n1_:=Aside0.mk (blk_below (blk_up BK157.out) hb);have n2_:=Aside0.mk (blk_below (blk_up BK158.out) hb);have n3_:=Aside0.mk (below_step (below_go HB.out) hb);clear BK157;clear BK158;clear HB;have HO161:=n0_;have BK157:=n1_;have BK158:=n2_;have HB:=n3_;clear n0_ n1_ n2_ n3_;(try clear hb);(try clear hb2);(try clear hk);(try clear hi);(try clear ho0);obtain ⟨Ao8,co8,eo8⟩:=Kd.R_slice HO161.out;subst eo8;have hcz9_0 : w7.cell? ⟨gb158,0,none⟩=some (.slice none 0 0):=(blk_cell BK158.out 0).trans rfl;have hcz9_1 : w7.cell? ⟨gb158,1,none⟩=some (.int .i64 0):=(blk_cell BK158.out 1).trans rfl;have hcz9_2 : w7.cell? ⟨gb158,2,none⟩=some (.int .i64 0):=(blk_cell BK158.out 2).trans rfl;have hcz9_3 : w7.cell? ⟨gb158,3,none⟩=some (.int .i64 0):=(blk_cell BK158.out 3).trans rfl;have hfz9_0:=blk_frozen BK158.out 0;have hfz9_1:=blk_frozen BK158.out 1;have hfz9_2:=blk_frozen BK158.out 2;have hfz9_3:=blk_frozen BK158.out 3))
 refine bodyPost_ret (results_cell_row rfl _ _ gb158 29 #[.slice Ao8 t159.length co8,.int .i64 t162,.int .i64 t163,.int .i64 t164] (0,0) _ rfl (by (with_reducible repeat (first|refine blk_drewN ?_ _|refine blk_drew ?_|refine blk_alloc ?_ _));refine blk_put (cs:=#[.slice Ao8 t159.length co8,.int .i64 t162,.int .i64 t163,.int .i64 0]) ?_ 3 _ rfl;(with_reducible repeat (first|refine blk_drewN ?_ _|refine blk_drew ?_|refine blk_alloc ?_ _));refine blk_put (cs:=#[.slice Ao8 t159.length co8,.int .i64 t162,.int .i64 0,.int .i64 0]) ?_ 2 _ rfl;(with_reducible repeat (first|refine blk_drewN ?_ _|refine blk_drew ?_|refine blk_alloc ?_ _));refine blk_put (cs:=#[.slice Ao8 t159.length co8,.int .i64 0,.int .i64 0,.int .i64 0]) ?_ 1 _ rfl;(with_reducible repeat (first|refine blk_drewN ?_ _|refine blk_drew ?_|refine blk_alloc ?_ _));refine blk_put (cs:=#[.slice none 0 0,.int .i64 0,.int .i64 0,.int .i64 0]) ?_ 0 _ rfl;(with_reducible repeat (first|refine blk_drewN ?_ _|refine blk_drew ?_|refine blk_alloc ?_ _));exact BK158.out) Try.underlying29 rfl (by kernel_rfl)) rfl ?_
 exact ⟨_,by first|rfl|(simp [errW_none,errW_some] <;> rfl)|(simp [*,errW_none,errW_some] <;> rfl),by (with_reducible repeat (first|apply Kd.R_alloc|apply Kd.R_drewN|apply Kd.R_drew));exact Kd.R_mono (Kd.R_far (p:=⟨gb158,3,none⟩) (Kd.R_far (p:=⟨gb158,2,none⟩) (Kd.R_far (p:=⟨gb158,1,none⟩) (Kd.R_far (p:=⟨gb158,0,none⟩) (Kd.R_types HO161.out BK158.out (by decide)) (fun _ hk=>hk.2) (.slice Ao8 t159.length co8)) (fun _ hk=>hk.2) (.int .i64 t162)) (fun _ hk=>hk.2) (.int .i64 t163)) (fun _ hk=>hk.2) (.int .i64 t164)) (fun _ hk=>trivial),by repeat (first|(with_reducible first|exact HB.out|apply below_alloc|apply pw_below_drewN|apply below_drew1|refine below_set ?_ GE157.out|refine below_set ?_ GE158.out)|exact HB.out)⟩
mutual
def thresherref04_Fit.l0 : Nat→List (S40)→List (S40)→Int→List Int→Int→Int→Int→Option ((List (S40)))
 | 0,_,_,_,_,_,_,_=>none
 | k + 1,x1,x5,x6,x166000,x166001,x166002,x166003=>if x6 < (x166000.length : Int) then (if x6 < (x1.length : Int) then (if 0≤x6 then (thresherref04_Fit.j1 k x1 x5 x6 x166000 x166001 x166002 x166003 ((rd_T40 x1 x6).f0) ((rd_T40 x1 x6).f1)) else (none)) else (thresherref04_Fit.j1 k x1 x5 x6 x166000 x166001 x166002 x166003 0 (⟨#[]⟩ : ByteArray))) else (some x5)
def thresherref04_Fit.j1 : Nat→List (S40)→List (S40)→Int→List Int→Int→Int→Int→Int→ByteArray→Option ((List (S40)))
 | 0,_,_,_,_,_,_,_,_,_=>none
 | k + 1,x1,x5,x6,x166000,x166001,x166002,x166003,x170000,x170001=>if 0≤x6 then (if x6 < (x166000.length : Int) then (if (rd x166000 x6)=3 then (if (x170001.size : Int) > 60 then (if 0≤60 then (if 60≤(x170001.size : Int) then (if x5.length < 5864062014805 then (thresherref04_Fit.l0 k x1 (x5 ++ [(⟨0,x170001.extract 0 60⟩ : S40)]) (wrap64 (x6 + 1)) x166000 x166001 x166002 x166003) else (none)) else (none)) else (none)) else (if x5.length < 5864062014805 then (thresherref04_Fit.l0 k x1 (x5 ++ [(⟨0,x170001⟩ : S40)]) (wrap64 (x6 + 1)) x166000 x166001 x166002 x166003) else (none))) else (if x5.length < 5864062014805 then (thresherref04_Fit.l0 k x1 (x5 ++ [(⟨x170000,(⟨#[]⟩ : ByteArray)⟩ : S40)]) (wrap64 (x6 + 1)) x166000 x166001 x166002 x166003) else (none))) else (none)) else (none)
end
def thresherref04_Fit.f (k : Nat) (l0_0 : List Int) (a0_1 : Int) (a0_2 : Int) (a0_3 : Int) (l1 : List (S40)) : Option ((List (S40))):=thresherref04_Fit.l0 k l1 (([] : List (S40))) 0 l0_0 a0_1 a0_2 a0_3
theorem thresherref04_Fit.mono_l : ∀ k,(∀ y0 y1 y2 y3 y4 y5 y6,LeO (thresherref04_Fit.l0 k y0 y1 y2 y3 y4 y5 y6) (thresherref04_Fit.l0 (k + 1) y0 y1 y2 y3 y4 y5 y6))∧(∀ y0 y1 y2 y3 y4 y5 y6 y7 y8,LeO (thresherref04_Fit.j1 k y0 y1 y2 y3 y4 y5 y6 y7 y8) (thresherref04_Fit.j1 (k + 1) y0 y1 y2 y3 y4 y5 y6 y7 y8))
 | 0=>⟨fun _ _ _ _ _ _ _ r h=>by simp [thresherref04_Fit.l0] at h,fun _ _ _ _ _ _ _ _ _ r h=>by simp [thresherref04_Fit.j1] at h⟩
 | k + 1=>by
  obtain ⟨ih0,ih1⟩:=thresherref04_Fit.mono_l k
  refine ⟨?_,?_⟩
  ·intro y0 y1 y2 y3 y4 y5 y6
   unfold thresherref04_Fit.l0
   repeat' first
   | (with_reducible exact ih0 _ _ _ _ _ _ _)
   | (with_reducible exact ih1 _ _ _ _ _ _ _ _ _)
   | (with_reducible exact LeO.refl _)
   | (with_reducible exact LeO.none _)
   | (with_reducible refine LeO.ite ?_ ?_)
   | (with_reducible refine LeO.bind ?_ (fun _=>?_))
   | exact ih0 _ _ _ _ _ _ _
   | exact ih1 _ _ _ _ _ _ _ _ _
   | exact LeO.none _
   | refine LeO.ite ?_ ?_
   | refine LeO.bind ?_ (fun _=>?_)
  ·intro y0 y1 y2 y3 y4 y5 y6 y7 y8
   unfold thresherref04_Fit.j1
   repeat' first
   | (with_reducible exact ih0 _ _ _ _ _ _ _)
   | (with_reducible exact ih1 _ _ _ _ _ _ _ _ _)
   | (with_reducible exact LeO.refl _)
   | (with_reducible exact LeO.none _)
   | (with_reducible refine LeO.ite ?_ ?_)
   | (with_reducible refine LeO.bind ?_ (fun _=>?_))
   | exact ih0 _ _ _ _ _ _ _
   | exact ih1 _ _ _ _ _ _ _ _ _
   | exact LeO.none _
   | refine LeO.ite ?_ ?_
   | refine LeO.bind ?_ (fun _=>?_)
theorem thresherref04_Fit.mono : ∀ a0 a1 a2 a3 a4 k,LeO (thresherref04_Fit.f k a0 a1 a2 a3 a4) (thresherref04_Fit.f (k + 1) a0 a1 a2 a3 a4):=by
 intro a0 a1 a2 a3 a4 k
 obtain ⟨ih0,ih1⟩:=thresherref04_Fit.mono_l k
 unfold thresherref04_Fit.f
 repeat' first
   | (with_reducible exact ih0 _ _ _ _ _ _ _)
   | (with_reducible exact ih1 _ _ _ _ _ _ _ _ _)
   | (with_reducible exact LeO.refl _)
   | (with_reducible exact LeO.none _)
   | (with_reducible refine LeO.ite ?_ ?_)
   | (with_reducible refine LeO.bind ?_ (fun _=>?_))
   | exact ih0 _ _ _ _ _ _ _
   | exact ih1 _ _ _ _ _ _ _ _ _
   | exact LeO.none _
   | refine LeO.ite ?_ ?_
   | refine LeO.bind ?_ (fun _=>?_)
set_option maxHeartbeats 8000000 in
set_option maxRecDepth 100000 in
theorem thresherref04_Fit.calls (k : Nat) (A0_0 : Option Addr) (c0_0 : Nat) (l0_0 : List Int) (a0_1 : Int) (a0_2 : Int) (a0_3 : Int) (A1 : Option Addr) (c1 : Nat) (l1 : List (S40)) (r : List (S40)) (w : World) (hr0_0 : Kd.C (Kd.int .i64) w A0_0 l0_0.length l0_0) (hc0_0 : l0_0.length≤c0_0) (hr1 : Kd.C k40 w A1 l1.length l1) (hc1 : l1.length≤c1) (h : thresherref04_Fit.f k l0_0 a0_1 a0_2 a0_3 l1=some r) :
  Calls Try.prog 20 #[.agg #[.slice A0_0 l0_0.length c0_0,.int .i64 a0_1,.int .i64 a0_2,.int .i64 a0_3],.slice A1 l1.length c1] w fun e w'=>∃ v0_ : Value,e=.returned (v0_)∧Kd.R k40 40 w' w.heap.size (fun _=>True) v0_ r∧Below w.heap.size w w':=by
 have hu29:=Try.underlying29
 have hu40:=Try.underlying40
 have HR0_0:=Aside0.mk hr0_0
 have HC0_0:=Aside0.mk hc0_0
 clear hr0_0 hc0_0
 have HR1:=Aside0.mk hr1
 have HC1:=Aside0.mk hc1
 clear hr1 hc1
 have HB:=Aside0.mk (Below.refl w.heap.size w)
 have H : (thresherref04_Fit.l0 k l1 (([] : List (S40))) 0 l0_0 a0_1 a0_2 a0_3)=some r:=h
 clear h
 obtain ⟨y166,hy166⟩ : ∃ y_ : List (S40),y_=(([] : List (S40))):=⟨_,rfl⟩
 replace H : (thresherref04_Fit.l0 k l1 y166 0 l0_0 a0_1 a0_2 a0_3)=some r:=by first|(rw [hy166];with_reducible exact H)|(have H2_:=(Option.bind_some _ _).symm.trans H;rw [hy166];with_reducible exact H2_)|(have H2_:=(Option.bind_some _ _).symm.trans H;with_reducible exact H2_)|with_reducible exact H|(rw [hy166];exact H)|exact H
 have Ny166:=Aside0.mk hy166
 clear hy166
 have H':=Aside0.mk H
 clear H
 go_enter Try.func20,Try.ntmps20
 go_wp2_with (first|((with_reducible refine gate_dst (N:=2) rfl ?_);refine box_event ?hg (N:=2) ?hd (cs:=#[.slice A0_0 l0_0.length c0_0,.int .i64 a0_1,.int .i64 a0_2,.int .i64 a0_3]) (t:=29) ?hr ?_;(case hd=>rfl);(case hg=>rfl);(case hr=>first|(go_simp;done)|(go_simp;rfl));intro gb165 hg w3 hbox hb;have n0_:=Aside0.mk (below_step (below_up HB.out) hb);have n1_:=Aside0.mk (hbox);have n2_:=Aside0.mk ((by rw [hg];exact (below_size (below_up HB.out)) : w.heap.size≤gb165));have n3_:=Aside0.mk ((by rw [hg];exact (below_size (below_up HB.out)) : w.heap.size≤gb165));clear HB;have HB:=n0_;have BK165:=n1_;have GW165:=n2_;have GE165:=n3_;clear n0_ n1_ n2_ n3_;clear hb hbox hg)|((with_reducible refine gate_dst (N:=9) rfl ?_);refine Kd.R_lit k40 _ 40 ?hg (N:=9) ?hd (xs:=([] : List (S40))) (inner:=[]) (ok:=fun _=>True) (okp:=fun _=>True) ?hr ?hp (fun _ hk=>hk) trivial (Below.refl _ _) (Nat.le_refl _) (by simp) ?_;(case hd=>rfl);(case hg=>rfl);(case hr=>first|(go_simp;done)|(go_simp;rfl));(case hp=>exact (Reps.none _ _));intro v167 w4 ho5 hb hg_ hnew_;clear hg_ hnew_;(first|rw [← Ny166.out] at ho5|(simp only [Int.reduceToNat] at ho5;rw [← Ny166.out] at ho5));have n0_:=Aside0.mk (Kd.R_lower ho5 (below_size (below_go HB.out)));have n1_:=Aside0.mk (blk_below (blk_up BK165.out) hb);have n2_:=Aside0.mk (below_step (below_go HB.out) hb);clear BK165;clear HB;have HO168:=n0_;have BK165:=n1_;have HB:=n2_;clear n0_ n1_ n2_;clear hb ho5))
 go_loopg [5,6] k (fun kq v5 v6 w'=>∃ (x5_1 : List (S40)) (x6_1 : Int),v6=.int .i64 x6_1∧Aside0 (thresherref04_Fit.l0 kq l1 x5_1 x6_1 l0_0 a0_1 a0_2 a0_3=some r)∧Aside0 (kq≤k)∧Aside0 (Kd.R k40 40 w' w.heap.size (fun _=>True) v5 x5_1)∧Aside0 (w'.heap[gb165]?=some (.cells #[(.slice A0_0 l0_0.length c0_0),.int .i64 a0_1,.int .i64 a0_2,.int .i64 a0_3] 29 (0,0)))∧Aside0 (Below w.heap.size w w'))
 case atStart=>exact ⟨(y166),(0),(by first|rfl|(simp;done)|(simp [*];done)),H',⟨Nat.le_refl _⟩,⟨by (with_reducible repeat (first|apply Kd.R_alloc|apply Kd.R_drewN|apply Kd.R_drew));exact HO168.out⟩,⟨by (with_reducible repeat (first|refine blk_drewN ?_ _|refine blk_drew ?_|refine blk_alloc ?_ _));exact BK165.out⟩,⟨by repeat (first|(with_reducible first|exact HB.out|apply below_alloc|apply pw_below_drewN|apply below_drew1|refine below_set ?_ GE165.out)|exact HB.out)⟩⟩
 case round =>
  clear H'
  try clear c1
  try clear c2
  try clear p2
  obtain ⟨x5_1,x6_1,rfl,HA,HK1,HO_5,BK165,HB⟩:=hrel
  cases gk with
  | zero=>exact absurd HA.out (by simp [thresherref04_Fit.l0])
  | succ k1 =>
   have H:=HA.out
   clear HA
   simp only [thresherref04_Fit.l0] at H
   by_cases c6 : x6_1 < (l0_0.length : Int)
   ·rw [if_pos c6] at H
    have c6b0 : decide (x6_1 < (l0_0.length : Int))=true:=decide_eq_true c6
    clear c6
    have HC7:=Aside0.mk H
    clear H
    have hcz8_0 : wr.cell? ⟨gb165,0,none⟩=some (.slice A0_0 l0_0.length c0_0):=(blk_cell BK165.out 0).trans rfl
    have hcz8_1 : wr.cell? ⟨gb165,1,none⟩=some (.int .i64 a0_1):=(blk_cell BK165.out 1).trans rfl
    have hcz8_2 : wr.cell? ⟨gb165,2,none⟩=some (.int .i64 a0_2):=(blk_cell BK165.out 2).trans rfl
    have hcz8_3 : wr.cell? ⟨gb165,3,none⟩=some (.int .i64 a0_3):=(blk_cell BK165.out 3).trans rfl
    have hfz8_0:=blk_frozen BK165.out 0
    have hfz8_1:=blk_frozen BK165.out 1
    have hfz8_2:=blk_frozen BK165.out 2
    have hfz8_3:=blk_frozen BK165.out 3
    go_upto_if 21 with (first|((with_reducible refine gate_dst (N:=7) rfl ?_);refine box_event ?hg (N:=7) ?hd (cs:=#[.int .i64 0,.string (⟨#[]⟩ : ByteArray)]) (t:=40) ?hr ?_;(case hd=>rfl);(case hg=>rfl);(case hr=>first|(go_simp;done)|(go_simp;rfl));intro gb169 hg w9 hbox hb;have n0_:=Aside0.mk (Kd.R_below (Kd.R_elderB (R_up HO_5.out) gb169 (Nat.le_of_eq hg.symm)) hb);have n1_:=Aside0.mk (blk_below (blk_up BK165.out) hb);have n2_:=Aside0.mk (below_step (below_go HB.out) hb);have n3_:=Aside0.mk (hbox);have n4_:=Aside0.mk ((by rw [hg];exact (below_size (below_go HB.out)) : w.heap.size≤gb169));have n5_:=Aside0.mk ((by rw [hg];exact (below_size (below_go HB.out)) : w.heap.size≤gb169));have n6_:=Aside0.mk ((by rw [hg];exact Nat.ne_of_lt (blk_lt (blk_up BK165.out)) : gb165≠gb169));have n7_:=Aside0.mk ((by rw [hg];exact Nat.ne_of_gt (blk_lt (blk_up BK165.out)) : gb169≠gb165));clear HO_5;clear BK165;clear HB;have HO_5:=n0_;have BK165:=n1_;have HB:=n2_;have BK169:=n3_;have GW169:=n4_;have GE169:=n5_;have NB165_169:=n6_;have NB169_165:=n7_;clear n0_ n1_ n2_ n3_ n4_ n5_ n6_ n7_;clear hb hbox hg;have hnb10:=NB169_165.out;have hnc10:=NB165_169.out;have hcz11_0 : w9.cell? ⟨gb169,0,none⟩=some (.int .i64 0):=(blk_cell BK169.out 0).trans rfl;have hcz11_1 : w9.cell? ⟨gb169,1,none⟩=some (.string (⟨#[]⟩ : ByteArray)):=(blk_cell BK169.out 1).trans rfl;have hfz11_0:=blk_frozen BK169.out 0;have hfz11_1:=blk_frozen BK169.out 1))
    (try simp only [Act.put,List.setIfInBounds_toArray,List.set_cons_zero,List.set_cons_succ])
    go_cut [] (fun wc=>∃ (kq : Nat) (x170000_6 : Int) (x170001_6 : ByteArray),Aside0 (thresherref04_Fit.j1 kq l1 x5_1 x6_1 l0_0 a0_1 a0_2 a0_3 x170000_6 x170001_6=some r)∧Aside0 (kq≤k1)∧Aside0 (Kd.R k40 40 wc w.heap.size (fun k_=>k_≠gb169) u5 x5_1)∧Aside0 (wc.heap[gb165]?=some (.cells #[(.slice A0_0 l0_0.length c0_0),.int .i64 a0_1,.int .i64 a0_2,.int .i64 a0_3] 29 (0,0)))∧Aside0 (wc.heap[gb169]?=some (.cells #[.int .i64 x170000_6,.string x170001_6] 40 (0,0)))∧Aside0 (Below w.heap.size w wc))
    case first =>
     have H:=HC7.out
     clear HC7
     by_cases c12 : x6_1 < (l1.length : Int)
     ·rw [if_pos c12] at H
      have c12b0 : decide (x6_1 < (l1.length : Int))=true:=decide_eq_true c12
      clear c12
      (first|rw [c12b0]|(simp only [i64_w,i32_w];rw [c12b0])|skip)
      by_cases c13 : 0≤x6_1
      ·rw [if_pos c13] at H
       have c13b0 : decide (0≤x6_1)=true:=decide_eq_true c13
       clear c13
       have H':=Aside0.mk H
       clear H
       have p170 : 0≤(x6_1 : Int):=of_decide_eq_true (by first|(with_reducible assumption)|assumption)
       have q170 : x6_1 < (l1.length : Int):=of_decide_eq_true (by first|(with_reducible assumption)|assumption)
       obtain ⟨ad170,e170,hx170_0,hx170_1⟩:=at_T40 HR1.out x6_1 p170 q170
       cases e170
       have hn170_0 : ad170.block≠gb169:=Nat.ne_of_lt (Nat.lt_of_lt_of_le (by have:=World.block_lt_of_cell? _ _ hx170_0;first|rwa [add_block] at this|exact this) GW169.out)
       have hn170_1 : ad170.block≠gb169:=Nat.ne_of_lt (Nat.lt_of_lt_of_le (by have:=World.block_lt_of_cell? _ _ hx170_0;first|rwa [add_block] at this|exact this) GW169.out)
       replace hx170_0:=(HB.out.cell (World.block_lt_of_cell? w _ hx170_0)).trans hx170_0
       replace hx170_1:=(HB.out.cell (World.block_lt_of_cell? w _ hx170_1)).trans hx170_1
       replace hx170_0:=(cell_far (p:=⟨gb169,0,none⟩) (by first|(rw [add_block];exact hn170_0)|(show (Addr.add _ _).block≠_;rw [add_block];exact hn170_0)|exact hn170_0) (.int .i64 0)).trans hx170_0
       replace hx170_1:=(cell_far (p:=⟨gb169,0,none⟩) (by first|(rw [add_block];exact hn170_0)|(show (Addr.add _ _).block≠_;rw [add_block];exact hn170_0)|exact hn170_0) (.int .i64 0)).trans hx170_1
       replace hx170_0:=(cell_far (p:=⟨gb169,1,none⟩) (by first|(rw [add_block];exact hn170_1)|(show (Addr.add _ _).block≠_;rw [add_block];exact hn170_1)|exact hn170_1) (.string (⟨#[]⟩ : ByteArray))).trans hx170_0
       replace hx170_1:=(cell_far (p:=⟨gb169,1,none⟩) (by first|(rw [add_block];exact hn170_1)|(show (Addr.add _ _).block≠_;rw [add_block];exact hn170_1)|exact hn170_1) (.string (⟨#[]⟩ : ByteArray))).trans hx170_1
       clear hn170_0
       clear hn170_1
       replace p170:=eq_true p170
       replace q170:=eq_true q170
       have hnb14:=NB169_165.out
       have hnc14:=NB165_169.out
       have hcz15_0 : w9.cell? ⟨gb169,0,none⟩=some (.int .i64 0):=(blk_cell BK169.out 0).trans rfl
       have hcz15_1 : w9.cell? ⟨gb169,1,none⟩=some (.string (⟨#[]⟩ : ByteArray)):=(blk_cell BK169.out 1).trans rfl
       have hfz15_0:=blk_frozen BK169.out 0
       have hfz15_1:=blk_frozen BK169.out 1
       go_wp2
       go_meet
       case rel=>exact ⟨_,((rd_T40 l1 x6_1).f0),((rd_T40 l1 x6_1).f1),(by first|exact H'|(subst_vars;exact H')),⟨by have:=HK1.out;first|omega|exact Nat.le_refl _⟩,⟨by (with_reducible repeat (first|apply Kd.R_alloc|apply Kd.R_drewN|apply Kd.R_drew));exact Kd.R_mono (Kd.R_far (p:=⟨gb169,1,none⟩) (Kd.R_far (p:=⟨gb169,0,none⟩) (Kd.R_far (p:=⟨gb169,1,none⟩) (Kd.R_far (p:=⟨gb169,0,none⟩) (Kd.R_mono HO_5.out (fun k_ hk=>(⟨hk,hk.2⟩ : _∧k_≠gb169))) (fun _ hk=>hk.2) (.int .i64 0)) (fun _ hk=>hk.2) (.string (⟨#[]⟩ : ByteArray))) (fun _ hk=>hk.2) (.int .i64 ((rd_T40 l1 x6_1).f0))) (fun _ hk=>hk.2) (.string ((rd_T40 l1 x6_1).f1))) (fun _ hk=>hk.1.2)⟩,⟨by (with_reducible repeat (first|refine blk_drewN ?_ _|refine blk_drew ?_|refine blk_alloc ?_ _));refine blk_far ?_ NB165_169.out _;(with_reducible repeat (first|refine blk_drewN ?_ _|refine blk_drew ?_|refine blk_alloc ?_ _));refine blk_far ?_ NB165_169.out _;(with_reducible repeat (first|refine blk_drewN ?_ _|refine blk_drew ?_|refine blk_alloc ?_ _));refine blk_far ?_ NB165_169.out _;(with_reducible repeat (first|refine blk_drewN ?_ _|refine blk_drew ?_|refine blk_alloc ?_ _));refine blk_far ?_ NB165_169.out _;(with_reducible repeat (first|refine blk_drewN ?_ _|refine blk_drew ?_|refine blk_alloc ?_ _));exact BK165.out⟩,⟨by (with_reducible repeat (first|refine blk_drewN ?_ _|refine blk_drew ?_|refine blk_alloc ?_ _));refine blk_put (cs:=#[.int .i64 ((rd_T40 l1 x6_1).f0),.string (⟨#[]⟩ : ByteArray)]) ?_ 1 _ rfl;(with_reducible repeat (first|refine blk_drewN ?_ _|refine blk_drew ?_|refine blk_alloc ?_ _));refine blk_put (cs:=#[.int .i64 0,.string (⟨#[]⟩ : ByteArray)]) ?_ 0 _ rfl;(with_reducible repeat (first|refine blk_drewN ?_ _|refine blk_drew ?_|refine blk_alloc ?_ _));refine blk_put (cs:=#[.int .i64 0,.string (⟨#[]⟩ : ByteArray)]) ?_ 1 _ rfl;(with_reducible repeat (first|refine blk_drewN ?_ _|refine blk_drew ?_|refine blk_alloc ?_ _));refine blk_put (cs:=#[.int .i64 0,.string (⟨#[]⟩ : ByteArray)]) ?_ 0 _ rfl;(with_reducible repeat (first|refine blk_drewN ?_ _|refine blk_drew ?_|refine blk_alloc ?_ _));exact BK169.out⟩,⟨by repeat (first|(with_reducible first|exact HB.out|apply below_alloc|apply pw_below_drewN|apply below_drew1|refine below_set ?_ GE165.out|refine below_set ?_ GE169.out)|exact HB.out)⟩⟩
      ·rw [if_neg c13] at H
       exact absurd H (by simp)
     ·rw [if_neg c12] at H
      have c12b0 : decide (x6_1 < (l1.length : Int))=false:=decide_eq_false c12
      clear c12
      (first|rw [c12b0]|(simp only [i64_w,i32_w];rw [c12b0])|skip)
      have H':=Aside0.mk H
      clear H
      go_wp2
      go_meet
      case rel=>exact ⟨_,(0),((⟨#[]⟩ : ByteArray)),(by first|exact H'|(subst_vars;exact H')),⟨by have:=HK1.out;first|omega|exact Nat.le_refl _⟩,⟨by (with_reducible repeat (first|apply Kd.R_alloc|apply Kd.R_drewN|apply Kd.R_drew));exact Kd.R_mono (Kd.R_far (p:=⟨gb169,1,none⟩) (Kd.R_far (p:=⟨gb169,0,none⟩) (Kd.R_mono HO_5.out (fun k_ hk=>(⟨hk,hk.2⟩ : _∧k_≠gb169))) (fun _ hk=>hk.2) (.int .i64 0)) (fun _ hk=>hk.2) (.string (⟨#[]⟩ : ByteArray))) (fun _ hk=>hk.1.2)⟩,⟨by (with_reducible repeat (first|refine blk_drewN ?_ _|refine blk_drew ?_|refine blk_alloc ?_ _));refine blk_far ?_ NB165_169.out _;(with_reducible repeat (first|refine blk_drewN ?_ _|refine blk_drew ?_|refine blk_alloc ?_ _));refine blk_far ?_ NB165_169.out _;(with_reducible repeat (first|refine blk_drewN ?_ _|refine blk_drew ?_|refine blk_alloc ?_ _));exact BK165.out⟩,⟨by (with_reducible repeat (first|refine blk_drewN ?_ _|refine blk_drew ?_|refine blk_alloc ?_ _));refine blk_put (cs:=#[.int .i64 0,.string (⟨#[]⟩ : ByteArray)]) ?_ 1 _ rfl;(with_reducible repeat (first|refine blk_drewN ?_ _|refine blk_drew ?_|refine blk_alloc ?_ _));refine blk_put (cs:=#[.int .i64 0,.string (⟨#[]⟩ : ByteArray)]) ?_ 0 _ rfl;(with_reducible repeat (first|refine blk_drewN ?_ _|refine blk_drew ?_|refine blk_alloc ?_ _));exact BK169.out⟩,⟨by repeat (first|(with_reducible first|exact HB.out|apply below_alloc|apply pw_below_drewN|apply below_drew1|refine below_set ?_ GE165.out|refine below_set ?_ GE169.out)|exact HB.out)⟩⟩
    case rest =>
     clear HC7
     try clear c1
     try clear p1
     try clear q1
     try clear hx1
     try clear c2
     try clear p2
     try clear c6
     try clear c6b0
     try clear c10
     try clear c12
     try clear c12b0
     try clear c13
     try clear c13b0
     try clear c14
     try clear hcz11_0
     try clear hcz11_1
     try clear hcz15_0
     try clear hcz15_1
     try clear hcz8_0
     try clear hcz8_1
     try clear hcz8_2
     try clear hcz8_3
     try clear hfz11_0
     try clear hfz11_1
     try clear hfz15_0
     try clear hfz15_1
     try clear hfz8_0
     try clear hfz8_1
     try clear hfz8_2
     try clear hfz8_3
     try clear hx170_0
     try clear hx170_1
     try clear p170
     try clear p2
     try clear q170
     obtain ⟨kq,x170000_6,x170001_6,HA,HJ6,HO_5,BK165,BK169,HB⟩:=hcut
     cases kq with
     | zero=>exact absurd HA.out (by simp [thresherref04_Fit.j1])
     | succ kj6 =>
      have H:=HA.out
      clear HA
      simp only [thresherref04_Fit.j1] at H
      by_cases c16 : 0≤x6_1
      ·rw [if_pos c16] at H
       have c16b0 : decide (0≤x6_1)=true:=decide_eq_true c16
       clear c16
       by_cases c17 : x6_1 < (l0_0.length : Int)
       ·rw [if_pos c17] at H
        have c17b0 : decide (x6_1 < (l0_0.length : Int))=true:=decide_eq_true c17
        clear c17
        by_cases c18 : (rd l0_0 x6_1)=3
        ·rw [if_pos c18] at H
         have c18b0 : ((rd l0_0 x6_1) == 3)=true:=beq_iff_eq.mpr c18
         have c18b1 : ((rd l0_0 x6_1) != 3)=false:=bne_eq_false_iff_eq.mpr c18
         clear c18
         by_cases c19 : (x170001_6.size : Int) > 60
         ·rw [if_pos c19] at H
          have c19b0 : decide (60 < (x170001_6.size : Int))=true:=decide_eq_true c19
          have c19b1 : decide (60 < x170001_6.size)=true:=decide_eq_true (by omega)
          clear c19
          by_cases c20 : 0≤60
          ·rw [if_pos c20] at H
           have c20b0:=eq_true c20
           have c20b1 : decide (0≤60)=true:=decide_eq_true c20
           clear c20
           by_cases c21 : 60≤(x170001_6.size : Int)
           ·rw [if_pos c21] at H
            have c21b0:=eq_true c21
            have c21b1 : decide (60≤(x170001_6.size : Int))=true:=decide_eq_true c21
            clear c21
            by_cases c22 : x5_1.length < 5864062014805
            ·rw [if_pos c22] at H
             have LMc22:=Aside0.mk c22
             clear c22
             obtain ⟨y172,hy172⟩ : ∃ y_ : List (S40),y_=(x5_1 ++ [(⟨0,x170001_6.extract 0 60⟩ : S40)]):=⟨_,rfl⟩
             replace H : (thresherref04_Fit.l0 kj6 l1 y172 (wrap64 (x6_1 + 1)) l0_0 a0_1 a0_2 a0_3)=some r:=by first|(rw [hy172];with_reducible exact H)|(have H2_:=(Option.bind_some _ _).symm.trans H;rw [hy172];with_reducible exact H2_)|(have H2_:=(Option.bind_some _ _).symm.trans H;with_reducible exact H2_)|with_reducible exact H|(rw [hy172];exact H)|exact H
             have Ny172:=Aside0.mk hy172
             clear hy172
             have H':=Aside0.mk H
             clear H
             have hnb23:=NB165_169.out
             have hnc23:=NB169_165.out
             have hcz24_0 : wc.cell? ⟨gb165,0,none⟩=some (.slice A0_0 l0_0.length c0_0):=(blk_cell BK165.out 0).trans rfl
             have hcz24_1 : wc.cell? ⟨gb165,1,none⟩=some (.int .i64 a0_1):=(blk_cell BK165.out 1).trans rfl
             have hcz24_2 : wc.cell? ⟨gb165,2,none⟩=some (.int .i64 a0_2):=(blk_cell BK165.out 2).trans rfl
             have hcz24_3 : wc.cell? ⟨gb165,3,none⟩=some (.int .i64 a0_3):=(blk_cell BK165.out 3).trans rfl
             have hfz24_0:=blk_frozen BK165.out 0
             have hfz24_1:=blk_frozen BK165.out 1
             have hfz24_2:=blk_frozen BK165.out 2
             have hfz24_3:=blk_frozen BK165.out 3
             have p171 : 0≤(x6_1 : Int):=of_decide_eq_true (by first|(with_reducible assumption)|assumption)
             have q171 : x6_1 < (l0_0.length : Int):=of_decide_eq_true (by first|(with_reducible assumption)|assumption)
             obtain ⟨ad171,e171,hx171_0⟩:=Kd.at_int HR0_0.out x6_1 p171 q171
             cases e171
             replace hx171_0:=(HB.out.cell (World.block_lt_of_cell? w _ hx171_0)).trans hx171_0
             replace p171:=eq_true p171
             replace q171:=eq_true q171
             have hcz25_0 : wc.cell? ⟨gb169,0,none⟩=some (.int .i64 x170000_6):=(blk_cell BK169.out 0).trans rfl
             have hcz25_1 : wc.cell? ⟨gb169,1,none⟩=some (.string x170001_6):=(blk_cell BK169.out 1).trans rfl
             have hfz25_0:=blk_frozen BK169.out 0
             have hfz25_1:=blk_frozen BK169.out 1
             go_wp2_with (first|((with_reducible refine gate_builtin (b:=.append) (xs:=#[.tmp 39,.tmp 42]) rfl ?_);at_builtin;refine Kd.R_append k40 (w0:=w) w.heap.size rfl (.tmp 39) (.tmp 42) 44 40 (.agg #[(.int .i64 0),(.string ⟨#[]⟩)]) 24 rfl Try.underlying44 info40 rfl (by decide) (by omega) u5 x5_1 (⟨0,x170001_6.extract 0 60⟩ : S40) [.int .i64 0,.string (x170001_6.extract 0 60)] (fun k_=>k_≠gb169) (fun _=>False) rfl rfl ?aP (fun _ hk=>hk.elim) ?aF ?aO ?aB ?aS ?aL ?_;(case aP=>exact k40_mkM _ _ _ (⟨0,x170001_6.extract 0 60⟩ : S40));(case aB=>exact (below_go HB.out));(case aF=>exact (fun k_ hk=>Kd.freshB (blk_up BK169.out) k_ hk));(case aO=>exact (R_up HO_5.out));(case aS=>exact (below_size (below_go HB.out)));(case aL=>have:=LMc22.out;omega);intro v173 w26 ho hb hg hat;rw [← Ny172.out] at ho;have n0_:=Aside0.mk (blk_grown (blk_up BK165.out) hg (Kd.R_ne HO_5.out BK165.out (by decide)));have n1_:=Aside0.mk (blk_grown (blk_up BK169.out) hg (Kd.R_away HO_5.out (fun _ hk=>hk)));have n2_:=Aside0.mk (hb);have n3_:=Aside0.mk (ho);clear BK165;clear BK169;clear HB;clear HO_5;have BK165:=n0_;have BK169:=n1_;have HB:=n2_;have HO174:=n3_;clear n0_ n1_ n2_ n3_;clear ho hb hg hat))
             go_roundg kj6
             case measure=>have:=HK1.out;have:=HJ6.out;omega
             case rel=>exact ⟨(y172),(wrap64 (x6_1 + 1)),(by first|rfl|(simp;done)|(simp [*];done)),(by first|exact H'|(subst_vars;exact H')),⟨by have:=HK1.out;have:=HJ6.out;omega⟩,⟨by (with_reducible repeat (first|apply Kd.R_alloc|apply Kd.R_drewN|apply Kd.R_drew));exact Kd.R_mono HO174.out (fun _ hk=>trivial)⟩,⟨by (with_reducible repeat (first|refine blk_drewN ?_ _|refine blk_drew ?_|refine blk_alloc ?_ _));exact BK165.out⟩,⟨by repeat (first|(with_reducible first|exact HB.out|apply below_alloc|apply pw_below_drewN|apply below_drew1|refine below_set ?_ GE165.out|refine below_set ?_ GE169.out)|exact HB.out)⟩⟩
            ·rw [if_neg c22] at H
             exact absurd H (by simp)
           ·rw [if_neg c21] at H
            exact absurd H (by simp)
          ·rw [if_neg c20] at H
           exact absurd H (by simp)
         ·rw [if_neg c19] at H
          have c19b0 : decide (60 < (x170001_6.size : Int))=false:=decide_eq_false c19
          have c19b1 : decide (60 < x170001_6.size)=false:=decide_eq_false (by omega)
          clear c19
          by_cases c27 : x5_1.length < 5864062014805
          ·rw [if_pos c27] at H
           have LMc27:=Aside0.mk c27
           clear c27
           obtain ⟨y175,hy175⟩ : ∃ y_ : List (S40),y_=(x5_1 ++ [(⟨0,x170001_6⟩ : S40)]):=⟨_,rfl⟩
           replace H : (thresherref04_Fit.l0 kj6 l1 y175 (wrap64 (x6_1 + 1)) l0_0 a0_1 a0_2 a0_3)=some r:=by first|(rw [hy175];with_reducible exact H)|(have H2_:=(Option.bind_some _ _).symm.trans H;rw [hy175];with_reducible exact H2_)|(have H2_:=(Option.bind_some _ _).symm.trans H;with_reducible exact H2_)|with_reducible exact H|(rw [hy175];exact H)|exact H
           have Ny175:=Aside0.mk hy175
           clear hy175
           have H':=Aside0.mk H
           clear H
           have hnb28:=NB165_169.out
           have hnc28:=NB169_165.out
           have hcz29_0 : wc.cell? ⟨gb165,0,none⟩=some (.slice A0_0 l0_0.length c0_0):=(blk_cell BK165.out 0).trans rfl
           have hcz29_1 : wc.cell? ⟨gb165,1,none⟩=some (.int .i64 a0_1):=(blk_cell BK165.out 1).trans rfl
           have hcz29_2 : wc.cell? ⟨gb165,2,none⟩=some (.int .i64 a0_2):=(blk_cell BK165.out 2).trans rfl
           have hcz29_3 : wc.cell? ⟨gb165,3,none⟩=some (.int .i64 a0_3):=(blk_cell BK165.out 3).trans rfl
           have hfz29_0:=blk_frozen BK165.out 0
           have hfz29_1:=blk_frozen BK165.out 1
           have hfz29_2:=blk_frozen BK165.out 2
           have hfz29_3:=blk_frozen BK165.out 3
           have p171 : 0≤(x6_1 : Int):=of_decide_eq_true (by first|(with_reducible assumption)|assumption)
           have q171 : x6_1 < (l0_0.length : Int):=of_decide_eq_true (by first|(with_reducible assumption)|assumption)
           obtain ⟨ad171,e171,hx171_0⟩:=Kd.at_int HR0_0.out x6_1 p171 q171
           cases e171
           replace hx171_0:=(HB.out.cell (World.block_lt_of_cell? w _ hx171_0)).trans hx171_0
           replace p171:=eq_true p171
           replace q171:=eq_true q171
           have hcz30_0 : wc.cell? ⟨gb169,0,none⟩=some (.int .i64 x170000_6):=(blk_cell BK169.out 0).trans rfl
           have hcz30_1 : wc.cell? ⟨gb169,1,none⟩=some (.string x170001_6):=(blk_cell BK169.out 1).trans rfl
           have hfz30_0:=blk_frozen BK169.out 0
           have hfz30_1:=blk_frozen BK169.out 1
           go_wp2_with (first|((with_reducible refine gate_builtin (b:=.append) (xs:=#[.tmp 39,.tmp 42]) rfl ?_);at_builtin;refine Kd.R_append k40 (w0:=w) w.heap.size rfl (.tmp 39) (.tmp 42) 44 40 (.agg #[(.int .i64 0),(.string ⟨#[]⟩)]) 24 rfl Try.underlying44 info40 rfl (by decide) (by omega) u5 x5_1 (⟨0,x170001_6⟩ : S40) [.int .i64 0,.string x170001_6] (fun k_=>k_≠gb169) (fun _=>False) rfl rfl ?aP (fun _ hk=>hk.elim) ?aF ?aO ?aB ?aS ?aL ?_;(case aP=>exact k40_mkM _ _ _ (⟨0,x170001_6⟩ : S40));(case aB=>exact (below_go HB.out));(case aF=>exact (fun k_ hk=>Kd.freshB (blk_up BK169.out) k_ hk));(case aO=>exact (R_up HO_5.out));(case aS=>exact (below_size (below_go HB.out)));(case aL=>have:=LMc27.out;omega);intro v176 w31 ho hb hg hat;rw [← Ny175.out] at ho;have n0_:=Aside0.mk (blk_grown (blk_up BK165.out) hg (Kd.R_ne HO_5.out BK165.out (by decide)));have n1_:=Aside0.mk (blk_grown (blk_up BK169.out) hg (Kd.R_away HO_5.out (fun _ hk=>hk)));have n2_:=Aside0.mk (hb);have n3_:=Aside0.mk (ho);clear BK165;clear BK169;clear HB;clear HO_5;have BK165:=n0_;have BK169:=n1_;have HB:=n2_;have HO177:=n3_;clear n0_ n1_ n2_ n3_;clear ho hb hg hat))
           go_roundg kj6
           case measure=>have:=HK1.out;have:=HJ6.out;omega
           case rel=>exact ⟨(y175),(wrap64 (x6_1 + 1)),(by first|rfl|(simp;done)|(simp [*];done)),(by first|exact H'|(subst_vars;exact H')),⟨by have:=HK1.out;have:=HJ6.out;omega⟩,⟨by (with_reducible repeat (first|apply Kd.R_alloc|apply Kd.R_drewN|apply Kd.R_drew));exact Kd.R_mono HO177.out (fun _ hk=>trivial)⟩,⟨by (with_reducible repeat (first|refine blk_drewN ?_ _|refine blk_drew ?_|refine blk_alloc ?_ _));exact BK165.out⟩,⟨by repeat (first|(with_reducible first|exact HB.out|apply below_alloc|apply pw_below_drewN|apply below_drew1|refine below_set ?_ GE165.out|refine below_set ?_ GE169.out)|exact HB.out)⟩⟩
          ·rw [if_neg c27] at H
           exact absurd H (by simp)
        ·rw [if_neg c18] at H
         have c18b0 : ((rd l0_0 x6_1) == 3)=false:=beq_eq_false_iff_ne.mpr c18
         have c18b1 : ((rd l0_0 x6_1) != 3)=true:=bne_iff_ne.mpr c18
         by_cases c32 : x5_1.length < 5864062014805
         ·rw [if_pos c32] at H
          have LMc32:=Aside0.mk c32
          clear c32
          obtain ⟨y178,hy178⟩ : ∃ y_ : List (S40),y_=(x5_1 ++ [(⟨x170000_6,(⟨#[]⟩ : ByteArray)⟩ : S40)]):=⟨_,rfl⟩
          replace H : (thresherref04_Fit.l0 kj6 l1 y178 (wrap64 (x6_1 + 1)) l0_0 a0_1 a0_2 a0_3)=some r:=by first|(rw [hy178];with_reducible exact H)|(have H2_:=(Option.bind_some _ _).symm.trans H;rw [hy178];with_reducible exact H2_)|(have H2_:=(Option.bind_some _ _).symm.trans H;with_reducible exact H2_)|with_reducible exact H|(rw [hy178];exact H)|exact H
          have Ny178:=Aside0.mk hy178
          clear hy178
          have H':=Aside0.mk H
          clear H
          have hnb33:=NB165_169.out
          have hnc33:=NB169_165.out
          have hcz34_0 : wc.cell? ⟨gb165,0,none⟩=some (.slice A0_0 l0_0.length c0_0):=(blk_cell BK165.out 0).trans rfl
          have hcz34_1 : wc.cell? ⟨gb165,1,none⟩=some (.int .i64 a0_1):=(blk_cell BK165.out 1).trans rfl
          have hcz34_2 : wc.cell? ⟨gb165,2,none⟩=some (.int .i64 a0_2):=(blk_cell BK165.out 2).trans rfl
          have hcz34_3 : wc.cell? ⟨gb165,3,none⟩=some (.int .i64 a0_3):=(blk_cell BK165.out 3).trans rfl
          have hfz34_0:=blk_frozen BK165.out 0
          have hfz34_1:=blk_frozen BK165.out 1
          have hfz34_2:=blk_frozen BK165.out 2
          have hfz34_3:=blk_frozen BK165.out 3
          have p171 : 0≤(x6_1 : Int):=of_decide_eq_true (by first|(with_reducible assumption)|assumption)
          have q171 : x6_1 < (l0_0.length : Int):=of_decide_eq_true (by first|(with_reducible assumption)|assumption)
          obtain ⟨ad171,e171,hx171_0⟩:=Kd.at_int HR0_0.out x6_1 p171 q171
          cases e171
          replace hx171_0:=(HB.out.cell (World.block_lt_of_cell? w _ hx171_0)).trans hx171_0
          replace p171:=eq_true p171
          replace q171:=eq_true q171
          have hcz35_0 : wc.cell? ⟨gb169,0,none⟩=some (.int .i64 x170000_6):=(blk_cell BK169.out 0).trans rfl
          have hcz35_1 : wc.cell? ⟨gb169,1,none⟩=some (.string x170001_6):=(blk_cell BK169.out 1).trans rfl
          have hfz35_0:=blk_frozen BK169.out 0
          have hfz35_1:=blk_frozen BK169.out 1
          go_wp2_with (first|((with_reducible refine gate_builtin (b:=.append) (xs:=#[.tmp 44,.tmp 48]) rfl ?_);at_builtin;refine Kd.R_append k40 (w0:=w) w.heap.size rfl (.tmp 44) (.tmp 48) 44 40 (.agg #[(.int .i64 0),(.string ⟨#[]⟩)]) 24 rfl Try.underlying44 info40 rfl (by decide) (by omega) u5 x5_1 (⟨x170000_6,(⟨#[]⟩ : ByteArray)⟩ : S40) [.int .i64 x170000_6,.string (⟨#[]⟩ : ByteArray)] (fun k_=>k_≠gb169) (fun _=>False) rfl rfl ?aP (fun _ hk=>hk.elim) ?aF ?aO ?aB ?aS ?aL ?_;(case aP=>exact k40_mkM _ _ _ (⟨x170000_6,(⟨#[]⟩ : ByteArray)⟩ : S40));(case aB=>exact (below_go HB.out));(case aF=>exact (fun k_ hk=>Kd.freshB (blk_up BK169.out) k_ hk));(case aO=>exact (R_up HO_5.out));(case aS=>exact (below_size (below_go HB.out)));(case aL=>have:=LMc32.out;omega);intro v179 w36 ho hb hg hat;rw [← Ny178.out] at ho;have n0_:=Aside0.mk (blk_grown (blk_up BK165.out) hg (Kd.R_ne HO_5.out BK165.out (by decide)));have n1_:=Aside0.mk (blk_grown (blk_up BK169.out) hg (Kd.R_away HO_5.out (fun _ hk=>hk)));have n2_:=Aside0.mk (hb);have n3_:=Aside0.mk (ho);clear BK165;clear BK169;clear HB;clear HO_5;have BK165:=n0_;have BK169:=n1_;have HB:=n2_;have HO180:=n3_;clear n0_ n1_ n2_ n3_;clear ho hb hg hat))
          go_roundg kj6
          case measure=>have:=HK1.out;have:=HJ6.out;omega
          case rel=>exact ⟨(y178),(wrap64 (x6_1 + 1)),(by first|rfl|(simp;done)|(simp [*];done)),(by first|exact H'|(subst_vars;exact H')),⟨by have:=HK1.out;have:=HJ6.out;omega⟩,⟨by (with_reducible repeat (first|apply Kd.R_alloc|apply Kd.R_drewN|apply Kd.R_drew));exact Kd.R_mono HO180.out (fun _ hk=>trivial)⟩,⟨by (with_reducible repeat (first|refine blk_drewN ?_ _|refine blk_drew ?_|refine blk_alloc ?_ _));exact BK165.out⟩,⟨by repeat (first|(with_reducible first|exact HB.out|apply below_alloc|apply pw_below_drewN|apply below_drew1|refine below_set ?_ GE165.out|refine below_set ?_ GE169.out)|exact HB.out)⟩⟩
         ·rw [if_neg c32] at H
          exact absurd H (by simp)
       ·rw [if_neg c17] at H
        exact absurd H (by simp)
      ·rw [if_neg c16] at H
       exact absurd H (by simp)
   ·rw [if_neg c6] at H
    have c6b0 : decide (x6_1 < (l0_0.length : Int))=false:=decide_eq_false c6
    clear c6
    obtain rfl:=Option.some.inj H
    have hcz37_0 : wr.cell? ⟨gb165,0,none⟩=some (.slice A0_0 l0_0.length c0_0):=(blk_cell BK165.out 0).trans rfl
    have hcz37_1 : wr.cell? ⟨gb165,1,none⟩=some (.int .i64 a0_1):=(blk_cell BK165.out 1).trans rfl
    have hcz37_2 : wr.cell? ⟨gb165,2,none⟩=some (.int .i64 a0_2):=(blk_cell BK165.out 2).trans rfl
    have hcz37_3 : wr.cell? ⟨gb165,3,none⟩=some (.int .i64 a0_3):=(blk_cell BK165.out 3).trans rfl
    have hfz37_0:=blk_frozen BK165.out 0
    have hfz37_1:=blk_frozen BK165.out 1
    have hfz37_2:=blk_frozen BK165.out 2
    have hfz37_3:=blk_frozen BK165.out 3
    go_wp2
    go_ret
    exact ⟨_,by first|rfl|(simp [errW_none,errW_some] <;> rfl)|(simp [*,errW_none,errW_some] <;> rfl),by (with_reducible repeat (first|apply Kd.R_alloc|apply Kd.R_drewN|apply Kd.R_drew));exact HO_5.out,by repeat (first|(with_reducible first|exact HB.out|apply below_alloc|apply pw_below_drewN|apply below_drew1|refine below_set ?_ GE165.out)|exact HB.out)⟩
end Go.Proofs.Ytapaldcdoahfeaa.P

