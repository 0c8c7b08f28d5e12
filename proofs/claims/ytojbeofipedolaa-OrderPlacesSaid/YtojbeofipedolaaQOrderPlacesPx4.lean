/- Texts of OrderPlaces. Merged: Px4. -/
import Derived.Test.YtojbeofipedolaaQOrderPlacesPx0
import Derived.Test.YtojbeofipedolaaQOrderPlacesHOrdA
namespace Go.Proofs.Ytojbeofipedolaa.P
open Go.RowKit Go.Proofs.YtojbeofipedolaaW.PrintWords Go.Proofs.YtojbeofipedolaaW.PrintLast Go.Proofs.YtojbeofipedolaaW.PrintMore
attribute [local go_sem] max2_int min2_int max_two min_two max_three min_three max_four min_four   -- for this text's walks alone
set_option linter.unusedVariables false
set_option linter.unusedSimpArgs false
def thresherlaw09_shown.f (k : Nat)  : Option (Bool):=(some (([1] : List Int) : List Int)).bind fun y119=>((some (([(([(⟨1,(⟨#[]⟩ : ByteArray)⟩ : S41)] : List (S41))),(([(⟨2,(⟨#[]⟩ : ByteArray)⟩ : S41)] : List (S41))),(([(⟨2,(⟨#[]⟩ : ByteArray)⟩ : S41)] : List (S41))),(([(⟨3,(⟨#[]⟩ : ByteArray)⟩ : S41)] : List (S41)))] : List (List (S41))) : List (List (S41)))).bind fun y135=>((order_Below.f k y119 1 1 1 y135 (([(⟨2,(⟨#[]⟩ : ByteArray)⟩ : S41)] : List (S41)))).bind fun t141=>(if t141=1 then ((order_Upto.f k y119 1 1 1 y135 (([(⟨2,(⟨#[]⟩ : ByteArray)⟩ : S41)] : List (S41)))).bind fun t145=>(some (t145 == 3))) else (some false))))
theorem thresherlaw09_shown.mono : ∀ k,LeO (thresherlaw09_shown.f k ) (thresherlaw09_shown.f (k + 1) ):=by
 intro  k
 unfold thresherlaw09_shown.f
 repeat' first
   | (with_reducible exact order_Below.mono _ _ _ _ _ _ _)
   | (with_reducible exact order_Upto.mono _ _ _ _ _ _ _)
   | (with_reducible exact LeO.refl _)
   | (with_reducible exact LeO.none _)
   | (with_reducible refine LeO.ite ?_ ?_)
   | (with_reducible refine LeO.bind ?_ (fun _=>?_))
   | exact order_Below.mono _ _ _ _ _ _ _
   | exact order_Upto.mono _ _ _ _ _ _ _
   | exact LeO.none _
   | refine LeO.ite ?_ ?_
   | refine LeO.bind ?_ (fun _=>?_)
set_option maxHeartbeats 8000000 in
set_option maxRecDepth 100000 in
theorem thresherlaw09_shown.calls (k : Nat)  (r : Bool) (w : World) (h : thresherlaw09_shown.f k =some r) :
  Calls Try.prog 8 #[] w fun e w'=>e=.returned (.bool r)∧Below w.heap.size w w':=by
 have hu31:=Try.underlying31
 have hu41:=Try.underlying41
 have HB:=Aside0.mk (Below.refl w.heap.size w)
 have H : ((some (([1] : List Int) : List Int)).bind fun y119=>((some (([(([(⟨1,(⟨#[]⟩ : ByteArray)⟩ : S41)] : List (S41))),(([(⟨2,(⟨#[]⟩ : ByteArray)⟩ : S41)] : List (S41))),(([(⟨2,(⟨#[]⟩ : ByteArray)⟩ : S41)] : List (S41))),(([(⟨3,(⟨#[]⟩ : ByteArray)⟩ : S41)] : List (S41)))] : List (List (S41))) : List (List (S41)))).bind fun y135=>((order_Below.f k y119 1 1 1 y135 (([(⟨2,(⟨#[]⟩ : ByteArray)⟩ : S41)] : List (S41)))).bind fun t141=>(if t141=1 then ((order_Upto.f k y119 1 1 1 y135 (([(⟨2,(⟨#[]⟩ : ByteArray)⟩ : S41)] : List (S41)))).bind fun t145=>(some (t145 == 3))) else (some false)))))=some r:=h
 clear h
 obtain ⟨y119,hy119⟩ : ∃ y_ : List Int,y_=(([1] : List Int)):=⟨_,rfl⟩
 replace H : ((some (([(([(⟨1,(⟨#[]⟩ : ByteArray)⟩ : S41)] : List (S41))),(([(⟨2,(⟨#[]⟩ : ByteArray)⟩ : S41)] : List (S41))),(([(⟨2,(⟨#[]⟩ : ByteArray)⟩ : S41)] : List (S41))),(([(⟨3,(⟨#[]⟩ : ByteArray)⟩ : S41)] : List (S41)))] : List (List (S41))) : List (List (S41)))).bind fun y135=>((order_Below.f k y119 1 1 1 y135 (([(⟨2,(⟨#[]⟩ : ByteArray)⟩ : S41)] : List (S41)))).bind fun t141=>(if t141=1 then ((order_Upto.f k y119 1 1 1 y135 (([(⟨2,(⟨#[]⟩ : ByteArray)⟩ : S41)] : List (S41)))).bind fun t145=>(some (t145 == 3))) else (some false))))=some r:=by first|(rw [hy119];with_reducible exact H)|(have H2_:=(Option.bind_some _ _).symm.trans H;rw [hy119];with_reducible exact H2_)|(have H2_:=(Option.bind_some _ _).symm.trans H;with_reducible exact H2_)|with_reducible exact H|(rw [hy119];exact H)|exact H
 have Ny119:=Aside0.mk hy119
 clear hy119
 obtain ⟨y123,hy123⟩ : ∃ y_ : List (S41),y_=(([(⟨1,(⟨#[]⟩ : ByteArray)⟩ : S41)] : List (S41))):=⟨_,rfl⟩
 replace H : ((some (([y123,(([(⟨2,(⟨#[]⟩ : ByteArray)⟩ : S41)] : List (S41))),(([(⟨2,(⟨#[]⟩ : ByteArray)⟩ : S41)] : List (S41))),(([(⟨3,(⟨#[]⟩ : ByteArray)⟩ : S41)] : List (S41)))] : List (List (S41))) : List (List (S41)))).bind fun y135=>((order_Below.f k y119 1 1 1 y135 (([(⟨2,(⟨#[]⟩ : ByteArray)⟩ : S41)] : List (S41)))).bind fun t141=>(if t141=1 then ((order_Upto.f k y119 1 1 1 y135 (([(⟨2,(⟨#[]⟩ : ByteArray)⟩ : S41)] : List (S41)))).bind fun t145=>(some (t145 == 3))) else (some false))))=some r:=by first|(rw [hy123];with_reducible exact H)|(have H2_:=(Option.bind_some _ _).symm.trans H;rw [hy123];with_reducible exact H2_)|(have H2_:=(Option.bind_some _ _).symm.trans H;with_reducible exact H2_)|with_reducible exact H|(rw [hy123];exact H)|exact H
 have Ny123:=Aside0.mk hy123
 clear hy123
 obtain ⟨y126,hy126⟩ : ∃ y_ : List (S41),y_=(([(⟨2,(⟨#[]⟩ : ByteArray)⟩ : S41)] : List (S41))):=⟨_,rfl⟩
 replace H : ((some (([y123,y126,(([(⟨2,(⟨#[]⟩ : ByteArray)⟩ : S41)] : List (S41))),(([(⟨3,(⟨#[]⟩ : ByteArray)⟩ : S41)] : List (S41)))] : List (List (S41))) : List (List (S41)))).bind fun y135=>((order_Below.f k y119 1 1 1 y135 (([(⟨2,(⟨#[]⟩ : ByteArray)⟩ : S41)] : List (S41)))).bind fun t141=>(if t141=1 then ((order_Upto.f k y119 1 1 1 y135 (([(⟨2,(⟨#[]⟩ : ByteArray)⟩ : S41)] : List (S41)))).bind fun t145=>(some (t145 == 3))) else (some false))))=some r:=by first|(rw [hy126];with_reducible exact H)|(have H2_:=(Option.bind_some _ _).symm.trans H;rw [hy126];with_reducible exact H2_)|(have H2_:=(Option.bind_some _ _).symm.trans H;with_reducible exact H2_)|with_reducible exact H|(rw [hy126];exact H)|exact H
 have Ny126:=Aside0.mk hy126
 clear hy126
 obtain ⟨y129,hy129⟩ : ∃ y_ : List (S41),y_=(([(⟨2,(⟨#[]⟩ : ByteArray)⟩ : S41)] : List (S41))):=⟨_,rfl⟩
 replace H : ((some (([y123,y126,y129,(([(⟨3,(⟨#[]⟩ : ByteArray)⟩ : S41)] : List (S41)))] : List (List (S41))) : List (List (S41)))).bind fun y135=>((order_Below.f k y119 1 1 1 y135 (([(⟨2,(⟨#[]⟩ : ByteArray)⟩ : S41)] : List (S41)))).bind fun t141=>(if t141=1 then ((order_Upto.f k y119 1 1 1 y135 (([(⟨2,(⟨#[]⟩ : ByteArray)⟩ : S41)] : List (S41)))).bind fun t145=>(some (t145 == 3))) else (some false))))=some r:=by first|(rw [hy129];with_reducible exact H)|(have H2_:=(Option.bind_some _ _).symm.trans H;rw [hy129];with_reducible exact H2_)|(have H2_:=(Option.bind_some _ _).symm.trans H;with_reducible exact H2_)|with_reducible exact H|(rw [hy129];exact H)|exact H
 have Ny129:=Aside0.mk hy129
 clear hy129
 obtain ⟨y132,hy132⟩ : ∃ y_ : List (S41),y_=(([(⟨3,(⟨#[]⟩ : ByteArray)⟩ : S41)] : List (S41))):=⟨_,rfl⟩
 replace H : ((some (([y123,y126,y129,y132] : List (List (S41))) : List (List (S41)))).bind fun y135=>((order_Below.f k y119 1 1 1 y135 (([(⟨2,(⟨#[]⟩ : ByteArray)⟩ : S41)] : List (S41)))).bind fun t141=>(if t141=1 then ((order_Upto.f k y119 1 1 1 y135 (([(⟨2,(⟨#[]⟩ : ByteArray)⟩ : S41)] : List (S41)))).bind fun t145=>(some (t145 == 3))) else (some false))))=some r:=by first|(rw [hy132];with_reducible exact H)|(have H2_:=(Option.bind_some _ _).symm.trans H;rw [hy132];with_reducible exact H2_)|(have H2_:=(Option.bind_some _ _).symm.trans H;with_reducible exact H2_)|with_reducible exact H|(rw [hy132];exact H)|exact H
 have Ny132:=Aside0.mk hy132
 clear hy132
 obtain ⟨y135,hy135⟩ : ∃ y_ : List (List (S41)),y_=(([y123,y126,y129,y132] : List (List (S41)))):=⟨_,rfl⟩
 replace H : ((order_Below.f k y119 1 1 1 y135 (([(⟨2,(⟨#[]⟩ : ByteArray)⟩ : S41)] : List (S41)))).bind fun t141=>(if t141=1 then ((order_Upto.f k y119 1 1 1 y135 (([(⟨2,(⟨#[]⟩ : ByteArray)⟩ : S41)] : List (S41)))).bind fun t145=>(some (t145 == 3))) else (some false)))=some r:=by first|(rw [hy135];with_reducible exact H)|(have H2_:=(Option.bind_some _ _).symm.trans H;rw [hy135];with_reducible exact H2_)|(have H2_:=(Option.bind_some _ _).symm.trans H;with_reducible exact H2_)|with_reducible exact H|(rw [hy135];exact H)|exact H
 have Ny135:=Aside0.mk hy135
 clear hy135
 obtain ⟨y138,hy138⟩ : ∃ y_ : List (S41),y_=(([(⟨2,(⟨#[]⟩ : ByteArray)⟩ : S41)] : List (S41))):=⟨_,rfl⟩
 replace H : ((order_Below.f k y119 1 1 1 y135 y138).bind fun t141=>(if t141=1 then ((order_Upto.f k y119 1 1 1 y135 (([(⟨2,(⟨#[]⟩ : ByteArray)⟩ : S41)] : List (S41)))).bind fun t145=>(some (t145 == 3))) else (some false)))=some r:=by first|(rw [hy138];with_reducible exact H)|(have H2_:=(Option.bind_some _ _).symm.trans H;rw [hy138];with_reducible exact H2_)|(have H2_:=(Option.bind_some _ _).symm.trans H;with_reducible exact H2_)|with_reducible exact H|(rw [hy138];exact H)|exact H
 have Ny138:=Aside0.mk hy138
 clear hy138
 replace H:=Option.bind_eq_some_iff.mp H
 obtain ⟨t141,A10,H⟩:=H
 replace H : (if t141=1 then ((order_Upto.f k y119 1 1 1 y135 (([(⟨2,(⟨#[]⟩ : ByteArray)⟩ : S41)] : List (S41)))).bind fun t145=>(some (t145 == 3))) else (some false))=some r:=H
 have A1:=Aside0.mk A10
 clear A10
 by_cases c2 : t141=1
 ·rw [if_pos c2] at H
  have c2b0 : (t141 == 1)=true:=beq_iff_eq.mpr c2
  have c2b1 : (t141 != 1)=false:=bne_eq_false_iff_eq.mpr c2
  clear c2
  obtain ⟨y142,hy142⟩ : ∃ y_ : List (S41),y_=(([(⟨2,(⟨#[]⟩ : ByteArray)⟩ : S41)] : List (S41))):=⟨_,rfl⟩
  replace H : ((order_Upto.f k y119 1 1 1 y135 y142).bind fun t145=>(some (t145 == 3)))=some r:=by first|(rw [hy142];with_reducible exact H)|(have H2_:=(Option.bind_some _ _).symm.trans H;rw [hy142];with_reducible exact H2_)|(have H2_:=(Option.bind_some _ _).symm.trans H;with_reducible exact H2_)|with_reducible exact H|(rw [hy142];exact H)|exact H
  have Ny142:=Aside0.mk hy142
  clear hy142
  replace H:=Option.bind_eq_some_iff.mp H
  obtain ⟨t145,A30,H⟩:=H
  replace H : (some (t145 == 3))=some r:=H
  have A3:=Aside0.mk A30
  clear A30
  obtain rfl:=Option.some.inj H
  go_enter Try.func8,Try.ntmps8
  go_wp2_with (first|((with_reducible refine gate_dst (N:=3) rfl ?_);(try (refine gate_guard (by rfl) ?_;dsimp only));refine Kd.R_lit (Kd.int .i64) _ 3 ?hg (N:=3) ?hd (xs:=([1] : List Int)) (inner:=[.int .i64 1]) (ok:=fun _=>True) (okp:=fun _=>True) ?hr ?hp (fun _ hk=>hk) trivial (Below.refl _ _) (Nat.le_refl _) (by simp) ?_;(case hd=>rfl);(case hg=>rfl);(case hr=>first|(go_simp;done)|(go_simp;rfl));(case hp=>exact (Reps.one (show Kd.M (Kd.int .i64) _ _ _ 1 [.int .i64 1] from rfl) (Reps.none _ _)));intro v120 w4 ho5 hb hg_ hnew_;clear hg_ hnew_;(first|rw [← Ny119.out] at ho5|(simp only [Int.reduceToNat] at ho5;rw [← Ny119.out] at ho5));have n0_:=Aside0.mk (Kd.R_lower ho5 (below_size (below_up HB.out)));have n1_:=Aside0.mk (below_step (below_up HB.out) hb);clear HB;have HO121:=n0_;have HB:=n1_;clear n0_ n1_;clear hb ho5;obtain ⟨Ao6,co6,eo6⟩:=Kd.R_slice HO121.out;subst eo6)|((with_reducible refine gate_dst (N:=1) rfl ?_);(try (refine gate_guard (by rfl) ?_;dsimp only));refine box_event ?hg (N:=1) ?hd (cs:=#[.slice none 0 0,.int .i64 0,.int .i64 0,.int .i64 0]) (t:=31) ?hr ?_;(case hd=>rfl);(case hg=>rfl);(case hr=>first|(go_simp;done)|(go_simp;rfl));intro gb122 hg w7 hbox hb;have n0_:=Aside0.mk (Kd.R_below (R_up HO121.out) hb);have n1_:=Aside0.mk (below_step (below_up HB.out) hb);have n2_:=Aside0.mk (hbox);have n3_:=Aside0.mk ((by rw [hg];exact (below_size (below_up HB.out)) : w.heap.size≤gb122));have n4_:=Aside0.mk ((by rw [hg];exact (below_size (below_up HB.out)) : w.heap.size≤gb122));clear HO121;clear HB;have HO121:=n0_;have HB:=n1_;have BK122:=n2_;have GW122:=n3_;have GE122:=n4_;clear n0_ n1_ n2_ n3_ n4_;clear hb hbox hg;have hcz8_0 : w7.cell? ⟨gb122,0,none⟩=some (.slice none 0 0):=(blk_cell BK122.out 0).trans rfl;have hcz8_1 : w7.cell? ⟨gb122,1,none⟩=some (.int .i64 0):=(blk_cell BK122.out 1).trans rfl;have hcz8_2 : w7.cell? ⟨gb122,2,none⟩=some (.int .i64 0):=(blk_cell BK122.out 2).trans rfl;have hcz8_3 : w7.cell? ⟨gb122,3,none⟩=some (.int .i64 0):=(blk_cell BK122.out 3).trans rfl;have hfz8_0:=blk_frozen BK122.out 0;have hfz8_1:=blk_frozen BK122.out 1;have hfz8_2:=blk_frozen BK122.out 2;have hfz8_3:=blk_frozen BK122.out 3)|((with_reducible refine gate_dst (N:=6) rfl ?_);(try (refine gate_guard (by rfl) ?_;dsimp only));refine Kd.R_lit k41 _ 41 ?hg (N:=6) ?hd (xs:=([(⟨1,(⟨#[]⟩ : ByteArray)⟩ : S41)] : List (S41))) (inner:=[.int .i64 1,.string (⟨#[]⟩ : ByteArray)]) (ok:=fun _=>True) (okp:=fun _=>True) ?hr ?hp (fun _ hk=>hk) trivial (Below.refl _ _) (Nat.le_refl _) (by simp) ?_;(case hd=>rfl);(case hg=>rfl);(case hr=>first|(go_simp;done)|(go_simp;rfl));(case hp=>exact (Reps.c2 (show Kd.M k41 _ _ _ (⟨1,(⟨#[]⟩ : ByteArray)⟩ : S41) [.int .i64 1,.string (⟨#[]⟩ : ByteArray)] from (k41_mkM _ _ _ (⟨1,(⟨#[]⟩ : ByteArray)⟩ : S41) )) (Reps.none _ _)));intro v124 w9 ho10 hb hg_ hnew_;clear hg_ hnew_;(first|rw [← Ny123.out] at ho10|(simp only [Int.reduceToNat] at ho10;rw [← Ny123.out] at ho10));have n0_:=Aside0.mk (Kd.R_below (by (with_reducible repeat (first|apply Kd.R_alloc|apply Kd.R_drewN|apply Kd.R_drew));exact (Kd.R_mono (Kd.R_far (p:=⟨gb122,3,none⟩) (Kd.R_far (p:=⟨gb122,2,none⟩) (Kd.R_far (p:=⟨gb122,1,none⟩) (Kd.R_far (p:=⟨gb122,0,none⟩) (Kd.R_types HO121.out BK122.out (by decide)) (fun _ hk=>hk.2) (.slice Ao6 y119.length co6)) (fun _ hk=>hk.2) (.int .i64 1)) (fun _ hk=>hk.2) (.int .i64 1)) (fun _ hk=>hk.2) (.int .i64 1)) (fun _ h_=>h_.1))) hb);have n1_:=Aside0.mk (Kd.R_lower ho10 (below_size (below_go HB.out)));have n2_:=Aside0.mk (blk_below (g:=gb122) (o:=.cells #[.slice Ao6 y119.length co6,.int .i64 1,.int .i64 1,.int .i64 1] 31 (0,0)) (by (with_reducible repeat (first|refine blk_drewN ?_ _|refine blk_drew ?_|refine blk_alloc ?_ _));refine blk_put (cs:=#[.slice Ao6 y119.length co6,.int .i64 1,.int .i64 1,.int .i64 0]) ?_ 3 _ rfl;(with_reducible repeat (first|refine blk_drewN ?_ _|refine blk_drew ?_|refine blk_alloc ?_ _));refine blk_put (cs:=#[.slice Ao6 y119.length co6,.int .i64 1,.int .i64 0,.int .i64 0]) ?_ 2 _ rfl;(with_reducible repeat (first|refine blk_drewN ?_ _|refine blk_drew ?_|refine blk_alloc ?_ _));refine blk_put (cs:=#[.slice Ao6 y119.length co6,.int .i64 0,.int .i64 0,.int .i64 0]) ?_ 1 _ rfl;(with_reducible repeat (first|refine blk_drewN ?_ _|refine blk_drew ?_|refine blk_alloc ?_ _));refine blk_put (cs:=#[.slice none 0 0,.int .i64 0,.int .i64 0,.int .i64 0]) ?_ 0 _ rfl;(with_reducible repeat (first|refine blk_drewN ?_ _|refine blk_drew ?_|refine blk_alloc ?_ _));exact BK122.out) hb);have n3_:=Aside0.mk (below_step (below_go HB.out) hb);clear HO121;clear BK122;clear HB;have HO121:=n0_;have HO125:=n1_;have BK122:=n2_;have HB:=n3_;clear n0_ n1_ n2_ n3_;clear hb ho10)|((with_reducible refine gate_dst (N:=8) rfl ?_);(try (refine gate_guard (by rfl) ?_;dsimp only));refine Kd.R_lit k41 _ 41 ?hg (N:=8) ?hd (xs:=([(⟨2,(⟨#[]⟩ : ByteArray)⟩ : S41)] : List (S41))) (inner:=[.int .i64 2,.string (⟨#[]⟩ : ByteArray)]) (ok:=fun _=>True) (okp:=fun _=>True) ?hr ?hp (fun _ hk=>hk) trivial (Below.refl _ _) (Nat.le_refl _) (by simp) ?_;(case hd=>rfl);(case hg=>rfl);(case hr=>first|(go_simp;done)|(go_simp;rfl));(case hp=>exact (Reps.c2 (show Kd.M k41 _ _ _ (⟨2,(⟨#[]⟩ : ByteArray)⟩ : S41) [.int .i64 2,.string (⟨#[]⟩ : ByteArray)] from (k41_mkM _ _ _ (⟨2,(⟨#[]⟩ : ByteArray)⟩ : S41) )) (Reps.none _ _)));intro v127 w11 ho12 hb hg_ hnew_;clear hg_ hnew_;(first|rw [← Ny126.out] at ho12|(simp only [Int.reduceToNat] at ho12;rw [← Ny126.out] at ho12));have n0_:=Aside0.mk (Kd.R_below (R_up HO121.out) hb);have n1_:=Aside0.mk (Kd.R_elder' (R_up HO125.out) (Kd.R_base ho12) hb);have n2_:=Aside0.mk (Kd.R_lower (Kd.R_new' ho12 (Kd.R_lt (R_up HO125.out))) (below_size (below_go HB.out)));have n3_:=Aside0.mk (blk_below (blk_up BK122.out) hb);have n4_:=Aside0.mk (below_step (below_go HB.out) hb);clear HO121;clear HO125;clear BK122;clear HB;have HO121:=n0_;have HO125:=n1_;have HO128:=n2_;have BK122:=n3_;have HB:=n4_;clear n0_ n1_ n2_ n3_ n4_;clear hb ho12)|((with_reducible refine gate_dst (N:=10) rfl ?_);(try (refine gate_guard (by rfl) ?_;dsimp only));refine Kd.R_lit k41 _ 41 ?hg (N:=10) ?hd (xs:=([(⟨2,(⟨#[]⟩ : ByteArray)⟩ : S41)] : List (S41))) (inner:=[.int .i64 2,.string (⟨#[]⟩ : ByteArray)]) (ok:=fun _=>True) (okp:=fun _=>True) ?hr ?hp (fun _ hk=>hk) trivial (Below.refl _ _) (Nat.le_refl _) (by simp) ?_;(case hd=>rfl);(case hg=>rfl);(case hr=>first|(go_simp;done)|(go_simp;rfl));(case hp=>exact (Reps.c2 (show Kd.M k41 _ _ _ (⟨2,(⟨#[]⟩ : ByteArray)⟩ : S41) [.int .i64 2,.string (⟨#[]⟩ : ByteArray)] from (k41_mkM _ _ _ (⟨2,(⟨#[]⟩ : ByteArray)⟩ : S41) )) (Reps.none _ _)));intro v130 w13 ho14 hb hg_ hnew_;clear hg_ hnew_;(first|rw [← Ny129.out] at ho14|(simp only [Int.reduceToNat] at ho14;rw [← Ny129.out] at ho14));have n0_:=Aside0.mk (Kd.R_below (R_up HO121.out) hb);have n1_:=Aside0.mk (Kd.R_elder' (R_up HO125.out) (Kd.R_base ho14) hb);have n2_:=Aside0.mk (Kd.R_elder' (R_up HO128.out) (Kd.R_base ho14) hb);have n3_:=Aside0.mk (Kd.R_lower (Kd.R_new' (Kd.R_new' ho14 (Kd.R_lt (R_up HO125.out))) (Kd.R_lt (R_up HO128.out))) (below_size (below_go HB.out)));have n4_:=Aside0.mk (blk_below (blk_up BK122.out) hb);have n5_:=Aside0.mk (below_step (below_go HB.out) hb);clear HO121;clear HO125;clear HO128;clear BK122;clear HB;have HO121:=n0_;have HO125:=n1_;have HO128:=n2_;have HO131:=n3_;have BK122:=n4_;have HB:=n5_;clear n0_ n1_ n2_ n3_ n4_ n5_;clear hb ho14)|((with_reducible refine gate_dst (N:=12) rfl ?_);(try (refine gate_guard (by rfl) ?_;dsimp only));refine Kd.R_lit k41 _ 41 ?hg (N:=12) ?hd (xs:=([(⟨3,(⟨#[]⟩ : ByteArray)⟩ : S41)] : List (S41))) (inner:=[.int .i64 3,.string (⟨#[]⟩ : ByteArray)]) (ok:=fun _=>True) (okp:=fun _=>True) ?hr ?hp (fun _ hk=>hk) trivial (Below.refl _ _) (Nat.le_refl _) (by simp) ?_;(case hd=>rfl);(case hg=>rfl);(case hr=>first|(go_simp;done)|(go_simp;rfl));(case hp=>exact (Reps.c2 (show Kd.M k41 _ _ _ (⟨3,(⟨#[]⟩ : ByteArray)⟩ : S41) [.int .i64 3,.string (⟨#[]⟩ : ByteArray)] from (k41_mkM _ _ _ (⟨3,(⟨#[]⟩ : ByteArray)⟩ : S41) )) (Reps.none _ _)));intro v133 w15 ho16 hb hg_ hnew_;clear hg_ hnew_;(first|rw [← Ny132.out] at ho16|(simp only [Int.reduceToNat] at ho16;rw [← Ny132.out] at ho16));have n0_:=Aside0.mk (Kd.R_below (R_up HO121.out) hb);have n1_:=Aside0.mk (Kd.R_elder' (R_up HO125.out) (Kd.R_base ho16) hb);have n2_:=Aside0.mk (Kd.R_elder' (R_up HO128.out) (Kd.R_base ho16) hb);have n3_:=Aside0.mk (Kd.R_elder' (R_up HO131.out) (Kd.R_base ho16) hb);have n4_:=Aside0.mk (Kd.R_lower (Kd.R_new' (Kd.R_new' (Kd.R_new' ho16 (Kd.R_lt (R_up HO125.out))) (Kd.R_lt (R_up HO128.out))) (Kd.R_lt (R_up HO131.out))) (below_size (below_go HB.out)));have n5_:=Aside0.mk (blk_below (blk_up BK122.out) hb);have n6_:=Aside0.mk (below_step (below_go HB.out) hb);clear HO121;clear HO125;clear HO128;clear HO131;clear BK122;clear HB;have HO121:=n0_;have HO125:=n1_;have HO128:=n2_;have HO131:=n3_;have HO134:=n4_;have BK122:=n5_;have HB:=n6_;clear n0_ n1_ n2_ n3_ n4_ n5_ n6_;clear hb ho16;obtain ⟨Ao17,co17,eo17⟩:=Kd.R_slice HO125.out;subst eo17;obtain ⟨Ao18,co18,eo18⟩:=Kd.R_slice HO128.out;subst eo18;obtain ⟨Ao19,co19,eo19⟩:=Kd.R_slice HO131.out;subst eo19;obtain ⟨Ao20,co20,eo20⟩:=Kd.R_slice HO134.out;subst eo20)|((with_reducible refine gate_dst (N:=13) rfl ?_);(try (refine gate_guard (by rfl) ?_;dsimp only));refine Kd.N_lit (Kd.slice 41 k41) _ 27 ?hg (N':=13) ?hd (xs:=([y123,y126,y129,y132] : List (List (S41)))) (inner:=[.slice Ao17 y123.length co17,.slice Ao18 y126.length co18,.slice Ao19 y129.length co19,.slice Ao20 y132.length co20]) (ok:=(fun k_=>some k_≠(.slice Ao6 y119.length co6 : Value).ownBlock∧k_≠gb122)) (okp:=(fun k_=>some k_≠(.slice Ao6 y119.length co6 : Value).ownBlock∧k_≠gb122)) ?hr ?hp (fun _ hk=>hk) ((show ∀ k_,w15.heap.size≤k_→(fun k_=>some k_≠(.slice Ao6 y119.length co6 : Value).ownBlock∧k_≠gb122) k_ from fun k_ hk=>⟨Kd.fresh' (Kd.R_lt (R_up HO121.out)) k_ hk,Kd.freshB (blk_up BK122.out) k_ hk⟩) _ (Nat.le_refl _)) (Below.refl _ _) (Nat.le_refl _) (by simp) ?_;(case hd=>rfl);(case hg=>rfl);(case hr=>first|(go_simp;done)|(go_simp;rfl));(case hp=>exact (Reps.one (show Kd.FK (Kd.slice 41 k41) _ _ y123 [.slice Ao17 y123.length co17] from (Kd.FK_slice_mk (Kd.R_reads' (Kd.R_mono (ok':=(fun k_=>some k_≠(.slice Ao6 y119.length co6 : Value).ownBlock∧k_≠gb122)) (Kd.R_types (Kd.R_apart' (HO125.out) (Kd.R_typed HO121.out) (by decide)) BK122.out (by decide)) (fun k_ hk=>⟨hk.1.2,hk.2⟩))).2.1 (Kd.R_F (Kd.R_mono (ok':=(fun k_=>some k_≠(.slice Ao6 y119.length co6 : Value).ownBlock∧k_≠gb122)) (Kd.R_types (Kd.R_apart' (HO125.out) (Kd.R_typed HO121.out) (by decide)) BK122.out (by decide)) (fun k_ hk=>⟨hk.1.2,hk.2⟩))))) (Reps.one (show Kd.FK (Kd.slice 41 k41) _ _ y126 [.slice Ao18 y126.length co18] from (Kd.FK_slice_mk (Kd.R_reads' (Kd.R_mono (ok':=(fun k_=>some k_≠(.slice Ao6 y119.length co6 : Value).ownBlock∧k_≠gb122)) (Kd.R_types (Kd.R_apart' (HO128.out) (Kd.R_typed HO121.out) (by decide)) BK122.out (by decide)) (fun k_ hk=>⟨hk.1.2,hk.2⟩))).2.1 (Kd.R_F (Kd.R_mono (ok':=(fun k_=>some k_≠(.slice Ao6 y119.length co6 : Value).ownBlock∧k_≠gb122)) (Kd.R_types (Kd.R_apart' (HO128.out) (Kd.R_typed HO121.out) (by decide)) BK122.out (by decide)) (fun k_ hk=>⟨hk.1.2,hk.2⟩))))) (Reps.one (show Kd.FK (Kd.slice 41 k41) _ _ y129 [.slice Ao19 y129.length co19] from (Kd.FK_slice_mk (Kd.R_reads' (Kd.R_mono (ok':=(fun k_=>some k_≠(.slice Ao6 y119.length co6 : Value).ownBlock∧k_≠gb122)) (Kd.R_types (Kd.R_apart' (HO131.out) (Kd.R_typed HO121.out) (by decide)) BK122.out (by decide)) (fun k_ hk=>⟨hk.1.2,hk.2⟩))).2.1 (Kd.R_F (Kd.R_mono (ok':=(fun k_=>some k_≠(.slice Ao6 y119.length co6 : Value).ownBlock∧k_≠gb122)) (Kd.R_types (Kd.R_apart' (HO131.out) (Kd.R_typed HO121.out) (by decide)) BK122.out (by decide)) (fun k_ hk=>⟨hk.1.2,hk.2⟩))))) (Reps.one (show Kd.FK (Kd.slice 41 k41) _ _ y132 [.slice Ao20 y132.length co20] from (Kd.FK_slice_mk (Kd.R_reads' (Kd.R_mono (ok':=(fun k_=>some k_≠(.slice Ao6 y119.length co6 : Value).ownBlock∧k_≠gb122)) (Kd.R_types (Kd.R_apart' (HO134.out) (Kd.R_typed HO121.out) (by decide)) BK122.out (by decide)) (fun k_ hk=>⟨hk.1.2,hk.2⟩))).2.1 (Kd.R_F (Kd.R_mono (ok':=(fun k_=>some k_≠(.slice Ao6 y119.length co6 : Value).ownBlock∧k_≠gb122)) (Kd.R_types (Kd.R_apart' (HO134.out) (Kd.R_typed HO121.out) (by decide)) BK122.out (by decide)) (fun k_ hk=>⟨hk.1.2,hk.2⟩))))) (Reps.none _ _))))));intro v136 w21 ho22 hb hg_ hnew_;clear hg_ hnew_;(first|rw [← Ny135.out] at ho22|(simp only [Int.reduceToNat] at ho22;rw [← Ny135.out] at ho22));have n0_:=Aside0.mk (Kd.R_below (R_up HO121.out) hb);have n1_:=Aside0.mk (Kd.N_lower ho22 (below_size (below_go HB.out)));have n2_:=Aside0.mk (blk_below (blk_up BK122.out) hb);have n3_:=Aside0.mk (below_step (below_go HB.out) hb);clear HO121;clear BK122;clear HB;clear HO125;clear HO128;clear HO131;clear HO134;have HO121:=n0_;have HO137:=n1_;have BK122:=n2_;have HB:=n3_;clear n0_ n1_ n2_ n3_;clear hb ho22;have hcz23_0 : w21.cell? ⟨gb122,0,none⟩=some (.slice Ao6 y119.length co6):=(blk_cell BK122.out 0).trans rfl;have hcz23_1 : w21.cell? ⟨gb122,1,none⟩=some (.int .i64 1):=(blk_cell BK122.out 1).trans rfl;have hcz23_2 : w21.cell? ⟨gb122,2,none⟩=some (.int .i64 1):=(blk_cell BK122.out 2).trans rfl;have hcz23_3 : w21.cell? ⟨gb122,3,none⟩=some (.int .i64 1):=(blk_cell BK122.out 3).trans rfl;have hfz23_0:=blk_frozen BK122.out 0;have hfz23_1:=blk_frozen BK122.out 1;have hfz23_2:=blk_frozen BK122.out 2;have hfz23_3:=blk_frozen BK122.out 3)|((with_reducible refine gate_dst (N:=17) rfl ?_);(try (refine gate_guard (by rfl) ?_;dsimp only));refine Kd.R_lit k41 _ 41 ?hg (N:=17) ?hd (xs:=([(⟨2,(⟨#[]⟩ : ByteArray)⟩ : S41)] : List (S41))) (inner:=[.int .i64 2,.string (⟨#[]⟩ : ByteArray)]) (ok:=fun _=>True) (okp:=fun _=>True) ?hr ?hp (fun _ hk=>hk) trivial (Below.refl _ _) (Nat.le_refl _) (by simp) ?_;(case hd=>rfl);(case hg=>rfl);(case hr=>first|(go_simp;done)|(go_simp;rfl));(case hp=>exact (Reps.c2 (show Kd.M k41 _ _ _ (⟨2,(⟨#[]⟩ : ByteArray)⟩ : S41) [.int .i64 2,.string (⟨#[]⟩ : ByteArray)] from (k41_mkM _ _ _ (⟨2,(⟨#[]⟩ : ByteArray)⟩ : S41) )) (Reps.none _ _)));intro v139 w24 ho25 hb hg_ hnew_;clear hg_ hnew_;(first|rw [← Ny138.out] at ho25|(simp only [Int.reduceToNat] at ho25;rw [← Ny138.out] at ho25));have n0_:=Aside0.mk (Kd.R_below (R_up HO121.out) hb);have n1_:=Aside0.mk (Kd.N_elder' (N_up HO137.out) (Kd.R_base ho25) hb);have n2_:=Aside0.mk (Kd.R_lower ho25 (below_size (below_go HB.out)));have n3_:=Aside0.mk (blk_below (blk_up BK122.out) hb);have n4_:=Aside0.mk (below_step (below_go HB.out) hb);clear HO121;clear HO137;clear BK122;clear HB;have HO121:=n0_;have HO137:=n1_;have HO140:=n2_;have BK122:=n3_;have HB:=n4_;clear n0_ n1_ n2_ n3_ n4_;clear hb ho25;obtain ⟨Ao26,co26,eo26⟩:=Kd.N_slice HO137.out;subst eo26;obtain ⟨Ao27,co27,eo27⟩:=Kd.R_slice HO140.out;subst eo27)|((with_reducible refine gate_callee (f:=13) rfl ?_);refine goesL_ (some 18) rfl rfl Try.func13 (by kernel_rfl) rfl #[.agg #[.slice Ao6 y119.length co6,.int .i64 1,.int .i64 1,.int .i64 1],.slice Ao26 y135.length co26,.slice Ao27 y138.length co27] rfl (by (try simp only [List.map_toArray,List.map_cons,List.map_nil]);first|done|rfl|(simp only [List.length_drop,List.length_take];rfl)) ?_;(with_reducible refine (order_Below.calls k _ _ y119 1 1 1 _ _ y135 _ _ y138 t141 _ ?side1 ?side2 ?side3 ?side4 ?side5 ?side6 A1.out).mono ?_);(case side1=>repeat (first|exact (Kd.R_reads' HO121.out).2.2|(with_reducible refine Kd.C_alloc ?_ _)|(with_reducible refine Kd.C_drewN ?_ _)|(with_reducible refine Kd.C_drew ?_)));(case side2=>exact (Kd.R_reads' HO121.out).2.1);(case side3=>repeat (first|exact (Kd.N_reads' HO137.out).2.2|(with_reducible refine Kd.C_alloc ?_ _)|(with_reducible refine Kd.C_drewN ?_ _)|(with_reducible refine Kd.C_drew ?_)));(case side4=>exact (Kd.N_reads' HO137.out).2.1);(case side5=>repeat (first|exact (Kd.R_reads' HO140.out).2.2|(with_reducible refine Kd.C_alloc ?_ _)|(with_reducible refine Kd.C_drewN ?_ _)|(with_reducible refine Kd.C_drew ?_)));(case side6=>exact (Kd.R_reads' HO140.out).2.1);rintro e w28 ⟨rfl,hb⟩;refine ⟨_,rfl,?_⟩;have n0_:=Aside0.mk (Kd.R_below (R_up HO121.out) hb);have n1_:=Aside0.mk (Kd.N_below (N_up HO137.out) hb);have n2_:=Aside0.mk (Kd.R_below (R_up HO140.out) hb);have n3_:=Aside0.mk (blk_below (blk_up BK122.out) hb);have n4_:=Aside0.mk (below_step (below_go HB.out) hb);clear HO121;clear HO137;clear HO140;clear BK122;clear HB;have HO121:=n0_;have HO137:=n1_;have HO140:=n2_;have BK122:=n3_;have HB:=n4_;clear n0_ n1_ n2_ n3_ n4_;(try clear hb);(try clear hb2);(try clear hk);(try clear hi);have hcz29_0 : w28.cell? ⟨gb122,0,none⟩=some (.slice Ao6 y119.length co6):=(blk_cell BK122.out 0).trans rfl;have hcz29_1 : w28.cell? ⟨gb122,1,none⟩=some (.int .i64 1):=(blk_cell BK122.out 1).trans rfl;have hcz29_2 : w28.cell? ⟨gb122,2,none⟩=some (.int .i64 1):=(blk_cell BK122.out 2).trans rfl;have hcz29_3 : w28.cell? ⟨gb122,3,none⟩=some (.int .i64 1):=(blk_cell BK122.out 3).trans rfl;have hfz29_0:=blk_frozen BK122.out 0;have hfz29_1:=blk_frozen BK122.out 1;have hfz29_2:=blk_frozen BK122.out 2;have hfz29_3:=blk_frozen BK122.out 3)|((with_reducible refine gate_dst (N:=24) rfl ?_);(try (refine gate_guard (by rfl) ?_;dsimp only));refine Kd.R_lit k41 _ 41 ?hg (N:=24) ?hd (xs:=([(⟨2,(⟨#[]⟩ : ByteArray)⟩ : S41)] : List (S41))) (inner:=[.int .i64 2,.string (⟨#[]⟩ : ByteArray)]) (ok:=fun _=>True) (okp:=fun _=>True) ?hr ?hp (fun _ hk=>hk) trivial (Below.refl _ _) (Nat.le_refl _) (by simp) ?_;(case hd=>rfl);(case hg=>rfl);(case hr=>first|(go_simp;done)|(go_simp;rfl));(case hp=>exact (Reps.c2 (show Kd.M k41 _ _ _ (⟨2,(⟨#[]⟩ : ByteArray)⟩ : S41) [.int .i64 2,.string (⟨#[]⟩ : ByteArray)] from (k41_mkM _ _ _ (⟨2,(⟨#[]⟩ : ByteArray)⟩ : S41) )) (Reps.none _ _)));intro v143 w30 ho31 hb hg_ hnew_;clear hg_ hnew_;(first|rw [← Ny142.out] at ho31|(simp only [Int.reduceToNat] at ho31;rw [← Ny142.out] at ho31));have n0_:=Aside0.mk (Kd.R_below (R_up HO121.out) hb);have n1_:=Aside0.mk (Kd.N_elder' (N_up HO137.out) (Kd.R_base ho31) hb);have n2_:=Aside0.mk (Kd.R_elder' (R_up HO140.out) (Kd.R_base ho31) hb);have n3_:=Aside0.mk (Kd.R_lower (Kd.R_new' ho31 (Kd.R_lt (R_up HO140.out))) (below_size (below_go HB.out)));have n4_:=Aside0.mk (blk_below (blk_up BK122.out) hb);have n5_:=Aside0.mk (below_step (below_go HB.out) hb);clear HO121;clear HO137;clear HO140;clear BK122;clear HB;have HO121:=n0_;have HO137:=n1_;have HO140:=n2_;have HO144:=n3_;have BK122:=n4_;have HB:=n5_;clear n0_ n1_ n2_ n3_ n4_ n5_;clear hb ho31;obtain ⟨Ao32,co32,eo32⟩:=Kd.R_slice HO144.out;subst eo32)|(go_at_call 14;(with_reducible refine (order_Upto.calls k _ _ y119 1 1 1 _ _ y135 _ _ y142 t145 _ ?side1 ?side2 ?side3 ?side4 ?side5 ?side6 A3.out).mono ?_);(case side1=>repeat (first|exact (Kd.R_reads' HO121.out).2.2|(with_reducible refine Kd.C_alloc ?_ _)|(with_reducible refine Kd.C_drewN ?_ _)|(with_reducible refine Kd.C_drew ?_)));(case side2=>exact (Kd.R_reads' HO121.out).2.1);(case side3=>repeat (first|exact (Kd.N_reads' HO137.out).2.2|(with_reducible refine Kd.C_alloc ?_ _)|(with_reducible refine Kd.C_drewN ?_ _)|(with_reducible refine Kd.C_drew ?_)));(case side4=>exact (Kd.N_reads' HO137.out).2.1);(case side5=>repeat (first|exact (Kd.R_reads' HO144.out).2.2|(with_reducible refine Kd.C_alloc ?_ _)|(with_reducible refine Kd.C_drewN ?_ _)|(with_reducible refine Kd.C_drew ?_)));(case side6=>exact (Kd.R_reads' HO144.out).2.1);rintro e w33 ⟨rfl,hb⟩;have n0_:=Aside0.mk (Kd.R_below (R_up HO121.out) hb);have n1_:=Aside0.mk (Kd.N_below (N_up HO137.out) hb);have n2_:=Aside0.mk (Kd.R_below (R_up HO140.out) hb);have n3_:=Aside0.mk (Kd.R_below (R_up HO144.out) hb);have n4_:=Aside0.mk (blk_below (blk_up BK122.out) hb);have n5_:=Aside0.mk (below_step (below_go HB.out) hb);clear HO121;clear HO137;clear HO140;clear HO144;clear BK122;clear HB;have HO121:=n0_;have HO137:=n1_;have HO140:=n2_;have HO144:=n3_;have BK122:=n4_;have HB:=n5_;clear n0_ n1_ n2_ n3_ n4_ n5_;(try clear hb);(try clear hb2);(try clear hk);(try clear hi)))
  go_ret
  exact ⟨by first|rfl|(simp [errW_none,errW_some] <;> rfl)|(simp [*,errW_none,errW_some] <;> rfl),by repeat (first|(with_reducible first|exact HB.out|apply below_alloc|apply pw_below_drewN|apply below_drew1|refine below_set ?_ GE122.out)|exact HB.out)⟩
 ·rw [if_neg c2] at H
  have c2b0 : (t141 == 1)=false:=beq_eq_false_iff_ne.mpr c2
  have c2b1 : (t141 != 1)=true:=bne_iff_ne.mpr c2
  obtain rfl:=Option.some.inj H
  go_enter Try.func8,Try.ntmps8
  go_wp2_with (first|((with_reducible refine gate_dst (N:=3) rfl ?_);(try (refine gate_guard (by rfl) ?_;dsimp only));refine Kd.R_lit (Kd.int .i64) _ 3 ?hg (N:=3) ?hd (xs:=([1] : List Int)) (inner:=[.int .i64 1]) (ok:=fun _=>True) (okp:=fun _=>True) ?hr ?hp (fun _ hk=>hk) trivial (Below.refl _ _) (Nat.le_refl _) (by simp) ?_;(case hd=>rfl);(case hg=>rfl);(case hr=>first|(go_simp;done)|(go_simp;rfl));(case hp=>exact (Reps.one (show Kd.M (Kd.int .i64) _ _ _ 1 [.int .i64 1] from rfl) (Reps.none _ _)));intro v120 w34 ho35 hb hg_ hnew_;clear hg_ hnew_;(first|rw [← Ny119.out] at ho35|(simp only [Int.reduceToNat] at ho35;rw [← Ny119.out] at ho35));have n0_:=Aside0.mk (Kd.R_lower ho35 (below_size (below_up HB.out)));have n1_:=Aside0.mk (below_step (below_up HB.out) hb);clear HB;have HO121:=n0_;have HB:=n1_;clear n0_ n1_;clear hb ho35;obtain ⟨Ao36,co36,eo36⟩:=Kd.R_slice HO121.out;subst eo36)|((with_reducible refine gate_dst (N:=1) rfl ?_);(try (refine gate_guard (by rfl) ?_;dsimp only));refine box_event ?hg (N:=1) ?hd (cs:=#[.slice none 0 0,.int .i64 0,.int .i64 0,.int .i64 0]) (t:=31) ?hr ?_;(case hd=>rfl);(case hg=>rfl);(case hr=>first|(go_simp;done)|(go_simp;rfl));intro gb122 hg w37 hbox hb;have n0_:=Aside0.mk (Kd.R_below (R_up HO121.out) hb);have n1_:=Aside0.mk (below_step (below_up HB.out) hb);have n2_:=Aside0.mk (hbox);have n3_:=Aside0.mk ((by rw [hg];exact (below_size (below_up HB.out)) : w.heap.size≤gb122));have n4_:=Aside0.mk ((by rw [hg];exact (below_size (below_up HB.out)) : w.heap.size≤gb122));clear HO121;clear HB;have HO121:=n0_;have HB:=n1_;have BK122:=n2_;have GW122:=n3_;have GE122:=n4_;clear n0_ n1_ n2_ n3_ n4_;clear hb hbox hg;have hcz38_0 : w37.cell? ⟨gb122,0,none⟩=some (.slice none 0 0):=(blk_cell BK122.out 0).trans rfl;have hcz38_1 : w37.cell? ⟨gb122,1,none⟩=some (.int .i64 0):=(blk_cell BK122.out 1).trans rfl;have hcz38_2 : w37.cell? ⟨gb122,2,none⟩=some (.int .i64 0):=(blk_cell BK122.out 2).trans rfl;have hcz38_3 : w37.cell? ⟨gb122,3,none⟩=some (.int .i64 0):=(blk_cell BK122.out 3).trans rfl;have hfz38_0:=blk_frozen BK122.out 0;have hfz38_1:=blk_frozen BK122.out 1;have hfz38_2:=blk_frozen BK122.out 2;have hfz38_3:=blk_frozen BK122.out 3)|((with_reducible refine gate_dst (N:=6) rfl ?_);(try (refine gate_guard (by rfl) ?_;dsimp only));refine Kd.R_lit k41 _ 41 ?hg (N:=6) ?hd (xs:=([(⟨1,(⟨#[]⟩ : ByteArray)⟩ : S41)] : List (S41))) (inner:=[.int .i64 1,.string (⟨#[]⟩ : ByteArray)]) (ok:=fun _=>True) (okp:=fun _=>True) ?hr ?hp (fun _ hk=>hk) trivial (Below.refl _ _) (Nat.le_refl _) (by simp) ?_;(case hd=>rfl);(case hg=>rfl);(case hr=>first|(go_simp;done)|(go_simp;rfl));(case hp=>exact (Reps.c2 (show Kd.M k41 _ _ _ (⟨1,(⟨#[]⟩ : ByteArray)⟩ : S41) [.int .i64 1,.string (⟨#[]⟩ : ByteArray)] from (k41_mkM _ _ _ (⟨1,(⟨#[]⟩ : ByteArray)⟩ : S41) )) (Reps.none _ _)));intro v124 w39 ho40 hb hg_ hnew_;clear hg_ hnew_;(first|rw [← Ny123.out] at ho40|(simp only [Int.reduceToNat] at ho40;rw [← Ny123.out] at ho40));have n0_:=Aside0.mk (Kd.R_below (by (with_reducible repeat (first|apply Kd.R_alloc|apply Kd.R_drewN|apply Kd.R_drew));exact (Kd.R_mono (Kd.R_far (p:=⟨gb122,3,none⟩) (Kd.R_far (p:=⟨gb122,2,none⟩) (Kd.R_far (p:=⟨gb122,1,none⟩) (Kd.R_far (p:=⟨gb122,0,none⟩) (Kd.R_types HO121.out BK122.out (by decide)) (fun _ hk=>hk.2) (.slice Ao36 y119.length co36)) (fun _ hk=>hk.2) (.int .i64 1)) (fun _ hk=>hk.2) (.int .i64 1)) (fun _ hk=>hk.2) (.int .i64 1)) (fun _ h_=>h_.1))) hb);have n1_:=Aside0.mk (Kd.R_lower ho40 (below_size (below_go HB.out)));have n2_:=Aside0.mk (blk_below (g:=gb122) (o:=.cells #[.slice Ao36 y119.length co36,.int .i64 1,.int .i64 1,.int .i64 1] 31 (0,0)) (by (with_reducible repeat (first|refine blk_drewN ?_ _|refine blk_drew ?_|refine blk_alloc ?_ _));refine blk_put (cs:=#[.slice Ao36 y119.length co36,.int .i64 1,.int .i64 1,.int .i64 0]) ?_ 3 _ rfl;(with_reducible repeat (first|refine blk_drewN ?_ _|refine blk_drew ?_|refine blk_alloc ?_ _));refine blk_put (cs:=#[.slice Ao36 y119.length co36,.int .i64 1,.int .i64 0,.int .i64 0]) ?_ 2 _ rfl;(with_reducible repeat (first|refine blk_drewN ?_ _|refine blk_drew ?_|refine blk_alloc ?_ _));refine blk_put (cs:=#[.slice Ao36 y119.length co36,.int .i64 0,.int .i64 0,.int .i64 0]) ?_ 1 _ rfl;(with_reducible repeat (first|refine blk_drewN ?_ _|refine blk_drew ?_|refine blk_alloc ?_ _));refine blk_put (cs:=#[.slice none 0 0,.int .i64 0,.int .i64 0,.int .i64 0]) ?_ 0 _ rfl;(with_reducible repeat (first|refine blk_drewN ?_ _|refine blk_drew ?_|refine blk_alloc ?_ _));exact BK122.out) hb);have n3_:=Aside0.mk (below_step (below_go HB.out) hb);clear HO121;clear BK122;clear HB;have HO121:=n0_;have HO125:=n1_;have BK122:=n2_;have HB:=n3_;clear n0_ n1_ n2_ n3_;clear hb ho40)|((with_reducible refine gate_dst (N:=8) rfl ?_);(try (refine gate_guard (by rfl) ?_;dsimp only));refine Kd.R_lit k41 _ 41 ?hg (N:=8) ?hd (xs:=([(⟨2,(⟨#[]⟩ : ByteArray)⟩ : S41)] : List (S41))) (inner:=[.int .i64 2,.string (⟨#[]⟩ : ByteArray)]) (ok:=fun _=>True) (okp:=fun _=>True) ?hr ?hp (fun _ hk=>hk) trivial (Below.refl _ _) (Nat.le_refl _) (by simp) ?_;(case hd=>rfl);(case hg=>rfl);(case hr=>first|(go_simp;done)|(go_simp;rfl));(case hp=>exact (Reps.c2 (show Kd.M k41 _ _ _ (⟨2,(⟨#[]⟩ : ByteArray)⟩ : S41) [.int .i64 2,.string (⟨#[]⟩ : ByteArray)] from (k41_mkM _ _ _ (⟨2,(⟨#[]⟩ : ByteArray)⟩ : S41) )) (Reps.none _ _)));intro v127 w41 ho42 hb hg_ hnew_;clear hg_ hnew_;(first|rw [← Ny126.out] at ho42|(simp only [Int.reduceToNat] at ho42;rw [← Ny126.out] at ho42));have n0_:=Aside0.mk (Kd.R_below (R_up HO121.out) hb);have n1_:=Aside0.mk (Kd.R_elder' (R_up HO125.out) (Kd.R_base ho42) hb);have n2_:=Aside0.mk (Kd.R_lower (Kd.R_new' ho42 (Kd.R_lt (R_up HO125.out))) (below_size (below_go HB.out)));have n3_:=Aside0.mk (blk_below (blk_up BK122.out) hb);have n4_:=Aside0.mk (below_step (below_go HB.out) hb);clear HO121;clear HO125;clear BK122;clear HB;have HO121:=n0_;have HO125:=n1_;have HO128:=n2_;have BK122:=n3_;have HB:=n4_;clear n0_ n1_ n2_ n3_ n4_;clear hb ho42)|((with_reducible refine gate_dst (N:=10) rfl ?_);(try (refine gate_guard (by rfl) ?_;dsimp only));refine Kd.R_lit k41 _ 41 ?hg (N:=10) ?hd (xs:=([(⟨2,(⟨#[]⟩ : ByteArray)⟩ : S41)] : List (S41))) (inner:=[.int .i64 2,.string (⟨#[]⟩ : ByteArray)]) (ok:=fun _=>True) (okp:=fun _=>True) ?hr ?hp (fun _ hk=>hk) trivial (Below.refl _ _) (Nat.le_refl _) (by simp) ?_;(case hd=>rfl);(case hg=>rfl);(case hr=>first|(go_simp;done)|(go_simp;rfl));(case hp=>exact (Reps.c2 (show Kd.M k41 _ _ _ (⟨2,(⟨#[]⟩ : ByteArray)⟩ : S41) [.int .i64 2,.string (⟨#[]⟩ : ByteArray)] from (k41_mkM _ _ _ (⟨2,(⟨#[]⟩ : ByteArray)⟩ : S41) )) (Reps.none _ _)));intro v130 w43 ho44 hb hg_ hnew_;clear hg_ hnew_;(first|rw [← Ny129.out] at ho44|(simp only [Int.reduceToNat] at ho44;rw [← Ny129.out] at ho44));have n0_:=Aside0.mk (Kd.R_below (R_up HO121.out) hb);have n1_:=Aside0.mk (Kd.R_elder' (R_up HO125.out) (Kd.R_base ho44) hb);have n2_:=Aside0.mk (Kd.R_elder' (R_up HO128.out) (Kd.R_base ho44) hb);have n3_:=Aside0.mk (Kd.R_lower (Kd.R_new' (Kd.R_new' ho44 (Kd.R_lt (R_up HO125.out))) (Kd.R_lt (R_up HO128.out))) (below_size (below_go HB.out)));have n4_:=Aside0.mk (blk_below (blk_up BK122.out) hb);have n5_:=Aside0.mk (below_step (below_go HB.out) hb);clear HO121;clear HO125;clear HO128;clear BK122;clear HB;have HO121:=n0_;have HO125:=n1_;have HO128:=n2_;have HO131:=n3_;have BK122:=n4_;have HB:=n5_;clear n0_ n1_ n2_ n3_ n4_ n5_;clear hb ho44)|((with_reducible refine gate_dst (N:=12) rfl ?_);(try (refine gate_guard (by rfl) ?_;dsimp only));refine Kd.R_lit k41 _ 41 ?hg (N:=12) ?hd (xs:=([(⟨3,(⟨#[]⟩ : ByteArray)⟩ : S41)] : List (S41))) (inner:=[.int .i64 3,.string (⟨#[]⟩ : ByteArray)]) (ok:=fun _=>True) (okp:=fun _=>True) ?hr ?hp (fun _ hk=>hk) trivial (Below.refl _ _) (Nat.le_refl _) (by simp) ?_;(case hd=>rfl);(case hg=>rfl);(case hr=>first|(go_simp;done)|(go_simp;rfl));(case hp=>exact (Reps.c2 (show Kd.M k41 _ _ _ (⟨3,(⟨#[]⟩ : ByteArray)⟩ : S41) [.int .i64 3,.string (⟨#[]⟩ : ByteArray)] from (k41_mkM _ _ _ (⟨3,(⟨#[]⟩ : ByteArray)⟩ : S41) )) (Reps.none _ _)));intro v133 w45 ho46 hb hg_ hnew_;clear hg_ hnew_;(first|rw [← Ny132.out] at ho46|(simp only [Int.reduceToNat] at ho46;rw [← Ny132.out] at ho46));have n0_:=Aside0.mk (Kd.R_below (R_up HO121.out) hb);have n1_:=Aside0.mk (Kd.R_elder' (R_up HO125.out) (Kd.R_base ho46) hb);have n2_:=Aside0.mk (Kd.R_elder' (R_up HO128.out) (Kd.R_base ho46) hb);have n3_:=Aside0.mk (Kd.R_elder' (R_up HO131.out) (Kd.R_base ho46) hb);have n4_:=Aside0.mk (Kd.R_lower (Kd.R_new' (Kd.R_new' (Kd.R_new' ho46 (Kd.R_lt (R_up HO125.out))) (Kd.R_lt (R_up HO128.out))) (Kd.R_lt (R_up HO131.out))) (below_size (below_go HB.out)));have n5_:=Aside0.mk (blk_below (blk_up BK122.out) hb);have n6_:=Aside0.mk (below_step (below_go HB.out) hb);clear HO121;clear HO125;clear HO128;clear HO131;clear BK122;clear HB;have HO121:=n0_;have HO125:=n1_;have HO128:=n2_;have HO131:=n3_;have HO134:=n4_;have BK122:=n5_;have HB:=n6_;clear n0_ n1_ n2_ n3_ n4_ n5_ n6_;clear hb ho46;obtain ⟨Ao47,co47,eo47⟩:=Kd.R_slice HO125.out;subst eo47;obtain ⟨Ao48,co48,eo48⟩:=Kd.R_slice HO128.out;subst eo48;obtain ⟨Ao49,co49,eo49⟩:=Kd.R_slice HO131.out;subst eo49;obtain ⟨Ao50,co50,eo50⟩:=Kd.R_slice HO134.out;subst eo50)|((with_reducible refine gate_dst (N:=13) rfl ?_);(try (refine gate_guard (by rfl) ?_;dsimp only));refine Kd.N_lit (Kd.slice 41 k41) _ 27 ?hg (N':=13) ?hd (xs:=([y123,y126,y129,y132] : List (List (S41)))) (inner:=[.slice Ao47 y123.length co47,.slice Ao48 y126.length co48,.slice Ao49 y129.length co49,.slice Ao50 y132.length co50]) (ok:=(fun k_=>some k_≠(.slice Ao36 y119.length co36 : Value).ownBlock∧k_≠gb122)) (okp:=(fun k_=>some k_≠(.slice Ao36 y119.length co36 : Value).ownBlock∧k_≠gb122)) ?hr ?hp (fun _ hk=>hk) ((show ∀ k_,w45.heap.size≤k_→(fun k_=>some k_≠(.slice Ao36 y119.length co36 : Value).ownBlock∧k_≠gb122) k_ from fun k_ hk=>⟨Kd.fresh' (Kd.R_lt (R_up HO121.out)) k_ hk,Kd.freshB (blk_up BK122.out) k_ hk⟩) _ (Nat.le_refl _)) (Below.refl _ _) (Nat.le_refl _) (by simp) ?_;(case hd=>rfl);(case hg=>rfl);(case hr=>first|(go_simp;done)|(go_simp;rfl));(case hp=>exact (Reps.one (show Kd.FK (Kd.slice 41 k41) _ _ y123 [.slice Ao47 y123.length co47] from (Kd.FK_slice_mk (Kd.R_reads' (Kd.R_mono (ok':=(fun k_=>some k_≠(.slice Ao36 y119.length co36 : Value).ownBlock∧k_≠gb122)) (Kd.R_types (Kd.R_apart' (HO125.out) (Kd.R_typed HO121.out) (by decide)) BK122.out (by decide)) (fun k_ hk=>⟨hk.1.2,hk.2⟩))).2.1 (Kd.R_F (Kd.R_mono (ok':=(fun k_=>some k_≠(.slice Ao36 y119.length co36 : Value).ownBlock∧k_≠gb122)) (Kd.R_types (Kd.R_apart' (HO125.out) (Kd.R_typed HO121.out) (by decide)) BK122.out (by decide)) (fun k_ hk=>⟨hk.1.2,hk.2⟩))))) (Reps.one (show Kd.FK (Kd.slice 41 k41) _ _ y126 [.slice Ao48 y126.length co48] from (Kd.FK_slice_mk (Kd.R_reads' (Kd.R_mono (ok':=(fun k_=>some k_≠(.slice Ao36 y119.length co36 : Value).ownBlock∧k_≠gb122)) (Kd.R_types (Kd.R_apart' (HO128.out) (Kd.R_typed HO121.out) (by decide)) BK122.out (by decide)) (fun k_ hk=>⟨hk.1.2,hk.2⟩))).2.1 (Kd.R_F (Kd.R_mono (ok':=(fun k_=>some k_≠(.slice Ao36 y119.length co36 : Value).ownBlock∧k_≠gb122)) (Kd.R_types (Kd.R_apart' (HO128.out) (Kd.R_typed HO121.out) (by decide)) BK122.out (by decide)) (fun k_ hk=>⟨hk.1.2,hk.2⟩))))) (Reps.one (show Kd.FK (Kd.slice 41 k41) _ _ y129 [.slice Ao49 y129.length co49] from (Kd.FK_slice_mk (Kd.R_reads' (Kd.R_mono (ok':=(fun k_=>some k_≠(.slice Ao36 y119.length co36 : Value).ownBlock∧k_≠gb122)) (Kd.R_types (Kd.R_apart' (HO131.out) (Kd.R_typed HO121.out) (by decide)) BK122.out (by decide)) (fun k_ hk=>⟨hk.1.2,hk.2⟩))).2.1 (Kd.R_F (Kd.R_mono (ok':=(fun k_=>some k_≠(.slice Ao36 y119.length co36 : Value).ownBlock∧k_≠gb122)) (Kd.R_types (Kd.R_apart' (HO131.out) (Kd.R_typed HO121.out) (by decide)) BK122.out (by decide)) (fun k_ hk=>⟨hk.1.2,hk.2⟩))))) (Reps.one (show Kd.FK (Kd.slice 41 k41) _ _ y132 [.slice Ao50 y132.length co50] from (Kd.FK_slice_mk (Kd.R_reads' (Kd.R_mono (ok':=(fun k_=>some k_≠(.slice Ao36 y119.length co36 : Value).ownBlock∧k_≠gb122)) (Kd.R_types (Kd.R_apart' (HO134.out) (Kd.R_typed HO121.out) (by decide)) BK122.out (by decide)) (fun k_ hk=>⟨hk.1.2,hk.2⟩))).2.1 (Kd.R_F (Kd.R_mono (ok':=(fun k_=>some k_≠(.slice Ao36 y119.length co36 : Value).ownBlock∧k_≠gb122)) (Kd.R_types (Kd.R_apart' (HO134.out) (Kd.R_typed HO121.out) (by decide)) BK122.out (by decide)) (fun k_ hk=>⟨hk.1.2,hk.2⟩))))) (Reps.none _ _))))));intro v136 w51 ho52 hb hg_ hnew_;clear hg_ hnew_;(first|rw [← Ny135.out] at ho52|(simp only [Int.reduceToNat] at ho52;rw [← Ny135.out] at ho52));have n0_:=Aside0.mk (Kd.R_below (R_up HO121.out) hb);have n1_:=Aside0.mk (Kd.N_lower ho52 (below_size (below_go HB.out)));have n2_:=Aside0.mk (blk_below (blk_up BK122.out) hb);have n3_:=Aside0.mk (below_step (below_go HB.out) hb);clear HO121;clear BK122;clear HB;clear HO125;clear HO128;clear HO131;clear HO134;have HO121:=n0_;have HO137:=n1_;have BK122:=n2_;have HB:=n3_;clear n0_ n1_ n2_ n3_;clear hb ho52;have hcz53_0 : w51.cell? ⟨gb122,0,none⟩=some (.slice Ao36 y119.length co36):=(blk_cell BK122.out 0).trans rfl;have hcz53_1 : w51.cell? ⟨gb122,1,none⟩=some (.int .i64 1):=(blk_cell BK122.out 1).trans rfl;have hcz53_2 : w51.cell? ⟨gb122,2,none⟩=some (.int .i64 1):=(blk_cell BK122.out 2).trans rfl;have hcz53_3 : w51.cell? ⟨gb122,3,none⟩=some (.int .i64 1):=(blk_cell BK122.out 3).trans rfl;have hfz53_0:=blk_frozen BK122.out 0;have hfz53_1:=blk_frozen BK122.out 1;have hfz53_2:=blk_frozen BK122.out 2;have hfz53_3:=blk_frozen BK122.out 3)|((with_reducible refine gate_dst (N:=17) rfl ?_);(try (refine gate_guard (by rfl) ?_;dsimp only));refine Kd.R_lit k41 _ 41 ?hg (N:=17) ?hd (xs:=([(⟨2,(⟨#[]⟩ : ByteArray)⟩ : S41)] : List (S41))) (inner:=[.int .i64 2,.string (⟨#[]⟩ : ByteArray)]) (ok:=fun _=>True) (okp:=fun _=>True) ?hr ?hp (fun _ hk=>hk) trivial (Below.refl _ _) (Nat.le_refl _) (by simp) ?_;(case hd=>rfl);(case hg=>rfl);(case hr=>first|(go_simp;done)|(go_simp;rfl));(case hp=>exact (Reps.c2 (show Kd.M k41 _ _ _ (⟨2,(⟨#[]⟩ : ByteArray)⟩ : S41) [.int .i64 2,.string (⟨#[]⟩ : ByteArray)] from (k41_mkM _ _ _ (⟨2,(⟨#[]⟩ : ByteArray)⟩ : S41) )) (Reps.none _ _)));intro v139 w54 ho55 hb hg_ hnew_;clear hg_ hnew_;(first|rw [← Ny138.out] at ho55|(simp only [Int.reduceToNat] at ho55;rw [← Ny138.out] at ho55));have n0_:=Aside0.mk (Kd.R_below (R_up HO121.out) hb);have n1_:=Aside0.mk (Kd.N_elder' (N_up HO137.out) (Kd.R_base ho55) hb);have n2_:=Aside0.mk (Kd.R_lower ho55 (below_size (below_go HB.out)));have n3_:=Aside0.mk (blk_below (blk_up BK122.out) hb);have n4_:=Aside0.mk (below_step (below_go HB.out) hb);clear HO121;clear HO137;clear BK122;clear HB;have HO121:=n0_;have HO137:=n1_;have HO140:=n2_;have BK122:=n3_;have HB:=n4_;clear n0_ n1_ n2_ n3_ n4_;clear hb ho55;obtain ⟨Ao56,co56,eo56⟩:=Kd.N_slice HO137.out;subst eo56;obtain ⟨Ao57,co57,eo57⟩:=Kd.R_slice HO140.out;subst eo57)|((with_reducible refine gate_callee (f:=13) rfl ?_);refine goesL_ (some 18) rfl rfl Try.func13 (by kernel_rfl) rfl #[.agg #[.slice Ao36 y119.length co36,.int .i64 1,.int .i64 1,.int .i64 1],.slice Ao56 y135.length co56,.slice Ao57 y138.length co57] rfl (by (try simp only [List.map_toArray,List.map_cons,List.map_nil]);first|done|rfl|(simp only [List.length_drop,List.length_take];rfl)) ?_;(with_reducible refine (order_Below.calls k _ _ y119 1 1 1 _ _ y135 _ _ y138 t141 _ ?side1 ?side2 ?side3 ?side4 ?side5 ?side6 A1.out).mono ?_);(case side1=>repeat (first|exact (Kd.R_reads' HO121.out).2.2|(with_reducible refine Kd.C_alloc ?_ _)|(with_reducible refine Kd.C_drewN ?_ _)|(with_reducible refine Kd.C_drew ?_)));(case side2=>exact (Kd.R_reads' HO121.out).2.1);(case side3=>repeat (first|exact (Kd.N_reads' HO137.out).2.2|(with_reducible refine Kd.C_alloc ?_ _)|(with_reducible refine Kd.C_drewN ?_ _)|(with_reducible refine Kd.C_drew ?_)));(case side4=>exact (Kd.N_reads' HO137.out).2.1);(case side5=>repeat (first|exact (Kd.R_reads' HO140.out).2.2|(with_reducible refine Kd.C_alloc ?_ _)|(with_reducible refine Kd.C_drewN ?_ _)|(with_reducible refine Kd.C_drew ?_)));(case side6=>exact (Kd.R_reads' HO140.out).2.1);rintro e w58 ⟨rfl,hb⟩;refine ⟨_,rfl,?_⟩;have n0_:=Aside0.mk (Kd.R_below (R_up HO121.out) hb);have n1_:=Aside0.mk (Kd.N_below (N_up HO137.out) hb);have n2_:=Aside0.mk (Kd.R_below (R_up HO140.out) hb);have n3_:=Aside0.mk (blk_below (blk_up BK122.out) hb);have n4_:=Aside0.mk (below_step (below_go HB.out) hb);clear HO121;clear HO137;clear HO140;clear BK122;clear HB;have HO121:=n0_;have HO137:=n1_;have HO140:=n2_;have BK122:=n3_;have HB:=n4_;clear n0_ n1_ n2_ n3_ n4_;(try clear hb);(try clear hb2);(try clear hk);(try clear hi)))
  go_ret
  exact ⟨by first|rfl|(simp [errW_none,errW_some] <;> rfl)|(simp [*,errW_none,errW_some] <;> rfl),by repeat (first|(with_reducible first|exact HB.out|apply below_alloc|apply pw_below_drewN|apply below_drew1|refine below_set ?_ GE122.out)|exact HB.out)⟩
def thresherref04_Made.l0 : Nat→Int→Int→Int→Int→Int→Int→Int→Int→Int→Int→List Int→Int→Int→Int→Option (List Int × Int × Int × Int)
 | 0,_,_,_,_,_,_,_,_,_,_,_,_,_,_=>none
 | k + 1,x11,x13,x147000,x147001,x147002,x147003,x147004,x147005,x147006,x147007,x149000,x149001,x149002,x149003=>if x13 < x11 then (if 0≤x13 then (if x13 < 8 then (if x149000.length < 17592186044416 then (thresherref04_Made.l0 k x11 (wrap64 (x13 + 1)) x147000 x147001 x147002 x147003 x147004 x147005 x147006 x147007 (x149000 ++ [wrap64 (1 + (Int.tmod (wrap64 (rd [x147000,x147001,x147002,x147003,x147004,x147005,x147006,x147007] x13)) 3))]) x149001 x149002 x149003) else (none)) else (none)) else (none)) else (some (x149000,x149001,x149002,x149003))
def thresherref04_Made.f (k : Nat) (a0_0 : Int) (a0_1 : Int) (a0_2 : Int) (a0_3 : Int) (a0_4 : Int) (a0_5 : Int) (a0_6 : Int) (a0_7 : Int) (a1 : Int) (a2 : Int) (a3 : Int) (a4 : Int) : Option (List Int × Int × Int × Int):=if (wrap64 (1 + (Int.tmod (wrap64 (a1)) 8)))=0 then (none) else (thresherref04_Made.l0 k (wrap64 (1 + (Int.tmod (wrap64 (a1)) 8))) 0 a0_0 a0_1 a0_2 a0_3 a0_4 a0_5 a0_6 a0_7 ([] : List Int) (wrap64 (1 + (Int.tmod (wrap64 (a2)) (wrap64 (1 + (Int.tmod (wrap64 (a1)) 8)))))) (wrap64 (1 + (Int.tmod (wrap64 (a3)) 3))) (wrap64 (1 + (Int.tmod (wrap64 (a4)) 8))))
theorem thresherref04_Made.mono_l : ∀ k,(∀ y0 y1 y2 y3 y4 y5 y6 y7 y8 y9 y10 y11 y12 y13,LeO (thresherref04_Made.l0 k y0 y1 y2 y3 y4 y5 y6 y7 y8 y9 y10 y11 y12 y13) (thresherref04_Made.l0 (k + 1) y0 y1 y2 y3 y4 y5 y6 y7 y8 y9 y10 y11 y12 y13))
 | 0=>fun _ _ _ _ _ _ _ _ _ _ _ _ _ _ r h=>by simp [thresherref04_Made.l0] at h
 | k + 1=>by
  have ih0:=thresherref04_Made.mono_l k
  ·intro y0 y1 y2 y3 y4 y5 y6 y7 y8 y9 y10 y11 y12 y13
   unfold thresherref04_Made.l0
   repeat' first
   | (with_reducible exact ih0 _ _ _ _ _ _ _ _ _ _ _ _ _ _)
   | (with_reducible exact LeO.refl _)
   | (with_reducible exact LeO.none _)
   | (with_reducible refine LeO.ite ?_ ?_)
   | (with_reducible refine LeO.bind ?_ (fun _=>?_))
   | exact ih0 _ _ _ _ _ _ _ _ _ _ _ _ _ _
   | exact LeO.none _
   | refine LeO.ite ?_ ?_
   | refine LeO.bind ?_ (fun _=>?_)
theorem thresherref04_Made.mono : ∀ a0 a1 a2 a3 a4 a5 a6 a7 a8 a9 a10 a11 k,LeO (thresherref04_Made.f k a0 a1 a2 a3 a4 a5 a6 a7 a8 a9 a10 a11) (thresherref04_Made.f (k + 1) a0 a1 a2 a3 a4 a5 a6 a7 a8 a9 a10 a11):=by
 intro a0 a1 a2 a3 a4 a5 a6 a7 a8 a9 a10 a11 k
 have ih0:=thresherref04_Made.mono_l k
 unfold thresherref04_Made.f
 repeat' first
   | (with_reducible exact ih0 _ _ _ _ _ _ _ _ _ _ _ _ _ _)
   | (with_reducible exact LeO.refl _)
   | (with_reducible exact LeO.none _)
   | (with_reducible refine LeO.ite ?_ ?_)
   | (with_reducible refine LeO.bind ?_ (fun _=>?_))
   | exact ih0 _ _ _ _ _ _ _ _ _ _ _ _ _ _
   | exact LeO.none _
   | refine LeO.ite ?_ ?_
   | refine LeO.bind ?_ (fun _=>?_)
def thresherref04_Made.T6 : Bool × List (List Nat × List Nat):=(true,[([],[]),([0],[0]),([],[]),([2],[2]),([3],[3]),([4],[4]),([5],[5]),([6],[6]),([7],[7]),([1,8],[1,8]),([0,1,2,3,4,5,6,7,8,9],[]),([10,9,9,0,1,2,3,4,5,6,7,8,9],[9,10])])
def thresherref04_Made.B6 : List Nat:=[0,1,0,4,12,28,60,124,252,511,1023,2047]
theorem thresherref04_Made.tab6 : rtab .any (opsOf Try.f23 6)=thresherref04_Made.T6:=by kernel_rfl
theorem thresherref04_Made.bits6 : waitsOk thresherref04_Made.T6.2 thresherref04_Made.B6=true:=by kernel_rfl
set_option maxHeartbeats 8000000 in
set_option maxRecDepth 100000 in
theorem thresherref04_Made.calls (k : Nat) (a0_0 : Int) (a0_1 : Int) (a0_2 : Int) (a0_3 : Int) (a0_4 : Int) (a0_5 : Int) (a0_6 : Int) (a0_7 : Int) (a1 : Int) (a2 : Int) (a3 : Int) (a4 : Int) (r1 : List Int) (r2 : Int) (r3 : Int) (r4 : Int) (w : World) (h : thresherref04_Made.f k a0_0 a0_1 a0_2 a0_3 a0_4 a0_5 a0_6 a0_7 a1 a2 a3 a4=some (r1,r2,r3,r4)) :
  Calls Try.prog 23 #[.agg #[.int .u8 a0_0,.int .u8 a0_1,.int .u8 a0_2,.int .u8 a0_3,.int .u8 a0_4,.int .u8 a0_5,.int .u8 a0_6,.int .u8 a0_7],.int .u8 a1,.int .u8 a2,.int .u8 a3,.int .u8 a4] w fun e w'=>∃ v0_ : Value,e=.returned (.agg #[v0_,.int .i64 r2,.int .i64 r3,.int .i64 r4])∧Kd.R (Kd.int .i64) 3 w' w.heap.size (fun _=>True) v0_ r1∧Below w.heap.size w w':=by
 have hu22:=Try.underlying22
 have hu31:=Try.underlying31
 have HB:=Aside0.mk (Below.refl w.heap.size w)
 have H : (if (wrap64 (1 + (Int.tmod (wrap64 (a1)) 8)))=0 then (none) else (thresherref04_Made.l0 k (wrap64 (1 + (Int.tmod (wrap64 (a1)) 8))) 0 a0_0 a0_1 a0_2 a0_3 a0_4 a0_5 a0_6 a0_7 ([] : List Int) (wrap64 (1 + (Int.tmod (wrap64 (a2)) (wrap64 (1 + (Int.tmod (wrap64 (a1)) 8)))))) (wrap64 (1 + (Int.tmod (wrap64 (a3)) 3))) (wrap64 (1 + (Int.tmod (wrap64 (a4)) 8)))))=some (r1,r2,r3,r4):=h
 clear h
 by_cases c6 : (wrap64 (1 + (Int.tmod (wrap64 (a1)) 8)))=0
 ·rw [if_pos c6] at H
  exact absurd H (by simp)
 ·rw [if_neg c6] at H
  have c6b0 : ((wrap64 (1 + (Int.tmod (wrap64 (a1)) 8))) == 0)=false:=beq_eq_false_iff_ne.mpr c6
  have c6b1 : ((wrap64 (1 + (Int.tmod (wrap64 (a1)) 8))) != 0)=true:=bne_iff_ne.mpr c6
  have H':=Aside0.mk H
  clear H
  go_enter Try.func23,Try.ntmps23
  go_wp2_with (first|((with_reducible refine gate_dst (N:=5) rfl ?_);refine box_event ?hg (N:=5) ?hd (cs:=#[.int .u8 a0_0,.int .u8 a0_1,.int .u8 a0_2,.int .u8 a0_3,.int .u8 a0_4,.int .u8 a0_5,.int .u8 a0_6,.int .u8 a0_7]) (t:=22) ?hr ?_;(case hd=>rfl);(case hg=>rfl);(case hr=>first|(go_simp;done)|(go_simp;rfl));intro gb146 hg w7 hbox hb;have n0_:=Aside0.mk (below_step (below_up HB.out) hb);have n1_:=Aside0.mk (hbox);have n2_:=Aside0.mk ((by rw [hg];exact (below_size (below_up HB.out)) : w.heap.size≤gb146));have n3_:=Aside0.mk ((by rw [hg];exact (below_size (below_up HB.out)) : w.heap.size≤gb146));clear HB;have HB:=n0_;have BK146:=n1_;have GW146:=n2_;have GE146:=n3_;clear n0_ n1_ n2_ n3_;clear hb hbox hg)|((with_reducible refine gate_dst (N:=10) rfl ?_);refine box_event ?hg (N:=10) ?hd (cs:=#[.slice none 0 0,.int .i64 0,.int .i64 0,.int .i64 0]) (t:=31) ?hr ?_;(case hd=>rfl);(case hg=>rfl);(case hr=>first|(go_simp;done)|(go_simp;rfl));intro gb147 hg w8 hbox hb;have n0_:=Aside0.mk (blk_below (blk_up BK146.out) hb);have n1_:=Aside0.mk (below_step (below_go HB.out) hb);have n2_:=Aside0.mk (hbox);have n3_:=Aside0.mk ((by rw [hg];exact (below_size (below_go HB.out)) : w.heap.size≤gb147));have n4_:=Aside0.mk ((by rw [hg];exact (below_size (below_go HB.out)) : w.heap.size≤gb147));have n5_:=Aside0.mk ((by rw [hg];exact Nat.ne_of_lt (blk_lt (blk_up BK146.out)) : gb146≠gb147));have n6_:=Aside0.mk ((by rw [hg];exact Nat.ne_of_gt (blk_lt (blk_up BK146.out)) : gb147≠gb146));clear BK146;clear HB;have BK146:=n0_;have HB:=n1_;have BK147:=n2_;have GW147:=n3_;have GE147:=n4_;have NB146_147:=n5_;have NB147_146:=n6_;clear n0_ n1_ n2_ n3_ n4_ n5_ n6_;clear hb hbox hg)|((with_reducible refine gate_dst (N:=12) rfl ?_);refine box_event ?hg (N:=12) ?hd (cs:=#[.slice none 0 0,.int .i64 0,.int .i64 0,.int .i64 0]) (t:=31) ?hr ?_;(case hd=>rfl);(case hg=>rfl);(case hr=>first|(go_simp;done)|(go_simp;rfl));intro gb148 hg w9 hbox hb;have n0_:=Aside0.mk (blk_below (blk_up BK146.out) hb);have n1_:=Aside0.mk (blk_below (blk_up BK147.out) hb);have n2_:=Aside0.mk (below_step (below_go HB.out) hb);have n3_:=Aside0.mk (hbox);have n4_:=Aside0.mk ((by rw [hg];exact (below_size (below_go HB.out)) : w.heap.size≤gb148));have n5_:=Aside0.mk ((by rw [hg];exact (below_size (below_go HB.out)) : w.heap.size≤gb148));have n6_:=Aside0.mk ((by rw [hg];exact Nat.ne_of_lt (blk_lt (blk_up BK146.out)) : gb146≠gb148));have n7_:=Aside0.mk ((by rw [hg];exact Nat.ne_of_gt (blk_lt (blk_up BK146.out)) : gb148≠gb146));have n8_:=Aside0.mk ((by rw [hg];exact Nat.ne_of_lt (blk_lt (blk_up BK147.out)) : gb147≠gb148));have n9_:=Aside0.mk ((by rw [hg];exact Nat.ne_of_gt (blk_lt (blk_up BK147.out)) : gb148≠gb147));clear BK146;clear BK147;clear HB;have BK146:=n0_;have BK147:=n1_;have HB:=n2_;have BK148:=n3_;have GW148:=n4_;have GE148:=n5_;have NB146_148:=n6_;have NB148_146:=n7_;have NB147_148:=n8_;have NB148_147:=n9_;clear n0_ n1_ n2_ n3_ n4_ n5_ n6_ n7_ n8_ n9_;clear hb hbox hg;have hnb10:=NB148_146.out;have hnc10:=NB146_148.out;have hnb11:=NB148_147.out;have hnc11:=NB147_148.out;have hcz12_0 : w9.cell? ⟨gb148,0,none⟩=some (.slice none 0 0):=(blk_cell BK148.out 0).trans rfl;have hcz12_1 : w9.cell? ⟨gb148,1,none⟩=some (.int .i64 0):=(blk_cell BK148.out 1).trans rfl;have hcz12_2 : w9.cell? ⟨gb148,2,none⟩=some (.int .i64 0):=(blk_cell BK148.out 2).trans rfl;have hcz12_3 : w9.cell? ⟨gb148,3,none⟩=some (.int .i64 0):=(blk_cell BK148.out 3).trans rfl;have hfz12_0:=blk_frozen BK148.out 0;have hfz12_1:=blk_frozen BK148.out 1;have hfz12_2:=blk_frozen BK148.out 2;have hfz12_3:=blk_frozen BK148.out 3))
  go_loopg [13] k (fun kq v13 w'=>∃ (x13_1 : Int) (x149000_1 : List Int) (u149000 : Value),v13=.int .i64 x13_1∧Aside0 (thresherref04_Made.l0 kq (wrap64 (1 + (Int.tmod (wrap64 (a1)) 8))) x13_1 a0_0 a0_1 a0_2 a0_3 a0_4 a0_5 a0_6 a0_7 x149000_1 (wrap64 (1 + (Int.tmod (wrap64 (a2)) (wrap64 (1 + (Int.tmod (wrap64 (a1)) 8)))))) (wrap64 (1 + (Int.tmod (wrap64 (a3)) 3))) (wrap64 (1 + (Int.tmod (wrap64 (a4)) 8)))=some (r1,r2,r3,r4))∧Aside0 (kq≤k)∧Aside0 (Kd.R (Kd.int .i64) 3 w' w.heap.size (fun _=>True) u149000 x149000_1)∧Aside0 (w'.heap[gb146]?=some (.cells #[.int .u8 a0_0,.int .u8 a0_1,.int .u8 a0_2,.int .u8 a0_3,.int .u8 a0_4,.int .u8 a0_5,.int .u8 a0_6,.int .u8 a0_7] 22 (0,0)))∧Aside0 (w'.heap[gb147]?=some (.cells #[(.slice none 0 0),.int .i64 0,.int .i64 0,.int .i64 0] 31 (0,0)))∧Aside0 (w'.heap[gb148]?=some (.cells #[u149000,.int .i64 (wrap64 (1 + (Int.tmod (wrap64 (a2)) (wrap64 (1 + (Int.tmod (wrap64 (a1)) 8)))))),.int .i64 (wrap64 (1 + (Int.tmod (wrap64 (a3)) 3))),.int .i64 (wrap64 (1 + (Int.tmod (wrap64 (a4)) 8)))] 31 (0,0)))∧Aside0 (Below w.heap.size w w'))
  case atStart=>exact ⟨(0),(([] : List Int)),(.slice none 0 0),(by first|rfl|(simp;done)|(simp [*];done)),H',⟨Nat.le_refl _⟩,⟨by first|exact Kd.R_nil _ _ _ _ _|exact Kd.N_nil _ _ _ _ _|exact Kd.V_nil _ _ _ _ _|exact Kd.Q_nil _ _ _ _ _|exact Kd.S_nil _ _ _ _ _⟩,⟨by (with_reducible repeat (first|refine blk_drewN ?_ _|refine blk_drew ?_|refine blk_alloc ?_ _));refine blk_far ?_ NB146_148.out _;(with_reducible repeat (first|refine blk_drewN ?_ _|refine blk_drew ?_|refine blk_alloc ?_ _));refine blk_far ?_ NB146_148.out _;(with_reducible repeat (first|refine blk_drewN ?_ _|refine blk_drew ?_|refine blk_alloc ?_ _));refine blk_far ?_ NB146_148.out _;(with_reducible repeat (first|refine blk_drewN ?_ _|refine blk_drew ?_|refine blk_alloc ?_ _));refine blk_far ?_ NB146_148.out _;(with_reducible repeat (first|refine blk_drewN ?_ _|refine blk_drew ?_|refine blk_alloc ?_ _));exact BK146.out⟩,⟨by (with_reducible repeat (first|refine blk_drewN ?_ _|refine blk_drew ?_|refine blk_alloc ?_ _));refine blk_far ?_ NB147_148.out _;(with_reducible repeat (first|refine blk_drewN ?_ _|refine blk_drew ?_|refine blk_alloc ?_ _));refine blk_far ?_ NB147_148.out _;(with_reducible repeat (first|refine blk_drewN ?_ _|refine blk_drew ?_|refine blk_alloc ?_ _));refine blk_far ?_ NB147_148.out _;(with_reducible repeat (first|refine blk_drewN ?_ _|refine blk_drew ?_|refine blk_alloc ?_ _));refine blk_far ?_ NB147_148.out _;(with_reducible repeat (first|refine blk_drewN ?_ _|refine blk_drew ?_|refine blk_alloc ?_ _));exact BK147.out⟩,⟨by (with_reducible repeat (first|refine blk_drewN ?_ _|refine blk_drew ?_|refine blk_alloc ?_ _));refine blk_put (cs:=#[.slice none 0 0,.int .i64 (wrap64 (1 + (Int.tmod (wrap64 (a2)) (wrap64 (1 + (Int.tmod (wrap64 (a1)) 8)))))),.int .i64 (wrap64 (1 + (Int.tmod (wrap64 (a3)) 3))),.int .i64 0]) ?_ 3 _ rfl;(with_reducible repeat (first|refine blk_drewN ?_ _|refine blk_drew ?_|refine blk_alloc ?_ _));refine blk_put (cs:=#[.slice none 0 0,.int .i64 (wrap64 (1 + (Int.tmod (wrap64 (a2)) (wrap64 (1 + (Int.tmod (wrap64 (a1)) 8)))))),.int .i64 0,.int .i64 0]) ?_ 2 _ rfl;(with_reducible repeat (first|refine blk_drewN ?_ _|refine blk_drew ?_|refine blk_alloc ?_ _));refine blk_put (cs:=#[.slice none 0 0,.int .i64 0,.int .i64 0,.int .i64 0]) ?_ 1 _ rfl;(with_reducible repeat (first|refine blk_drewN ?_ _|refine blk_drew ?_|refine blk_alloc ?_ _));refine blk_put (cs:=#[.slice none 0 0,.int .i64 0,.int .i64 0,.int .i64 0]) ?_ 0 _ rfl;(with_reducible repeat (first|refine blk_drewN ?_ _|refine blk_drew ?_|refine blk_alloc ?_ _));exact BK148.out⟩,⟨by repeat (first|(with_reducible first|exact HB.out|apply below_alloc|apply pw_below_drewN|apply below_drew1|refine below_set ?_ GE146.out|refine below_set ?_ GE147.out|refine below_set ?_ GE148.out)|exact HB.out)⟩⟩
  case round =>
   clear H'
   try clear c1
   try clear c2
   try clear p2
   try clear c6
   try clear c6b0
   try clear c6b1
   try clear p6
   try clear c10
   try clear c11
   try clear hcz12_0
   try clear hcz12_1
   try clear hcz12_2
   try clear hcz12_3
   try clear hfz12_0
   try clear hfz12_1
   try clear hfz12_2
   try clear hfz12_3
   obtain ⟨x13_1,x149000_1,u149000,rfl,HA,HK1,HO_149000,BK146,BK147,BK148,HB⟩:=hrel
   cases gk with
   | zero=>exact absurd HA.out (by simp [thresherref04_Made.l0])
   | succ k1 =>
    have H:=HA.out
    clear HA
    simp only [thresherref04_Made.l0] at H
    by_cases c13 : x13_1 < (wrap64 (1 + (Int.tmod (wrap64 (a1)) 8)))
    ·rw [if_pos c13] at H
     have c13b0 : decide (x13_1 < (wrap64 (1 + (Int.tmod (wrap64 (a1)) 8))))=true:=decide_eq_true c13
     clear c13
     by_cases c14 : 0≤x13_1
     ·rw [if_pos c14] at H
      have c14b0 : decide (0≤x13_1)=true:=decide_eq_true c14
      clear c14
      by_cases c15 : x13_1 < 8
      ·rw [if_pos c15] at H
       have c15b0 : decide (x13_1 < 8)=true:=decide_eq_true c15
       clear c15
       have c16b0:=eq_true (of_decide_eq_true (by first|(with_reducible assumption)|assumption) : 0≤x13_1)
       have c17b0:=eq_true (of_decide_eq_true (by first|(with_reducible assumption)|assumption) : x13_1 < 8)
       by_cases c18 : x149000_1.length < 17592186044416
       ·rw [if_pos c18] at H
        have LMc18:=Aside0.mk c18
        clear c18
        obtain ⟨y149,hy149⟩ : ∃ y_ : List Int,y_=(x149000_1 ++ [wrap64 (1 + (Int.tmod (wrap64 (rd [a0_0,a0_1,a0_2,a0_3,a0_4,a0_5,a0_6,a0_7] x13_1)) 3))]):=⟨_,rfl⟩
        replace H : (thresherref04_Made.l0 k1 (wrap64 (1 + (Int.tmod (wrap64 (a1)) 8))) (wrap64 (x13_1 + 1)) a0_0 a0_1 a0_2 a0_3 a0_4 a0_5 a0_6 a0_7 y149 (wrap64 (1 + (Int.tmod (wrap64 (a2)) (wrap64 (1 + (Int.tmod (wrap64 (a1)) 8)))))) (wrap64 (1 + (Int.tmod (wrap64 (a3)) 3))) (wrap64 (1 + (Int.tmod (wrap64 (a4)) 8))))=some (r1,r2,r3,r4):=by first|(rw [hy149];with_reducible exact H)|(have H2_:=(Option.bind_some _ _).symm.trans H;rw [hy149];with_reducible exact H2_)|(have H2_:=(Option.bind_some _ _).symm.trans H;with_reducible exact H2_)|with_reducible exact H|(rw [hy149];exact H)|exact H
        have Ny149:=Aside0.mk hy149
        clear hy149
        have H':=Aside0.mk H
        clear H
        try go_wp2
        have n0_:=Aside0.mk (Kd.R_drew HO_149000.out)
        have n1_:=Aside0.mk (blk_drew BK146.out)
        have n2_:=Aside0.mk (blk_drew BK147.out)
        have n3_:=Aside0.mk (blk_drew BK148.out)
        have n4_:=Aside0.mk (below_drew1 HB.out)
        clear HO_149000
        clear BK146
        clear BK147
        clear BK148
        clear HB
        have HO_149000:=n0_
        have BK146:=n1_
        have BK147:=n2_
        have BK148:=n3_
        have HB:=n4_
        clear n0_ n1_ n2_ n3_ n4_
        refine start_ (n:=12) (S:=fun w'=>w'.cell? ⟨gb148,0,none⟩=some (u149000)∧w'.cell? ⟨gb148,1,none⟩=some (.int .i64 (wrap64 (1 + (Int.tmod (wrap64 (a2)) (wrap64 (1 + (Int.tmod (wrap64 (a1)) 8)))))))∧w'.cell? ⟨gb148,2,none⟩=some (.int .i64 (wrap64 (1 + (Int.tmod (wrap64 (a3)) 3))))∧w'.cell? ⟨gb148,3,none⟩=some (.int .i64 (wrap64 (1 + (Int.tmod (wrap64 (a4)) 8))))∧w'.cell? ⟨gb146,0,none⟩=some (.int .u8 a0_0)∧w'.cell? ⟨gb146,1,none⟩=some (.int .u8 a0_1)∧w'.cell? ⟨gb146,2,none⟩=some (.int .u8 a0_2)∧w'.cell? ⟨gb146,3,none⟩=some (.int .u8 a0_3)∧w'.cell? ⟨gb146,4,none⟩=some (.int .u8 a0_4)∧w'.cell? ⟨gb146,5,none⟩=some (.int .u8 a0_5)∧w'.cell? ⟨gb146,6,none⟩=some (.int .u8 a0_6)∧w'.cell? ⟨gb146,7,none⟩=some (.int .u8 a0_7)∧w'.cell? ⟨gb146,x13_1.toNat,none⟩=some (.int .u8 (rd [a0_0,a0_1,a0_2,a0_3,a0_4,a0_5,a0_6,a0_7] x13_1))) (ds:=[11]) #[false,false,false,false,false,false,false,false,false,false,false,false] (by kernel_rfl) rfl rfl ⟨(blk_cell BK148.out 0).trans rfl,(blk_cell BK148.out 1).trans rfl,(blk_cell BK148.out 2).trans rfl,(blk_cell BK148.out 3).trans rfl,(blk_cell BK146.out 0).trans rfl,(blk_cell BK146.out 1).trans rfl,(blk_cell BK146.out 2).trans rfl,(blk_cell BK146.out 3).trans rfl,(blk_cell BK146.out 4).trans rfl,(blk_cell BK146.out 5).trans rfl,(blk_cell BK146.out 6).trans rfl,(blk_cell BK146.out 7).trans rfl,(blk_cell BK146.out x13_1.toNat).trans (cells_rd .u8 [a0_0,a0_1,a0_2,a0_3,a0_4,a0_5,a0_6,a0_7] x13_1 (of_decide_eq_true (by first|(with_reducible assumption)|assumption)) (of_decide_eq_true (by first|(with_reducible assumption)|assumption)))⟩ (fun hHeld=>?_);refine with_tabW thresherref04_Made.tab6 thresherref04_Made.bits6 (fun HT_ HW_=>?_)
        generalize wr.drew=w19 at HO_149000 BK146 BK147 BK148 HB hHeld ⊢
        refine pure_ (i:=0) (N:=some 37) (v:=?_) (a':=?_) #[true,false,false,false,false,false,false,false,false,false,false,false] rfl rfl (any_of HT_.out (by kernel_rfl)) (fun _ _ _ h=>h) (Or.inl ⟨by rfl,?_⟩) ?_ ?_
        rotate_left;(intro w';go_simp;with_reducible rfl);rotate_left;(simp only [Act.put,List.setIfInBounds_toArray,List.set_cons_zero,List.set_cons_succ,i64_w,i32_w];rfl)
        refine pure_ (i:=2) (N:=some 39) (v:=?_) (a':=?_) #[true,false,true,false,false,false,false,false,false,false,false,false] rfl rfl (any_of HT_.out (by kernel_rfl)) (fun _ _ _ h=>h) (Or.inl ⟨by rfl,?_⟩) ?_ ?_
        rotate_left;(intro w';go_simp;with_reducible rfl);rotate_left;(simp only [Act.put,List.setIfInBounds_toArray,List.set_cons_zero,List.set_cons_succ,i64_w,i32_w];rfl)
        refine pure_ (i:=3) (N:=some 40) (v:=?_) (a':=?_) #[true,false,true,true,false,false,false,false,false,false,false,false] rfl rfl (any_of HT_.out (by kernel_rfl)) (fun _ _ _ h=>h) (Or.inl ⟨by rfl,?_⟩) ?_ ?_
        rotate_left;(intro w';go_simp;with_reducible rfl);rotate_left;(simp only [Act.put,List.setIfInBounds_toArray,List.set_cons_zero,List.set_cons_succ,i64_w,i32_w];rfl)
        refine take_ (i:=1) (N:=some 38) (v:=?_) (a':=?_) #[true,true,true,true,false,false,false,false,false,false,false,false] rfl rfl (take_ofW HT_.out HW_.out (by kernel_rfl)) (fun _ _ _ h=>h) (Or.inl ⟨by rfl,?_⟩) hHeld ?_ ?_
        rotate_left;(rintro w' ⟨s0,s1,s2,s3,s4,s5,s6,s7,s8,s9,s10,s11,s12⟩;go_simp;with_reducible rfl);rotate_left;(simp only [Act.put,List.setIfInBounds_toArray,List.set_cons_zero,List.set_cons_succ,i64_w,i32_w];rfl)
        refine take_ (i:=4) (N:=some 41) (v:=?_) (a':=?_) #[true,true,true,true,true,false,false,false,false,false,false,false] rfl rfl (take_ofW HT_.out HW_.out (by kernel_rfl)) (fun _ _ _ h=>h) (Or.inl ⟨by rfl,?_⟩) hHeld ?_ ?_
        rotate_left;(rintro w' ⟨s0,s1,s2,s3,s4,s5,s6,s7,s8,s9,s10,s11,s12⟩;go_simp;with_reducible rfl);rotate_left;(simp only [Act.put,List.setIfInBounds_toArray,List.set_cons_zero,List.set_cons_succ,i64_w,i32_w];rfl)
        refine pure_ (i:=5) (N:=some 42) (v:=?_) (a':=?_) #[true,true,true,true,true,true,false,false,false,false,false,false] rfl rfl (any_of HT_.out (by kernel_rfl)) (fun _ _ _ h=>h) (Or.inl ⟨by rfl,?_⟩) ?_ ?_
        rotate_left;(intro w';go_simp;with_reducible rfl);rotate_left;(simp only [Act.put,List.setIfInBounds_toArray,List.set_cons_zero,List.set_cons_succ,i64_w,i32_w];rfl)
        refine pure_ (i:=6) (N:=some 43) (v:=?_) (a':=?_) #[true,true,true,true,true,true,true,false,false,false,false,false] rfl rfl (any_of HT_.out (by kernel_rfl)) (fun _ _ _ h=>h) (Or.inl ⟨by rfl,?_⟩) ?_ ?_
        rotate_left;(intro w';go_simp;with_reducible rfl);rotate_left;(simp only [Act.put,List.setIfInBounds_toArray,List.set_cons_zero,List.set_cons_succ,i64_w,i32_w];rfl)
        refine pure_ (i:=7) (N:=some 44) (v:=?_) (a':=?_) #[true,true,true,true,true,true,true,true,false,false,false,false] rfl rfl (any_of HT_.out (by kernel_rfl)) (fun _ _ _ h=>h) (Or.inl ⟨by rfl,?_⟩) ?_ ?_
        rotate_left;(intro w';go_simp;with_reducible rfl);rotate_left;(simp only [Act.put,List.setIfInBounds_toArray,List.set_cons_zero,List.set_cons_succ,i64_w,i32_w];rfl)
        refine one_ (i:=8) (N:=some 45) #[true,true,true,true,true,true,true,true,true,false,false,false] rfl rfl (one_of HT_.out (by kernel_rfl)) (by decide) (fun K hK=>?_)
        refine value_ (w1:=?_) (v:=?_) (by rfl) rfl ?_ ?_
        rotate_left 2
        ·go_simp
         constructor
         ·rfl
         ·rfl
        refine hK.out _ _ ⟨(blk_cell (blk_alloc BK148.out _) 0).trans rfl,(blk_cell (blk_alloc BK148.out _) 1).trans rfl,(blk_cell (blk_alloc BK148.out _) 2).trans rfl,(blk_cell (blk_alloc BK148.out _) 3).trans rfl,(blk_cell (blk_alloc BK146.out _) 0).trans rfl,(blk_cell (blk_alloc BK146.out _) 1).trans rfl,(blk_cell (blk_alloc BK146.out _) 2).trans rfl,(blk_cell (blk_alloc BK146.out _) 3).trans rfl,(blk_cell (blk_alloc BK146.out _) 4).trans rfl,(blk_cell (blk_alloc BK146.out _) 5).trans rfl,(blk_cell (blk_alloc BK146.out _) 6).trans rfl,(blk_cell (blk_alloc BK146.out _) 7).trans rfl,(blk_cell (blk_alloc BK146.out _) x13_1.toNat).trans (cells_rd .u8 [a0_0,a0_1,a0_2,a0_3,a0_4,a0_5,a0_6,a0_7] x13_1 (of_decide_eq_true (by first|(with_reducible assumption)|assumption)) (of_decide_eq_true (by first|(with_reducible assumption)|assumption)))⟩ (fun hHeld=>?_)
        clear hK K
        refine norm_ (a':=?_) ?_ ?_
        rotate_left
        ·show Act.put _ (some 45) _=_
         simp only [Act.put,List.setIfInBounds_toArray,List.set_cons_zero,List.set_cons_succ,i64_w,i32_w]
         rfl
        refine one_ (i:=9) (N:=some 46) #[true,true,true,true,true,true,true,true,true,true,false,false] rfl rfl (one_of HT_.out (by kernel_rfl)) (by decide) (fun K hK=>?_)
        refine Kd.R_append_step (Kd.int .i64) (w0:=w) w.heap.size (by rfl) (.tmp 38) (.tmp 45) 29 3 (.int .i64 0) 8 rfl Try.underlying29 info3 rfl (by decide) (by omega) u149000 x149000_1 (wrap64 (1 + (Int.tmod (wrap64 (rd [a0_0,a0_1,a0_2,a0_3,a0_4,a0_5,a0_6,a0_7] x13_1)) 3))) [.int .i64 (wrap64 (1 + (Int.tmod (wrap64 (rd [a0_0,a0_1,a0_2,a0_3,a0_4,a0_5,a0_6,a0_7] x13_1)) 3)))] (fun _=>True) (fun _=>False) rfl rfl ?aP (fun _ hk=>hk.elim) ?aF ?aO ?aB ?aS ?aL ?_
        (case aP=>exact rfl)
        (case aB=>exact (below_go HB.out))
        (case aF=>exact (fun _ _=>trivial))
        (case aO=>exact (R_up HO_149000.out))
        (case aS=>exact (below_size (below_go HB.out)))
        (case aL=>have:=LMc18.out;omega)
        intro v150 w20 ho hb hg hat
        rw [← Ny149.out] at ho
        have n0_:=Aside0.mk (blk_grown (blk_up BK146.out) hg (Kd.R_ne HO_149000.out BK146.out (by decide)))
        have n1_:=Aside0.mk (blk_grown (blk_up BK147.out) hg (Kd.R_ne HO_149000.out BK147.out (by decide)))
        have n2_:=Aside0.mk (blk_grown (blk_up BK148.out) hg (Kd.R_ne HO_149000.out BK148.out (by decide)))
        have n3_:=Aside0.mk (hb)
        have n4_:=Aside0.mk (ho)
        clear BK146
        clear BK147
        clear BK148
        clear HB
        clear HO_149000
        have BK146:=n0_
        have BK147:=n1_
        have BK148:=n2_
        have HB:=n3_
        have HO151:=n4_
        clear n0_ n1_ n2_ n3_ n4_
        clear ho hb hg hat
        obtain ⟨Ao21,co21,eo21⟩:=Kd.R_slice HO151.out
        (first|subst eo21|(injection eo21 with f1_ f2_ f3_;have f4_:=f1_.symm;have f5_:=f3_.symm;clear f1_ f2_ f3_;subst f4_;subst f5_))
        refine hK.out _ _ ⟨(blk_cell BK148.out 0).trans rfl,(blk_cell BK148.out 1).trans rfl,(blk_cell BK148.out 2).trans rfl,(blk_cell BK148.out 3).trans rfl,(blk_cell BK146.out 0).trans rfl,(blk_cell BK146.out 1).trans rfl,(blk_cell BK146.out 2).trans rfl,(blk_cell BK146.out 3).trans rfl,(blk_cell BK146.out 4).trans rfl,(blk_cell BK146.out 5).trans rfl,(blk_cell BK146.out 6).trans rfl,(blk_cell BK146.out 7).trans rfl,(blk_cell BK146.out x13_1.toNat).trans (cells_rd .u8 [a0_0,a0_1,a0_2,a0_3,a0_4,a0_5,a0_6,a0_7] x13_1 (of_decide_eq_true (by first|(with_reducible assumption)|assumption)) (of_decide_eq_true (by first|(with_reducible assumption)|assumption)))⟩ (fun hHeld=>?_)
        clear hK K
        refine norm_ (a':=?_) ?_ ?_
        rotate_left
        ·show Act.put _ (some 46) _=_
         simp only [Act.put,List.setIfInBounds_toArray,List.set_cons_zero,List.set_cons_succ,i64_w,i32_w]
         rfl
        refine pure_ (i:=10) (N:=some 47) (v:=?_) (a':=?_) #[true,true,true,true,true,true,true,true,true,true,true,false] rfl rfl (any_of HT_.out (by kernel_rfl)) (fun _ _ _ h=>h) (Or.inl ⟨by rfl,?_⟩) ?_ ?_
        rotate_left;(intro w';go_simp;with_reducible rfl);rotate_left;(simp only [Act.put,List.setIfInBounds_toArray,List.set_cons_zero,List.set_cons_succ,i64_w,i32_w];rfl)
        refine last_ (i:=11) (N:=none) #[true,true,true,true,true,true,true,true,true,true,true,true] rfl rfl (one_of HT_.out (by kernel_rfl)) (by decide) (fun K hK=>?_)
        have hs22 : w20.cell? ⟨gb148,0,none⟩=some (u149000):=(blk_cell BK148.out 0).trans rfl
        have hfs22:=blk_frozen BK148.out 0
        have hns22_0:=NB146_148.out
        have hns22_1:=NB147_148.out
        have hms22_0:=NB148_146.out
        have hms22_1:=NB148_147.out
        refine skip_ (w1:=?_) (by rfl) rfl ?_ ?_
        rotate_left
        ·go_simp
         rfl
        refine hK.out _ _ ?_
        clear hK K
        refine done_ (done_of HT_.out (by kernel_rfl)) ?_
        (try clear hHeld)
        try go_wp2
        go_roundg k1
        case measure=>have:=HK1.out;omega
        case rel=>exact ⟨(wrap64 (x13_1 + 1)),(y149),(.slice Ao21 y149.length co21),(by first|rfl|(simp;done)|(simp [*];done)),(by first|exact H'|(subst_vars;exact H')),⟨by have:=HK1.out;omega⟩,⟨by (with_reducible repeat (first|apply Kd.R_alloc|apply Kd.R_drewN|apply Kd.R_drew));exact Kd.R_mono (Kd.R_far (p:=⟨gb148,0,none⟩) (Kd.R_types HO151.out BK148.out (by decide)) (fun _ hk=>hk.2) (.slice Ao21 y149.length co21)) (fun _ hk=>trivial)⟩,⟨by (with_reducible repeat (first|refine blk_drewN ?_ _|refine blk_drew ?_|refine blk_alloc ?_ _));refine blk_far ?_ NB146_148.out _;(with_reducible repeat (first|refine blk_drewN ?_ _|refine blk_drew ?_|refine blk_alloc ?_ _));exact BK146.out⟩,⟨by (with_reducible repeat (first|refine blk_drewN ?_ _|refine blk_drew ?_|refine blk_alloc ?_ _));refine blk_far ?_ NB147_148.out _;(with_reducible repeat (first|refine blk_drewN ?_ _|refine blk_drew ?_|refine blk_alloc ?_ _));exact BK147.out⟩,⟨by (with_reducible repeat (first|refine blk_drewN ?_ _|refine blk_drew ?_|refine blk_alloc ?_ _));refine blk_put (cs:=#[u149000,.int .i64 (wrap64 (1 + (Int.tmod (wrap64 (a2)) (wrap64 (1 + (Int.tmod (wrap64 (a1)) 8)))))),.int .i64 (wrap64 (1 + (Int.tmod (wrap64 (a3)) 3))),.int .i64 (wrap64 (1 + (Int.tmod (wrap64 (a4)) 8)))]) ?_ 0 _ rfl;(with_reducible repeat (first|refine blk_drewN ?_ _|refine blk_drew ?_|refine blk_alloc ?_ _));exact BK148.out⟩,⟨by repeat (first|(with_reducible first|exact HB.out|apply below_alloc|apply pw_below_drewN|apply below_drew1|refine below_set ?_ GE146.out|refine below_set ?_ GE147.out|refine below_set ?_ GE148.out)|exact HB.out)⟩⟩
       ·rw [if_neg c18] at H
        exact absurd H (by simp)
      ·rw [if_neg c15] at H
       exact absurd H (by simp)
     ·rw [if_neg c14] at H
      exact absurd H (by simp)
    ·rw [if_neg c13] at H
     have c13b0 : decide (x13_1 < (wrap64 (1 + (Int.tmod (wrap64 (a1)) 8))))=false:=decide_eq_false c13
     clear c13
     simp only [Option.some.injEq,Prod.mk.injEq] at H
     obtain ⟨rfl,rfl,rfl,rfl⟩:=H
     have hnb23:=NB148_146.out
     have hnc23:=NB146_148.out
     have hnb24:=NB148_147.out
     have hnc24:=NB147_148.out
     have hcz25_0 : wr.cell? ⟨gb148,0,none⟩=some (u149000):=(blk_cell BK148.out 0).trans rfl
     have hcz25_1 : wr.cell? ⟨gb148,1,none⟩=some (.int .i64 (wrap64 (1 + (Int.tmod (wrap64 (a2)) (wrap64 (1 + (Int.tmod (wrap64 (a1)) 8))))))):=(blk_cell BK148.out 1).trans rfl
     have hcz25_2 : wr.cell? ⟨gb148,2,none⟩=some (.int .i64 (wrap64 (1 + (Int.tmod (wrap64 (a3)) 3)))):=(blk_cell BK148.out 2).trans rfl
     have hcz25_3 : wr.cell? ⟨gb148,3,none⟩=some (.int .i64 (wrap64 (1 + (Int.tmod (wrap64 (a4)) 8)))):=(blk_cell BK148.out 3).trans rfl
     have hfz25_0:=blk_frozen BK148.out 0
     have hfz25_1:=blk_frozen BK148.out 1
     have hfz25_2:=blk_frozen BK148.out 2
     have hfz25_3:=blk_frozen BK148.out 3
     obtain ⟨Ao26,co26,eo26⟩:=Kd.R_slice HO_149000.out
     subst eo26
     have hnb27:=NB147_146.out
     have hnc27:=NB146_147.out
     have hcz28_0 : wr.cell? ⟨gb147,0,none⟩=some (.slice none 0 0):=(blk_cell BK147.out 0).trans rfl
     have hcz28_1 : wr.cell? ⟨gb147,1,none⟩=some (.int .i64 0):=(blk_cell BK147.out 1).trans rfl
     have hcz28_2 : wr.cell? ⟨gb147,2,none⟩=some (.int .i64 0):=(blk_cell BK147.out 2).trans rfl
     have hcz28_3 : wr.cell? ⟨gb147,3,none⟩=some (.int .i64 0):=(blk_cell BK147.out 3).trans rfl
     have hfz28_0:=blk_frozen BK147.out 0
     have hfz28_1:=blk_frozen BK147.out 1
     have hfz28_2:=blk_frozen BK147.out 2
     have hfz28_3:=blk_frozen BK147.out 3
     go_wp2
     refine bodyPost_ret (results_cell_row rfl _ _ gb147 31 #[.slice Ao26 x149000_1.length co26,.int .i64 (wrap64 (1 + (Int.tmod (wrap64 (a2)) (wrap64 (1 + (Int.tmod (wrap64 (a1)) 8)))))),.int .i64 (wrap64 (1 + (Int.tmod (wrap64 (a3)) 3))),.int .i64 (wrap64 (1 + (Int.tmod (wrap64 (a4)) 8)))] (0,0) _ rfl (by (with_reducible repeat (first|refine blk_drewN ?_ _|refine blk_drew ?_|refine blk_alloc ?_ _));refine blk_put (cs:=#[.slice Ao26 x149000_1.length co26,.int .i64 (wrap64 (1 + (Int.tmod (wrap64 (a2)) (wrap64 (1 + (Int.tmod (wrap64 (a1)) 8)))))),.int .i64 (wrap64 (1 + (Int.tmod (wrap64 (a3)) 3))),.int .i64 0]) ?_ 3 _ rfl;(with_reducible repeat (first|refine blk_drewN ?_ _|refine blk_drew ?_|refine blk_alloc ?_ _));refine blk_put (cs:=#[.slice Ao26 x149000_1.length co26,.int .i64 (wrap64 (1 + (Int.tmod (wrap64 (a2)) (wrap64 (1 + (Int.tmod (wrap64 (a1)) 8)))))),.int .i64 0,.int .i64 0]) ?_ 2 _ rfl;(with_reducible repeat (first|refine blk_drewN ?_ _|refine blk_drew ?_|refine blk_alloc ?_ _));refine blk_put (cs:=#[.slice Ao26 x149000_1.length co26,.int .i64 0,.int .i64 0,.int .i64 0]) ?_ 1 _ rfl;(with_reducible repeat (first|refine blk_drewN ?_ _|refine blk_drew ?_|refine blk_alloc ?_ _));refine blk_put (cs:=#[.slice none 0 0,.int .i64 0,.int .i64 0,.int .i64 0]) ?_ 0 _ rfl;(with_reducible repeat (first|refine blk_drewN ?_ _|refine blk_drew ?_|refine blk_alloc ?_ _));exact BK147.out) Try.underlying31 rfl (by kernel_rfl)) rfl ?_
     exact ⟨_,by first|rfl|(simp [errW_none,errW_some] <;> rfl)|(simp [*,errW_none,errW_some] <;> rfl),by (with_reducible repeat (first|apply Kd.R_alloc|apply Kd.R_drewN|apply Kd.R_drew));exact Kd.R_mono (Kd.R_far (p:=⟨gb147,3,none⟩) (Kd.R_far (p:=⟨gb147,2,none⟩) (Kd.R_far (p:=⟨gb147,1,none⟩) (Kd.R_far (p:=⟨gb147,0,none⟩) (Kd.R_types HO_149000.out BK147.out (by decide)) (fun _ hk=>hk.2) (.slice Ao26 x149000_1.length co26)) (fun _ hk=>hk.2) (.int .i64 (wrap64 (1 + (Int.tmod (wrap64 (a2)) (wrap64 (1 + (Int.tmod (wrap64 (a1)) 8)))))))) (fun _ hk=>hk.2) (.int .i64 (wrap64 (1 + (Int.tmod (wrap64 (a3)) 3))))) (fun _ hk=>hk.2) (.int .i64 (wrap64 (1 + (Int.tmod (wrap64 (a4)) 8))))) (fun _ hk=>trivial),by repeat (first|(with_reducible first|exact HB.out|apply below_alloc|apply pw_below_drewN|apply below_drew1|refine below_set ?_ GE146.out|refine below_set ?_ GE147.out|refine below_set ?_ GE148.out)|exact HB.out)⟩
def thresherlaw09_made.f (k : Nat) (a0_0 : Int) (a0_1 : Int) (a0_2 : Int) (a0_3 : Int) (a0_4 : Int) (a0_5 : Int) (a0_6 : Int) (a0_7 : Int) (a0_8 : Int) (a0_9 : Int) (a0_10 : Int) (a0_11 : Int) : Option (List Int × Int × Int × Int):=(thresherref04_Made.f k a0_0 a0_1 a0_2 a0_3 a0_4 a0_5 a0_6 a0_7 a0_8 a0_9 a0_10 a0_11).bind fun bt154=>(some (bt154.1,bt154.2.1,bt154.2.2.1,bt154.2.2.2))
theorem thresherlaw09_made.mono : ∀ a0 a1 a2 a3 a4 a5 a6 a7 a8 a9 a10 a11 k,LeO (thresherlaw09_made.f k a0 a1 a2 a3 a4 a5 a6 a7 a8 a9 a10 a11) (thresherlaw09_made.f (k + 1) a0 a1 a2 a3 a4 a5 a6 a7 a8 a9 a10 a11):=by
 intro a0 a1 a2 a3 a4 a5 a6 a7 a8 a9 a10 a11 k
 unfold thresherlaw09_made.f
 repeat' first
   | (with_reducible exact thresherref04_Made.mono _ _ _ _ _ _ _ _ _ _ _ _ _)
   | (with_reducible exact LeO.refl _)
   | (with_reducible exact LeO.none _)
   | (with_reducible refine LeO.ite ?_ ?_)
   | (with_reducible refine LeO.bind ?_ (fun _=>?_))
   | exact thresherref04_Made.mono _ _ _ _ _ _ _ _ _ _ _ _ _
   | exact LeO.none _
   | refine LeO.ite ?_ ?_
   | refine LeO.bind ?_ (fun _=>?_)
set_option maxHeartbeats 8000000 in
set_option maxRecDepth 100000 in
theorem thresherlaw09_made.calls (k : Nat) (a0_0 : Int) (a0_1 : Int) (a0_2 : Int) (a0_3 : Int) (a0_4 : Int) (a0_5 : Int) (a0_6 : Int) (a0_7 : Int) (a0_8 : Int) (a0_9 : Int) (a0_10 : Int) (a0_11 : Int) (r1 : List Int) (r2 : Int) (r3 : Int) (r4 : Int) (w : World) (h : thresherlaw09_made.f k a0_0 a0_1 a0_2 a0_3 a0_4 a0_5 a0_6 a0_7 a0_8 a0_9 a0_10 a0_11=some (r1,r2,r3,r4)) :
  Calls Try.prog 9 #[.agg #[.int .u8 a0_0,.int .u8 a0_1,.int .u8 a0_2,.int .u8 a0_3,.int .u8 a0_4,.int .u8 a0_5,.int .u8 a0_6,.int .u8 a0_7,.int .u8 a0_8,.int .u8 a0_9,.int .u8 a0_10,.int .u8 a0_11]] w fun e w'=>∃ v0_ : Value,e=.returned (.agg #[v0_,.int .i64 r2,.int .i64 r3,.int .i64 r4])∧Kd.R (Kd.int .i64) 3 w' w.heap.size (fun _=>True) v0_ r1∧Below w.heap.size w w':=by
 have hu24:=Try.underlying24
 have hu31:=Try.underlying31
 have hu22:=Try.underlying22
 have HB:=Aside0.mk (Below.refl w.heap.size w)
 have H : ((thresherref04_Made.f k a0_0 a0_1 a0_2 a0_3 a0_4 a0_5 a0_6 a0_7 a0_8 a0_9 a0_10 a0_11).bind fun bt154=>(some (bt154.1,bt154.2.1,bt154.2.2.1,bt154.2.2.2)))=some (r1,r2,r3,r4):=h
 clear h
 replace H:=Option.bind_eq_some_iff.mp H
 obtain ⟨⟨t154,t157,t158,t159⟩,A20,H⟩:=H
 replace H : (some (t154,t157,t158,t159))=some (r1,r2,r3,r4):=H
 have A2:=Aside0.mk A20
 clear A20
 simp only [Option.some.injEq,Prod.mk.injEq] at H
 obtain ⟨rfl,rfl,rfl,rfl⟩:=H
 go_enter Try.func9,Try.ntmps9
 go_wp2_with (first|((with_reducible refine gate_dst (N:=1) rfl ?_);refine box_event ?hg (N:=1) ?hd (cs:=#[.int .u8 a0_0,.int .u8 a0_1,.int .u8 a0_2,.int .u8 a0_3,.int .u8 a0_4,.int .u8 a0_5,.int .u8 a0_6,.int .u8 a0_7,.int .u8 a0_8,.int .u8 a0_9,.int .u8 a0_10,.int .u8 a0_11]) (t:=24) ?hr ?_;(case hd=>rfl);(case hg=>rfl);(case hr=>first|(go_simp;done)|(go_simp;rfl));intro gb152 hg w3 hbox hb;have n0_:=Aside0.mk (below_step (below_up HB.out) hb);have n1_:=Aside0.mk (hbox);have n2_:=Aside0.mk ((by rw [hg];exact (below_size (below_up HB.out)) : w.heap.size≤gb152));have n3_:=Aside0.mk ((by rw [hg];exact (below_size (below_up HB.out)) : w.heap.size≤gb152));clear HB;have HB:=n0_;have BK152:=n1_;have GW152:=n2_;have GE152:=n3_;clear n0_ n1_ n2_ n3_;clear hb hbox hg)|((with_reducible refine gate_dst (N:=2) rfl ?_);refine box_event ?hg (N:=2) ?hd (cs:=#[.slice none 0 0,.int .i64 0,.int .i64 0,.int .i64 0]) (t:=31) ?hr ?_;(case hd=>rfl);(case hg=>rfl);(case hr=>first|(go_simp;done)|(go_simp;rfl));intro gb153 hg w4 hbox hb;have n0_:=Aside0.mk (blk_below (blk_up BK152.out) hb);have n1_:=Aside0.mk (below_step (below_go HB.out) hb);have n2_:=Aside0.mk (hbox);have n3_:=Aside0.mk ((by rw [hg];exact (below_size (below_go HB.out)) : w.heap.size≤gb153));have n4_:=Aside0.mk ((by rw [hg];exact (below_size (below_go HB.out)) : w.heap.size≤gb153));have n5_:=Aside0.mk ((by rw [hg];exact Nat.ne_of_lt (blk_lt (blk_up BK152.out)) : gb152≠gb153));have n6_:=Aside0.mk ((by rw [hg];exact Nat.ne_of_gt (blk_lt (blk_up BK152.out)) : gb153≠gb152));clear BK152;clear HB;have BK152:=n0_;have HB:=n1_;have BK153:=n2_;have GW153:=n3_;have GE153:=n4_;have NB152_153:=n5_;have NB153_152:=n6_;clear n0_ n1_ n2_ n3_ n4_ n5_ n6_;clear hb hbox hg;have hnb5:=NB152_153.out;have hnc5:=NB153_152.out;have hcz6_0 : w4.cell? ⟨gb152,0,none⟩=some (.int .u8 a0_0):=(blk_cell BK152.out 0).trans rfl;have hcz6_1 : w4.cell? ⟨gb152,1,none⟩=some (.int .u8 a0_1):=(blk_cell BK152.out 1).trans rfl;have hcz6_2 : w4.cell? ⟨gb152,2,none⟩=some (.int .u8 a0_2):=(blk_cell BK152.out 2).trans rfl;have hcz6_3 : w4.cell? ⟨gb152,3,none⟩=some (.int .u8 a0_3):=(blk_cell BK152.out 3).trans rfl;have hcz6_4 : w4.cell? ⟨gb152,4,none⟩=some (.int .u8 a0_4):=(blk_cell BK152.out 4).trans rfl;have hcz6_5 : w4.cell? ⟨gb152,5,none⟩=some (.int .u8 a0_5):=(blk_cell BK152.out 5).trans rfl;have hcz6_6 : w4.cell? ⟨gb152,6,none⟩=some (.int .u8 a0_6):=(blk_cell BK152.out 6).trans rfl;have hcz6_7 : w4.cell? ⟨gb152,7,none⟩=some (.int .u8 a0_7):=(blk_cell BK152.out 7).trans rfl;have hcz6_8 : w4.cell? ⟨gb152,8,none⟩=some (.int .u8 a0_8):=(blk_cell BK152.out 8).trans rfl;have hcz6_9 : w4.cell? ⟨gb152,9,none⟩=some (.int .u8 a0_9):=(blk_cell BK152.out 9).trans rfl;have hcz6_10 : w4.cell? ⟨gb152,10,none⟩=some (.int .u8 a0_10):=(blk_cell BK152.out 10).trans rfl;have hcz6_11 : w4.cell? ⟨gb152,11,none⟩=some (.int .u8 a0_11):=(blk_cell BK152.out 11).trans rfl;have hfz6_0:=blk_frozen BK152.out 0;have hfz6_1:=blk_frozen BK152.out 1;have hfz6_2:=blk_frozen BK152.out 2;have hfz6_3:=blk_frozen BK152.out 3;have hfz6_4:=blk_frozen BK152.out 4;have hfz6_5:=blk_frozen BK152.out 5;have hfz6_6:=blk_frozen BK152.out 6;have hfz6_7:=blk_frozen BK152.out 7;have hfz6_8:=blk_frozen BK152.out 8;have hfz6_9:=blk_frozen BK152.out 9;have hfz6_10:=blk_frozen BK152.out 10;have hfz6_11:=blk_frozen BK152.out 11)|((with_reducible refine gate_callee (f:=23) rfl ?_);refine goesL_ (some 13) rfl rfl Try.func23 (by kernel_rfl) rfl #[.agg #[.int .u8 a0_0,.int .u8 a0_1,.int .u8 a0_2,.int .u8 a0_3,.int .u8 a0_4,.int .u8 a0_5,.int .u8 a0_6,.int .u8 a0_7],.int .u8 a0_8,.int .u8 a0_9,.int .u8 a0_10,.int .u8 a0_11] rfl (by (try simp only [List.map_toArray,List.map_cons,List.map_nil]);first|done|rfl|(simp only [List.length_drop,List.length_take];rfl)) ?_;(with_reducible refine (thresherref04_Made.calls k a0_0 a0_1 a0_2 a0_3 a0_4 a0_5 a0_6 a0_7 a0_8 a0_9 a0_10 a0_11 t154 t157 t158 t159 _ A2.out).mono ?_);rintro e w7 ⟨v155,rfl,ho0,hb⟩;refine ⟨_,rfl,?_⟩;have n0_:=Aside0.mk (Kd.R_lower ho0 (below_size (below_go HB.out)));have n1_:=Aside0.mk (blk_below (blk_up BK152.out) hb);have n2_:=Aside0.mk (blk_below (blk_up BK153.out) hb);have n3_:=Aside0.mk (below_step (below_go HB.out) hb);clear BK152;clear BK153;clear HB;have HO156:=n0_;have BK152:=n1_;have BK153:=n2_;have HB:=n3_;clear n0_ n1_ n2_ n3_;(try clear hb);(try clear hb2);(try clear hk);(try clear hi);(try clear ho0);obtain ⟨Ao8,co8,eo8⟩:=Kd.R_slice HO156.out;subst eo8;have hcz9_0 : w7.cell? ⟨gb153,0,none⟩=some (.slice none 0 0):=(blk_cell BK153.out 0).trans rfl;have hcz9_1 : w7.cell? ⟨gb153,1,none⟩=some (.int .i64 0):=(blk_cell BK153.out 1).trans rfl;have hcz9_2 : w7.cell? ⟨gb153,2,none⟩=some (.int .i64 0):=(blk_cell BK153.out 2).trans rfl;have hcz9_3 : w7.cell? ⟨gb153,3,none⟩=some (.int .i64 0):=(blk_cell BK153.out 3).trans rfl;have hfz9_0:=blk_frozen BK153.out 0;have hfz9_1:=blk_frozen BK153.out 1;have hfz9_2:=blk_frozen BK153.out 2;have hfz9_3:=blk_frozen BK153.out 3))
 refine bodyPost_ret (results_cell_row rfl _ _ gb153 31 #[.slice Ao8 t154.length co8,.int .i64 t157,.int .i64 t158,.int .i64 t159] (0,0) _ rfl (by (with_reducible repeat (first|refine blk_drewN ?_ _|refine blk_drew ?_|refine blk_alloc ?_ _));refine blk_put (cs:=#[.slice Ao8 t154.length co8,.int .i64 t157,.int .i64 t158,.int .i64 0]) ?_ 3 _ rfl;(with_reducible repeat (first|refine blk_drewN ?_ _|refine blk_drew ?_|refine blk_alloc ?_ _));refine blk_put (cs:=#[.slice Ao8 t154.length co8,.int .i64 t157,.int .i64 0,.int .i64 0]) ?_ 2 _ rfl;(with_reducible repeat (first|refine blk_drewN ?_ _|refine blk_drew ?_|refine blk_alloc ?_ _));refine blk_put (cs:=#[.slice Ao8 t154.length co8,.int .i64 0,.int .i64 0,.int .i64 0]) ?_ 1 _ rfl;(with_reducible repeat (first|refine blk_drewN ?_ _|refine blk_drew ?_|refine blk_alloc ?_ _));refine blk_put (cs:=#[.slice none 0 0,.int .i64 0,.int .i64 0,.int .i64 0]) ?_ 0 _ rfl;(with_reducible repeat (first|refine blk_drewN ?_ _|refine blk_drew ?_|refine blk_alloc ?_ _));exact BK153.out) Try.underlying31 rfl (by kernel_rfl)) rfl ?_
 exact ⟨_,by first|rfl|(simp [errW_none,errW_some] <;> rfl)|(simp [*,errW_none,errW_some] <;> rfl),by (with_reducible repeat (first|apply Kd.R_alloc|apply Kd.R_drewN|apply Kd.R_drew));exact Kd.R_mono (Kd.R_far (p:=⟨gb153,3,none⟩) (Kd.R_far (p:=⟨gb153,2,none⟩) (Kd.R_far (p:=⟨gb153,1,none⟩) (Kd.R_far (p:=⟨gb153,0,none⟩) (Kd.R_types HO156.out BK153.out (by decide)) (fun _ hk=>hk.2) (.slice Ao8 t154.length co8)) (fun _ hk=>hk.2) (.int .i64 t157)) (fun _ hk=>hk.2) (.int .i64 t158)) (fun _ hk=>hk.2) (.int .i64 t159)) (fun _ hk=>trivial),by repeat (first|(with_reducible first|exact HB.out|apply below_alloc|apply pw_below_drewN|apply below_drew1|refine below_set ?_ GE152.out|refine below_set ?_ GE153.out)|exact HB.out)⟩
mutual
def thresherref04_Fit.l0 : Nat→List (S41)→List (S41)→Int→List Int→Int→Int→Int→Option ((List (S41)))
 | 0,_,_,_,_,_,_,_=>none
 | k + 1,x1,x5,x6,x161000,x161001,x161002,x161003=>if x6 < (x161000.length : Int) then (if x6 < (x1.length : Int) then (if 0≤x6 then (thresherref04_Fit.j1 k x1 x5 x6 x161000 x161001 x161002 x161003 ((rd_T41 x1 x6).f0) ((rd_T41 x1 x6).f1)) else (none)) else (thresherref04_Fit.j1 k x1 x5 x6 x161000 x161001 x161002 x161003 0 (⟨#[]⟩ : ByteArray))) else (some x5)
def thresherref04_Fit.j1 : Nat→List (S41)→List (S41)→Int→List Int→Int→Int→Int→Int→ByteArray→Option ((List (S41)))
 | 0,_,_,_,_,_,_,_,_,_=>none
 | k + 1,x1,x5,x6,x161000,x161001,x161002,x161003,x165000,x165001=>if 0≤x6 then (if x6 < (x161000.length : Int) then (if (rd x161000 x6)=3 then (if (x165001.size : Int) > 60 then (if 0≤60 then (if 60≤(x165001.size : Int) then (if x5.length < 5864062014805 then (thresherref04_Fit.l0 k x1 (x5 ++ [(⟨0,x165001.extract 0 60⟩ : S41)]) (wrap64 (x6 + 1)) x161000 x161001 x161002 x161003) else (none)) else (none)) else (none)) else (if x5.length < 5864062014805 then (thresherref04_Fit.l0 k x1 (x5 ++ [(⟨0,x165001⟩ : S41)]) (wrap64 (x6 + 1)) x161000 x161001 x161002 x161003) else (none))) else (if x5.length < 5864062014805 then (thresherref04_Fit.l0 k x1 (x5 ++ [(⟨x165000,(⟨#[]⟩ : ByteArray)⟩ : S41)]) (wrap64 (x6 + 1)) x161000 x161001 x161002 x161003) else (none))) else (none)) else (none)
end
def thresherref04_Fit.f (k : Nat) (l0_0 : List Int) (a0_1 : Int) (a0_2 : Int) (a0_3 : Int) (l1 : List (S41)) : Option ((List (S41))):=thresherref04_Fit.l0 k l1 (([] : List (S41))) 0 l0_0 a0_1 a0_2 a0_3
theorem thresherref04_Fit.mono_l : ∀ k,(∀ y0 y1 y2 y3 y4 y5 y6,LeO (thresherref04_Fit.l0 k y0 y1 y2 y3 y4 y5 y6) (thresherref04_Fit.l0 (k + 1) y0 y1 y2 y3 y4 y5 y6))∧(∀ y0 y1 y2 y3 y4 y5 y6 y7 y8,LeO (thresherref04_Fit.j1 k y0 y1 y2 y3 y4 y5 y6 y7 y8) (thresherref04_Fit.j1 (k + 1) y0 y1 y2 y3 y4 y5 y6 y7 y8))
 | 0=>⟨fun _ _ _ _ _ _ _ r h=>by simp [thresherref04_Fit.l0] at h,fun _ _ _ _ _ _ _ _ _ r h=>by simp [thresherref04_Fit.j1] at h⟩
 | k + 1=>by
  obtain ⟨ih0,ih1⟩:=thresherref04_Fit.mono_l k
  refine ⟨?_,?_⟩
  ·intro y0 y1 y2 y3 y4 y5 y6
   unfold thresherref04_Fit.l0
   repeat' first
   | (with_reducible exact ih0 _ _ _ _ _ _ _)
   | (with_reducible exact ih1 _ _ _ _ _ _ _ _ _)
   | (with_reducible exact LeO.refl _)
   | (with_reducible exact LeO.none _)
   | (with_reducible refine LeO.ite ?_ ?_)
   | (with_reducible refine LeO.bind ?_ (fun _=>?_))
   | exact ih0 _ _ _ _ _ _ _
   | exact ih1 _ _ _ _ _ _ _ _ _
   | exact LeO.none _
   | refine LeO.ite ?_ ?_
   | refine LeO.bind ?_ (fun _=>?_)
  ·intro y0 y1 y2 y3 y4 y5 y6 y7 y8
   unfold thresherref04_Fit.j1
   repeat' first
   | (with_reducible exact ih0 _ _ _ _ _ _ _)
   | (with_reducible exact ih1 _ _ _ _ _ _ _ _ _)
   | (with_reducible exact LeO.refl _)
   | (with_reducible exact LeO.none _)
   | (with_reducible refine LeO.ite ?_ ?_)
   | (with_reducible refine LeO.bind ?_ (fun _=>?_))
   | exact ih0 _ _ _ _ _ _ _
   | exact ih1 _ _ _ _ _ _ _ _ _
   | exact LeO.none _
   | refine LeO.ite ?_ ?_
   | refine LeO.bind ?_ (fun _=>?_)
theorem thresherref04_Fit.mono : ∀ a0 a1 a2 a3 a4 k,LeO (thresherref04_Fit.f k a0 a1 a2 a3 a4) (thresherref04_Fit.f (k + 1) a0 a1 a2 a3 a4):=by
 intro a0 a1 a2 a3 a4 k
 obtain ⟨ih0,ih1⟩:=thresherref04_Fit.mono_l k
 unfold thresherref04_Fit.f
 repeat' first
   | (with_reducible exact ih0 _ _ _ _ _ _ _)
   | (with_reducible exact ih1 _ _ _ _ _ _ _ _ _)
   | (with_reducible exact LeO.refl _)
   | (with_reducible exact LeO.none _)
   | (with_reducible refine LeO.ite ?_ ?_)
   | (with_reducible refine LeO.bind ?_ (fun _=>?_))
   | exact ih0 _ _ _ _ _ _ _
   | exact ih1 _ _ _ _ _ _ _ _ _
   | exact LeO.none _
   | refine LeO.ite ?_ ?_
   | refine LeO.bind ?_ (fun _=>?_)
set_option maxHeartbeats 8000000 in
set_option maxRecDepth 100000 in
theorem thresherref04_Fit.calls (k : Nat) (A0_0 : Option Addr) (c0_0 : Nat) (l0_0 : List Int) (a0_1 : Int) (a0_2 : Int) (a0_3 : Int) (A1 : Option Addr) (c1 : Nat) (l1 : List (S41)) (r : List (S41)) (w : World) (hr0_0 : Kd.C (Kd.int .i64) w A0_0 l0_0.length l0_0) (hc0_0 : l0_0.length≤c0_0) (hr1 : Kd.C k41 w A1 l1.length l1) (hc1 : l1.length≤c1) (h : thresherref04_Fit.f k l0_0 a0_1 a0_2 a0_3 l1=some r) :
  Calls Try.prog 12 #[.agg #[.slice A0_0 l0_0.length c0_0,.int .i64 a0_1,.int .i64 a0_2,.int .i64 a0_3],.slice A1 l1.length c1] w fun e w'=>∃ v0_ : Value,e=.returned (v0_)∧Kd.R k41 41 w' w.heap.size (fun _=>True) v0_ r∧Below w.heap.size w w':=by
 have hu31:=Try.underlying31
 have hu41:=Try.underlying41
 have HR0_0:=Aside0.mk hr0_0
 have HC0_0:=Aside0.mk hc0_0
 clear hr0_0 hc0_0
 have HR1:=Aside0.mk hr1
 have HC1:=Aside0.mk hc1
 clear hr1 hc1
 have HB:=Aside0.mk (Below.refl w.heap.size w)
 have H : (thresherref04_Fit.l0 k l1 (([] : List (S41))) 0 l0_0 a0_1 a0_2 a0_3)=some r:=h
 clear h
 obtain ⟨y161,hy161⟩ : ∃ y_ : List (S41),y_=(([] : List (S41))):=⟨_,rfl⟩
 replace H : (thresherref04_Fit.l0 k l1 y161 0 l0_0 a0_1 a0_2 a0_3)=some r:=by first|(rw [hy161];with_reducible exact H)|(have H2_:=(Option.bind_some _ _).symm.trans H;rw [hy161];with_reducible exact H2_)|(have H2_:=(Option.bind_some _ _).symm.trans H;with_reducible exact H2_)|with_reducible exact H|(rw [hy161];exact H)|exact H
 have Ny161:=Aside0.mk hy161
 clear hy161
 have H':=Aside0.mk H
 clear H
 go_enter Try.func12,Try.ntmps12
 go_wp2_with (first|((with_reducible refine gate_dst (N:=2) rfl ?_);refine box_event ?hg (N:=2) ?hd (cs:=#[.slice A0_0 l0_0.length c0_0,.int .i64 a0_1,.int .i64 a0_2,.int .i64 a0_3]) (t:=31) ?hr ?_;(case hd=>rfl);(case hg=>rfl);(case hr=>first|(go_simp;done)|(go_simp;rfl));intro gb160 hg w3 hbox hb;have n0_:=Aside0.mk (below_step (below_up HB.out) hb);have n1_:=Aside0.mk (hbox);have n2_:=Aside0.mk ((by rw [hg];exact (below_size (below_up HB.out)) : w.heap.size≤gb160));have n3_:=Aside0.mk ((by rw [hg];exact (below_size (below_up HB.out)) : w.heap.size≤gb160));clear HB;have HB:=n0_;have BK160:=n1_;have GW160:=n2_;have GE160:=n3_;clear n0_ n1_ n2_ n3_;clear hb hbox hg)|((with_reducible refine gate_dst (N:=9) rfl ?_);refine Kd.R_lit k41 _ 41 ?hg (N:=9) ?hd (xs:=([] : List (S41))) (inner:=[]) (ok:=fun _=>True) (okp:=fun _=>True) ?hr ?hp (fun _ hk=>hk) trivial (Below.refl _ _) (Nat.le_refl _) (by simp) ?_;(case hd=>rfl);(case hg=>rfl);(case hr=>first|(go_simp;done)|(go_simp;rfl));(case hp=>exact (Reps.none _ _));intro v162 w4 ho5 hb hg_ hnew_;clear hg_ hnew_;(first|rw [← Ny161.out] at ho5|(simp only [Int.reduceToNat] at ho5;rw [← Ny161.out] at ho5));have n0_:=Aside0.mk (Kd.R_lower ho5 (below_size (below_go HB.out)));have n1_:=Aside0.mk (blk_below (blk_up BK160.out) hb);have n2_:=Aside0.mk (below_step (below_go HB.out) hb);clear BK160;clear HB;have HO163:=n0_;have BK160:=n1_;have HB:=n2_;clear n0_ n1_ n2_;clear hb ho5))
 go_loopg [5,6] k (fun kq v5 v6 w'=>∃ (x5_1 : List (S41)) (x6_1 : Int),v6=.int .i64 x6_1∧Aside0 (thresherref04_Fit.l0 kq l1 x5_1 x6_1 l0_0 a0_1 a0_2 a0_3=some r)∧Aside0 (kq≤k)∧Aside0 (Kd.R k41 41 w' w.heap.size (fun _=>True) v5 x5_1)∧Aside0 (w'.heap[gb160]?=some (.cells #[(.slice A0_0 l0_0.length c0_0),.int .i64 a0_1,.int .i64 a0_2,.int .i64 a0_3] 31 (0,0)))∧Aside0 (Below w.heap.size w w'))
 case atStart=>exact ⟨(y161),(0),(by first|rfl|(simp;done)|(simp [*];done)),H',⟨Nat.le_refl _⟩,⟨by (with_reducible repeat (first|apply Kd.R_alloc|apply Kd.R_drewN|apply Kd.R_drew));exact HO163.out⟩,⟨by (with_reducible repeat (first|refine blk_drewN ?_ _|refine blk_drew ?_|refine blk_alloc ?_ _));exact BK160.out⟩,⟨by repeat (first|(with_reducible first|exact HB.out|apply below_alloc|apply pw_below_drewN|apply below_drew1|refine below_set ?_ GE160.out)|exact HB.out)⟩⟩
 case round =>
  clear H'
  try clear c1
  try clear p2
  obtain ⟨x5_1,x6_1,rfl,HA,HK1,HO_5,BK160,HB⟩:=hrel
  cases gk with
  | zero=>exact absurd HA.out (by simp [thresherref04_Fit.l0])
  | succ k1 =>
   have H:=HA.out
   clear HA
   simp only [thresherref04_Fit.l0] at H
   by_cases c6 : x6_1 < (l0_0.length : Int)
   ·rw [if_pos c6] at H
    have c6b0 : decide (x6_1 < (l0_0.length : Int))=true:=decide_eq_true c6
    clear c6
    have HC7:=Aside0.mk H
    clear H
    have hcz8_0 : wr.cell? ⟨gb160,0,none⟩=some (.slice A0_0 l0_0.length c0_0):=(blk_cell BK160.out 0).trans rfl
    have hcz8_1 : wr.cell? ⟨gb160,1,none⟩=some (.int .i64 a0_1):=(blk_cell BK160.out 1).trans rfl
    have hcz8_2 : wr.cell? ⟨gb160,2,none⟩=some (.int .i64 a0_2):=(blk_cell BK160.out 2).trans rfl
    have hcz8_3 : wr.cell? ⟨gb160,3,none⟩=some (.int .i64 a0_3):=(blk_cell BK160.out 3).trans rfl
    have hfz8_0:=blk_frozen BK160.out 0
    have hfz8_1:=blk_frozen BK160.out 1
    have hfz8_2:=blk_frozen BK160.out 2
    have hfz8_3:=blk_frozen BK160.out 3
    go_upto_if 21 with (first|((with_reducible refine gate_dst (N:=7) rfl ?_);refine box_event ?hg (N:=7) ?hd (cs:=#[.int .i64 0,.string (⟨#[]⟩ : ByteArray)]) (t:=41) ?hr ?_;(case hd=>rfl);(case hg=>rfl);(case hr=>first|(go_simp;done)|(go_simp;rfl));intro gb164 hg w9 hbox hb;have n0_:=Aside0.mk (Kd.R_below (Kd.R_elderB (R_up HO_5.out) gb164 (Nat.le_of_eq hg.symm)) hb);have n1_:=Aside0.mk (blk_below (blk_up BK160.out) hb);have n2_:=Aside0.mk (below_step (below_go HB.out) hb);have n3_:=Aside0.mk (hbox);have n4_:=Aside0.mk ((by rw [hg];exact (below_size (below_go HB.out)) : w.heap.size≤gb164));have n5_:=Aside0.mk ((by rw [hg];exact (below_size (below_go HB.out)) : w.heap.size≤gb164));have n6_:=Aside0.mk ((by rw [hg];exact Nat.ne_of_lt (blk_lt (blk_up BK160.out)) : gb160≠gb164));have n7_:=Aside0.mk ((by rw [hg];exact Nat.ne_of_gt (blk_lt (blk_up BK160.out)) : gb164≠gb160));clear HO_5;clear BK160;clear HB;have HO_5:=n0_;have BK160:=n1_;have HB:=n2_;have BK164:=n3_;have GW164:=n4_;have GE164:=n5_;have NB160_164:=n6_;have NB164_160:=n7_;clear n0_ n1_ n2_ n3_ n4_ n5_ n6_ n7_;clear hb hbox hg;have hnb10:=NB164_160.out;have hnc10:=NB160_164.out;have hcz11_0 : w9.cell? ⟨gb164,0,none⟩=some (.int .i64 0):=(blk_cell BK164.out 0).trans rfl;have hcz11_1 : w9.cell? ⟨gb164,1,none⟩=some (.string (⟨#[]⟩ : ByteArray)):=(blk_cell BK164.out 1).trans rfl;have hfz11_0:=blk_frozen BK164.out 0;have hfz11_1:=blk_frozen BK164.out 1))
    (try simp only [Act.put,List.setIfInBounds_toArray,List.set_cons_zero,List.set_cons_succ])
    go_cut [] (fun wc=>∃ (kq : Nat) (x165000_6 : Int) (x165001_6 : ByteArray),Aside0 (thresherref04_Fit.j1 kq l1 x5_1 x6_1 l0_0 a0_1 a0_2 a0_3 x165000_6 x165001_6=some r)∧Aside0 (kq≤k1)∧Aside0 (Kd.R k41 41 wc w.heap.size (fun k_=>k_≠gb164) u5 x5_1)∧Aside0 (wc.heap[gb160]?=some (.cells #[(.slice A0_0 l0_0.length c0_0),.int .i64 a0_1,.int .i64 a0_2,.int .i64 a0_3] 31 (0,0)))∧Aside0 (wc.heap[gb164]?=some (.cells #[.int .i64 x165000_6,.string x165001_6] 41 (0,0)))∧Aside0 (Below w.heap.size w wc))
    case first =>
     have H:=HC7.out
     clear HC7
     by_cases c12 : x6_1 < (l1.length : Int)
     ·rw [if_pos c12] at H
      have c12b0 : decide (x6_1 < (l1.length : Int))=true:=decide_eq_true c12
      clear c12
      (first|rw [c12b0]|(simp only [i64_w,i32_w];rw [c12b0])|skip)
      by_cases c13 : 0≤x6_1
      ·rw [if_pos c13] at H
       have c13b0 : decide (0≤x6_1)=true:=decide_eq_true c13
       clear c13
       have H':=Aside0.mk H
       clear H
       have p165 : 0≤(x6_1 : Int):=of_decide_eq_true (by first|(with_reducible assumption)|assumption)
       have q165 : x6_1 < (l1.length : Int):=of_decide_eq_true (by first|(with_reducible assumption)|assumption)
       obtain ⟨ad165,e165,hx165_0,hx165_1⟩:=at_T41 HR1.out x6_1 p165 q165
       cases e165
       have hn165_0 : ad165.block≠gb164:=Nat.ne_of_lt (Nat.lt_of_lt_of_le (by have:=World.block_lt_of_cell? _ _ hx165_0;first|rwa [add_block] at this|exact this) GW164.out)
       have hn165_1 : ad165.block≠gb164:=Nat.ne_of_lt (Nat.lt_of_lt_of_le (by have:=World.block_lt_of_cell? _ _ hx165_0;first|rwa [add_block] at this|exact this) GW164.out)
       replace hx165_0:=(HB.out.cell (World.block_lt_of_cell? w _ hx165_0)).trans hx165_0
       replace hx165_1:=(HB.out.cell (World.block_lt_of_cell? w _ hx165_1)).trans hx165_1
       replace hx165_0:=(cell_far (p:=⟨gb164,0,none⟩) (by first|(rw [add_block];exact hn165_0)|(show (Addr.add _ _).block≠_;rw [add_block];exact hn165_0)|exact hn165_0) (.int .i64 0)).trans hx165_0
       replace hx165_1:=(cell_far (p:=⟨gb164,0,none⟩) (by first|(rw [add_block];exact hn165_0)|(show (Addr.add _ _).block≠_;rw [add_block];exact hn165_0)|exact hn165_0) (.int .i64 0)).trans hx165_1
       replace hx165_0:=(cell_far (p:=⟨gb164,1,none⟩) (by first|(rw [add_block];exact hn165_1)|(show (Addr.add _ _).block≠_;rw [add_block];exact hn165_1)|exact hn165_1) (.string (⟨#[]⟩ : ByteArray))).trans hx165_0
       replace hx165_1:=(cell_far (p:=⟨gb164,1,none⟩) (by first|(rw [add_block];exact hn165_1)|(show (Addr.add _ _).block≠_;rw [add_block];exact hn165_1)|exact hn165_1) (.string (⟨#[]⟩ : ByteArray))).trans hx165_1
       clear hn165_0
       clear hn165_1
       replace p165:=eq_true p165
       replace q165:=eq_true q165
       have hnb14:=NB164_160.out
       have hnc14:=NB160_164.out
       have hcz15_0 : w9.cell? ⟨gb164,0,none⟩=some (.int .i64 0):=(blk_cell BK164.out 0).trans rfl
       have hcz15_1 : w9.cell? ⟨gb164,1,none⟩=some (.string (⟨#[]⟩ : ByteArray)):=(blk_cell BK164.out 1).trans rfl
       have hfz15_0:=blk_frozen BK164.out 0
       have hfz15_1:=blk_frozen BK164.out 1
       go_wp2
       go_meet
       case rel=>exact ⟨_,((rd_T41 l1 x6_1).f0),((rd_T41 l1 x6_1).f1),(by first|exact H'|(subst_vars;exact H')),⟨by have:=HK1.out;first|omega|exact Nat.le_refl _⟩,⟨by (with_reducible repeat (first|apply Kd.R_alloc|apply Kd.R_drewN|apply Kd.R_drew));exact Kd.R_mono (Kd.R_far (p:=⟨gb164,1,none⟩) (Kd.R_far (p:=⟨gb164,0,none⟩) (Kd.R_far (p:=⟨gb164,1,none⟩) (Kd.R_far (p:=⟨gb164,0,none⟩) (Kd.R_mono HO_5.out (fun k_ hk=>(⟨hk,hk.2⟩ : _∧k_≠gb164))) (fun _ hk=>hk.2) (.int .i64 0)) (fun _ hk=>hk.2) (.string (⟨#[]⟩ : ByteArray))) (fun _ hk=>hk.2) (.int .i64 ((rd_T41 l1 x6_1).f0))) (fun _ hk=>hk.2) (.string ((rd_T41 l1 x6_1).f1))) (fun _ hk=>hk.1.2)⟩,⟨by (with_reducible repeat (first|refine blk_drewN ?_ _|refine blk_drew ?_|refine blk_alloc ?_ _));refine blk_far ?_ NB160_164.out _;(with_reducible repeat (first|refine blk_drewN ?_ _|refine blk_drew ?_|refine blk_alloc ?_ _));refine blk_far ?_ NB160_164.out _;(with_reducible repeat (first|refine blk_drewN ?_ _|refine blk_drew ?_|refine blk_alloc ?_ _));refine blk_far ?_ NB160_164.out _;(with_reducible repeat (first|refine blk_drewN ?_ _|refine blk_drew ?_|refine blk_alloc ?_ _));refine blk_far ?_ NB160_164.out _;(with_reducible repeat (first|refine blk_drewN ?_ _|refine blk_drew ?_|refine blk_alloc ?_ _));exact BK160.out⟩,⟨by (with_reducible repeat (first|refine blk_drewN ?_ _|refine blk_drew ?_|refine blk_alloc ?_ _));refine blk_put (cs:=#[.int .i64 ((rd_T41 l1 x6_1).f0),.string (⟨#[]⟩ : ByteArray)]) ?_ 1 _ rfl;(with_reducible repeat (first|refine blk_drewN ?_ _|refine blk_drew ?_|refine blk_alloc ?_ _));refine blk_put (cs:=#[.int .i64 0,.string (⟨#[]⟩ : ByteArray)]) ?_ 0 _ rfl;(with_reducible repeat (first|refine blk_drewN ?_ _|refine blk_drew ?_|refine blk_alloc ?_ _));refine blk_put (cs:=#[.int .i64 0,.string (⟨#[]⟩ : ByteArray)]) ?_ 1 _ rfl;(with_reducible repeat (first|refine blk_drewN ?_ _|refine blk_drew ?_|refine blk_alloc ?_ _));refine blk_put (cs:=#[.int .i64 0,.string (⟨#[]⟩ : ByteArray)]) ?_ 0 _ rfl;(with_reducible repeat (first|refine blk_drewN ?_ _|refine blk_drew ?_|refine blk_alloc ?_ _));exact BK164.out⟩,⟨by repeat (first|(with_reducible first|exact HB.out|apply below_alloc|apply pw_below_drewN|apply below_drew1|refine below_set ?_ GE160.out|refine below_set ?_ GE164.out)|exact HB.out)⟩⟩
      ·rw [if_neg c13] at H
       exact absurd H (by simp)
     ·rw [if_neg c12] at H
      have c12b0 : decide (x6_1 < (l1.length : Int))=false:=decide_eq_false c12
      clear c12
      (first|rw [c12b0]|(simp only [i64_w,i32_w];rw [c12b0])|skip)
      have H':=Aside0.mk H
      clear H
      go_wp2
      go_meet
      case rel=>exact ⟨_,(0),((⟨#[]⟩ : ByteArray)),(by first|exact H'|(subst_vars;exact H')),⟨by have:=HK1.out;first|omega|exact Nat.le_refl _⟩,⟨by (with_reducible repeat (first|apply Kd.R_alloc|apply Kd.R_drewN|apply Kd.R_drew));exact Kd.R_mono (Kd.R_far (p:=⟨gb164,1,none⟩) (Kd.R_far (p:=⟨gb164,0,none⟩) (Kd.R_mono HO_5.out (fun k_ hk=>(⟨hk,hk.2⟩ : _∧k_≠gb164))) (fun _ hk=>hk.2) (.int .i64 0)) (fun _ hk=>hk.2) (.string (⟨#[]⟩ : ByteArray))) (fun _ hk=>hk.1.2)⟩,⟨by (with_reducible repeat (first|refine blk_drewN ?_ _|refine blk_drew ?_|refine blk_alloc ?_ _));refine blk_far ?_ NB160_164.out _;(with_reducible repeat (first|refine blk_drewN ?_ _|refine blk_drew ?_|refine blk_alloc ?_ _));refine blk_far ?_ NB160_164.out _;(with_reducible repeat (first|refine blk_drewN ?_ _|refine blk_drew ?_|refine blk_alloc ?_ _));exact BK160.out⟩,⟨by (with_reducible repeat (first|refine blk_drewN ?_ _|refine blk_drew ?_|refine blk_alloc ?_ _));refine blk_put (cs:=#[.int .i64 0,.string (⟨#[]⟩ : ByteArray)]) ?_ 1 _ rfl;(with_reducible repeat (first|refine blk_drewN ?_ _|refine blk_drew ?_|refine blk_alloc ?_ _));refine blk_put (cs:=#[.int .i64 0,.string (⟨#[]⟩ : ByteArray)]) ?_ 0 _ rfl;(with_reducible repeat (first|refine blk_drewN ?_ _|refine blk_drew ?_|refine blk_alloc ?_ _));exact BK164.out⟩,⟨by repeat (first|(with_reducible first|exact HB.out|apply below_alloc|apply pw_below_drewN|apply below_drew1|refine below_set ?_ GE160.out|refine below_set ?_ GE164.out)|exact HB.out)⟩⟩
    case rest =>
     clear HC7
     try clear c1
     try clear p1
     try clear q1
     try clear hx1
     try clear p2
     try clear c6
     try clear c6b0
     try clear c10
     try clear c12
     try clear c12b0
     try clear c13
     try clear c13b0
     try clear c14
     try clear hcz11_0
     try clear hcz11_1
     try clear hcz15_0
     try clear hcz15_1
     try clear hcz8_0
     try clear hcz8_1
     try clear hcz8_2
     try clear hcz8_3
     try clear hfz11_0
     try clear hfz11_1
     try clear hfz15_0
     try clear hfz15_1
     try clear hfz8_0
     try clear hfz8_1
     try clear hfz8_2
     try clear hfz8_3
     try clear hx165_0
     try clear hx165_1
     try clear p165
     try clear p2
     try clear q165
     obtain ⟨kq,x165000_6,x165001_6,HA,HJ6,HO_5,BK160,BK164,HB⟩:=hcut
     cases kq with
     | zero=>exact absurd HA.out (by simp [thresherref04_Fit.j1])
     | succ kj6 =>
      have H:=HA.out
      clear HA
      simp only [thresherref04_Fit.j1] at H
      by_cases c16 : 0≤x6_1
      ·rw [if_pos c16] at H
       have c16b0 : decide (0≤x6_1)=true:=decide_eq_true c16
       clear c16
       by_cases c17 : x6_1 < (l0_0.length : Int)
       ·rw [if_pos c17] at H
        have c17b0 : decide (x6_1 < (l0_0.length : Int))=true:=decide_eq_true c17
        clear c17
        by_cases c18 : (rd l0_0 x6_1)=3
        ·rw [if_pos c18] at H
         have c18b0 : ((rd l0_0 x6_1) == 3)=true:=beq_iff_eq.mpr c18
         have c18b1 : ((rd l0_0 x6_1) != 3)=false:=bne_eq_false_iff_eq.mpr c18
         clear c18
         by_cases c19 : (x165001_6.size : Int) > 60
         ·rw [if_pos c19] at H
          have c19b0 : decide (60 < (x165001_6.size : Int))=true:=decide_eq_true c19
          have c19b1 : decide (60 < x165001_6.size)=true:=decide_eq_true (by omega)
          clear c19
          by_cases c20 : 0≤60
          ·rw [if_pos c20] at H
           have c20b0:=eq_true c20
           have c20b1 : decide (0≤60)=true:=decide_eq_true c20
           clear c20
           by_cases c21 : 60≤(x165001_6.size : Int)
           ·rw [if_pos c21] at H
            have c21b0:=eq_true c21
            have c21b1 : decide (60≤(x165001_6.size : Int))=true:=decide_eq_true c21
            clear c21
            by_cases c22 : x5_1.length < 5864062014805
            ·rw [if_pos c22] at H
             have LMc22:=Aside0.mk c22
             clear c22
             obtain ⟨y167,hy167⟩ : ∃ y_ : List (S41),y_=(x5_1 ++ [(⟨0,x165001_6.extract 0 60⟩ : S41)]):=⟨_,rfl⟩
             replace H : (thresherref04_Fit.l0 kj6 l1 y167 (wrap64 (x6_1 + 1)) l0_0 a0_1 a0_2 a0_3)=some r:=by first|(rw [hy167];with_reducible exact H)|(have H2_:=(Option.bind_some _ _).symm.trans H;rw [hy167];with_reducible exact H2_)|(have H2_:=(Option.bind_some _ _).symm.trans H;with_reducible exact H2_)|with_reducible exact H|(rw [hy167];exact H)|exact H
             have Ny167:=Aside0.mk hy167
             clear hy167
             have H':=Aside0.mk H
             clear H
             have hnb23:=NB160_164.out
             have hnc23:=NB164_160.out
             have hcz24_0 : wc.cell? ⟨gb160,0,none⟩=some (.slice A0_0 l0_0.length c0_0):=(blk_cell BK160.out 0).trans rfl
             have hcz24_1 : wc.cell? ⟨gb160,1,none⟩=some (.int .i64 a0_1):=(blk_cell BK160.out 1).trans rfl
             have hcz24_2 : wc.cell? ⟨gb160,2,none⟩=some (.int .i64 a0_2):=(blk_cell BK160.out 2).trans rfl
             have hcz24_3 : wc.cell? ⟨gb160,3,none⟩=some (.int .i64 a0_3):=(blk_cell BK160.out 3).trans rfl
             have hfz24_0:=blk_frozen BK160.out 0
             have hfz24_1:=blk_frozen BK160.out 1
             have hfz24_2:=blk_frozen BK160.out 2
             have hfz24_3:=blk_frozen BK160.out 3
             have p166 : 0≤(x6_1 : Int):=of_decide_eq_true (by first|(with_reducible assumption)|assumption)
             have q166 : x6_1 < (l0_0.length : Int):=of_decide_eq_true (by first|(with_reducible assumption)|assumption)
             obtain ⟨ad166,e166,hx166_0⟩:=Kd.at_int HR0_0.out x6_1 p166 q166
             cases e166
             replace hx166_0:=(HB.out.cell (World.block_lt_of_cell? w _ hx166_0)).trans hx166_0
             replace p166:=eq_true p166
             replace q166:=eq_true q166
             have hcz25_0 : wc.cell? ⟨gb164,0,none⟩=some (.int .i64 x165000_6):=(blk_cell BK164.out 0).trans rfl
             have hcz25_1 : wc.cell? ⟨gb164,1,none⟩=some (.string x165001_6):=(blk_cell BK164.out 1).trans rfl
             have hfz25_0:=blk_frozen BK164.out 0
             have hfz25_1:=blk_frozen BK164.out 1
             go_wp2_with (first|((with_reducible refine gate_builtin (b:=.append) (xs:=#[.tmp 39,.tmp 42]) rfl ?_);at_builtin;refine Kd.R_append k41 (w0:=w) w.heap.size rfl (.tmp 39) (.tmp 42) 27 41 (.agg #[(.int .i64 0),(.string ⟨#[]⟩)]) 24 rfl Try.underlying27 info41 rfl (by decide) (by omega) u5 x5_1 (⟨0,x165001_6.extract 0 60⟩ : S41) [.int .i64 0,.string (x165001_6.extract 0 60)] (fun k_=>k_≠gb164) (fun _=>False) rfl rfl ?aP (fun _ hk=>hk.elim) ?aF ?aO ?aB ?aS ?aL ?_;(case aP=>exact k41_mkM _ _ _ (⟨0,x165001_6.extract 0 60⟩ : S41));(case aB=>exact (below_go HB.out));(case aF=>exact (fun k_ hk=>Kd.freshB (blk_up BK164.out) k_ hk));(case aO=>exact (R_up HO_5.out));(case aS=>exact (below_size (below_go HB.out)));(case aL=>have:=LMc22.out;omega);intro v168 w26 ho hb hg hat;rw [← Ny167.out] at ho;have n0_:=Aside0.mk (blk_grown (blk_up BK160.out) hg (Kd.R_ne HO_5.out BK160.out (by decide)));have n1_:=Aside0.mk (blk_grown (blk_up BK164.out) hg (Kd.R_away HO_5.out (fun _ hk=>hk)));have n2_:=Aside0.mk (hb);have n3_:=Aside0.mk (ho);clear BK160;clear BK164;clear HB;clear HO_5;have BK160:=n0_;have BK164:=n1_;have HB:=n2_;have HO169:=n3_;clear n0_ n1_ n2_ n3_;clear ho hb hg hat))
             go_roundg kj6
             case measure=>have:=HK1.out;have:=HJ6.out;omega
             case rel=>exact ⟨(y167),(wrap64 (x6_1 + 1)),(by first|rfl|(simp;done)|(simp [*];done)),(by first|exact H'|(subst_vars;exact H')),⟨by have:=HK1.out;have:=HJ6.out;omega⟩,⟨by (with_reducible repeat (first|apply Kd.R_alloc|apply Kd.R_drewN|apply Kd.R_drew));exact Kd.R_mono HO169.out (fun _ hk=>trivial)⟩,⟨by (with_reducible repeat (first|refine blk_drewN ?_ _|refine blk_drew ?_|refine blk_alloc ?_ _));exact BK160.out⟩,⟨by repeat (first|(with_reducible first|exact HB.out|apply below_alloc|apply pw_below_drewN|apply below_drew1|refine below_set ?_ GE160.out|refine below_set ?_ GE164.out)|exact HB.out)⟩⟩
            ·rw [if_neg c22] at H
             exact absurd H (by simp)
           ·rw [if_neg c21] at H
            exact absurd H (by simp)
          ·rw [if_neg c20] at H
           exact absurd H (by simp)
         ·rw [if_neg c19] at H
          have c19b0 : decide (60 < (x165001_6.size : Int))=false:=decide_eq_false c19
          have c19b1 : decide (60 < x165001_6.size)=false:=decide_eq_false (by omega)
          clear c19
          by_cases c27 : x5_1.length < 5864062014805
          ·rw [if_pos c27] at H
           have LMc27:=Aside0.mk c27
           clear c27
           obtain ⟨y170,hy170⟩ : ∃ y_ : List (S41),y_=(x5_1 ++ [(⟨0,x165001_6⟩ : S41)]):=⟨_,rfl⟩
           replace H : (thresherref04_Fit.l0 kj6 l1 y170 (wrap64 (x6_1 + 1)) l0_0 a0_1 a0_2 a0_3)=some r:=by first|(rw [hy170];with_reducible exact H)|(have H2_:=(Option.bind_some _ _).symm.trans H;rw [hy170];with_reducible exact H2_)|(have H2_:=(Option.bind_some _ _).symm.trans H;with_reducible exact H2_)|with_reducible exact H|(rw [hy170];exact H)|exact H
           have Ny170:=Aside0.mk hy170
           clear hy170
           have H':=Aside0.mk H
           clear H
           have hnb28:=NB160_164.out
           have hnc28:=NB164_160.out
           have hcz29_0 : wc.cell? ⟨gb160,0,none⟩=some (.slice A0_0 l0_0.length c0_0):=(blk_cell BK160.out 0).trans rfl
           have hcz29_1 : wc.cell? ⟨gb160,1,none⟩=some (.int .i64 a0_1):=(blk_cell BK160.out 1).trans rfl
           have hcz29_2 : wc.cell? ⟨gb160,2,none⟩=some (.int .i64 a0_2):=(blk_cell BK160.out 2).trans rfl
           have hcz29_3 : wc.cell? ⟨gb160,3,none⟩=some (.int .i64 a0_3):=(blk_cell BK160.out 3).trans rfl
           have hfz29_0:=blk_frozen BK160.out 0
           have hfz29_1:=blk_frozen BK160.out 1
           have hfz29_2:=blk_frozen BK160.out 2
           have hfz29_3:=blk_frozen BK160.out 3
           have p166 : 0≤(x6_1 : Int):=of_decide_eq_true (by first|(with_reducible assumption)|assumption)
           have q166 : x6_1 < (l0_0.length : Int):=of_decide_eq_true (by first|(with_reducible assumption)|assumption)
           obtain ⟨ad166,e166,hx166_0⟩:=Kd.at_int HR0_0.out x6_1 p166 q166
           cases e166
           replace hx166_0:=(HB.out.cell (World.block_lt_of_cell? w _ hx166_0)).trans hx166_0
           replace p166:=eq_true p166
           replace q166:=eq_true q166
           have hcz30_0 : wc.cell? ⟨gb164,0,none⟩=some (.int .i64 x165000_6):=(blk_cell BK164.out 0).trans rfl
           have hcz30_1 : wc.cell? ⟨gb164,1,none⟩=some (.string x165001_6):=(blk_cell BK164.out 1).trans rfl
           have hfz30_0:=blk_frozen BK164.out 0
           have hfz30_1:=blk_frozen BK164.out 1
           go_wp2_with (first|((with_reducible refine gate_builtin (b:=.append) (xs:=#[.tmp 39,.tmp 42]) rfl ?_);at_builtin;refine Kd.R_append k41 (w0:=w) w.heap.size rfl (.tmp 39) (.tmp 42) 27 41 (.agg #[(.int .i64 0),(.string ⟨#[]⟩)]) 24 rfl Try.underlying27 info41 rfl (by decide) (by omega) u5 x5_1 (⟨0,x165001_6⟩ : S41) [.int .i64 0,.string x165001_6] (fun k_=>k_≠gb164) (fun _=>False) rfl rfl ?aP (fun _ hk=>hk.elim) ?aF ?aO ?aB ?aS ?aL ?_;(case aP=>exact k41_mkM _ _ _ (⟨0,x165001_6⟩ : S41));(case aB=>exact (below_go HB.out));(case aF=>exact (fun k_ hk=>Kd.freshB (blk_up BK164.out) k_ hk));(case aO=>exact (R_up HO_5.out));(case aS=>exact (below_size (below_go HB.out)));(case aL=>have:=LMc27.out;omega);intro v171 w31 ho hb hg hat;rw [← Ny170.out] at ho;have n0_:=Aside0.mk (blk_grown (blk_up BK160.out) hg (Kd.R_ne HO_5.out BK160.out (by decide)));have n1_:=Aside0.mk (blk_grown (blk_up BK164.out) hg (Kd.R_away HO_5.out (fun _ hk=>hk)));have n2_:=Aside0.mk (hb);have n3_:=Aside0.mk (ho);clear BK160;clear BK164;clear HB;clear HO_5;have BK160:=n0_;have BK164:=n1_;have HB:=n2_;have HO172:=n3_;clear n0_ n1_ n2_ n3_;clear ho hb hg hat))
           go_roundg kj6
           case measure=>have:=HK1.out;have:=HJ6.out;omega
           case rel=>exact ⟨(y170),(wrap64 (x6_1 + 1)),(by first|rfl|(simp;done)|(simp [*];done)),(by first|exact H'|(subst_vars;exact H')),⟨by have:=HK1.out;have:=HJ6.out;omega⟩,⟨by (with_reducible repeat (first|apply Kd.R_alloc|apply Kd.R_drewN|apply Kd.R_drew));exact Kd.R_mono HO172.out (fun _ hk=>trivial)⟩,⟨by (with_reducible repeat (first|refine blk_drewN ?_ _|refine blk_drew ?_|refine blk_alloc ?_ _));exact BK160.out⟩,⟨by repeat (first|(with_reducible first|exact HB.out|apply below_alloc|apply pw_below_drewN|apply below_drew1|refine below_set ?_ GE160.out|refine below_set ?_ GE164.out)|exact HB.out)⟩⟩
          ·rw [if_neg c27] at H
           exact absurd H (by simp)
        ·rw [if_neg c18] at H
         have c18b0 : ((rd l0_0 x6_1) == 3)=false:=beq_eq_false_iff_ne.mpr c18
         have c18b1 : ((rd l0_0 x6_1) != 3)=true:=bne_iff_ne.mpr c18
         by_cases c32 : x5_1.length < 5864062014805
         ·rw [if_pos c32] at H
          have LMc32:=Aside0.mk c32
          clear c32
          obtain ⟨y173,hy173⟩ : ∃ y_ : List (S41),y_=(x5_1 ++ [(⟨x165000_6,(⟨#[]⟩ : ByteArray)⟩ : S41)]):=⟨_,rfl⟩
          replace H : (thresherref04_Fit.l0 kj6 l1 y173 (wrap64 (x6_1 + 1)) l0_0 a0_1 a0_2 a0_3)=some r:=by first|(rw [hy173];with_reducible exact H)|(have H2_:=(Option.bind_some _ _).symm.trans H;rw [hy173];with_reducible exact H2_)|(have H2_:=(Option.bind_some _ _).symm.trans H;with_reducible exact H2_)|with_reducible exact H|(rw [hy173];exact H)|exact H
          have Ny173:=Aside0.mk hy173
          clear hy173
          have H':=Aside0.mk H
          clear H
          have hnb33:=NB160_164.out
          have hnc33:=NB164_160.out
          have hcz34_0 : wc.cell? ⟨gb160,0,none⟩=some (.slice A0_0 l0_0.length c0_0):=(blk_cell BK160.out 0).trans rfl
          have hcz34_1 : wc.cell? ⟨gb160,1,none⟩=some (.int .i64 a0_1):=(blk_cell BK160.out 1).trans rfl
          have hcz34_2 : wc.cell? ⟨gb160,2,none⟩=some (.int .i64 a0_2):=(blk_cell BK160.out 2).trans rfl
          have hcz34_3 : wc.cell? ⟨gb160,3,none⟩=some (.int .i64 a0_3):=(blk_cell BK160.out 3).trans rfl
          have hfz34_0:=blk_frozen BK160.out 0
          have hfz34_1:=blk_frozen BK160.out 1
          have hfz34_2:=blk_frozen BK160.out 2
          have hfz34_3:=blk_frozen BK160.out 3
          have p166 : 0≤(x6_1 : Int):=of_decide_eq_true (by first|(with_reducible assumption)|assumption)
          have q166 : x6_1 < (l0_0.length : Int):=of_decide_eq_true (by first|(with_reducible assumption)|assumption)
          obtain ⟨ad166,e166,hx166_0⟩:=Kd.at_int HR0_0.out x6_1 p166 q166
          cases e166
          replace hx166_0:=(HB.out.cell (World.block_lt_of_cell? w _ hx166_0)).trans hx166_0
          replace p166:=eq_true p166
          replace q166:=eq_true q166
          have hcz35_0 : wc.cell? ⟨gb164,0,none⟩=some (.int .i64 x165000_6):=(blk_cell BK164.out 0).trans rfl
          have hcz35_1 : wc.cell? ⟨gb164,1,none⟩=some (.string x165001_6):=(blk_cell BK164.out 1).trans rfl
          have hfz35_0:=blk_frozen BK164.out 0
          have hfz35_1:=blk_frozen BK164.out 1
          go_wp2_with (first|((with_reducible refine gate_builtin (b:=.append) (xs:=#[.tmp 44,.tmp 48]) rfl ?_);at_builtin;refine Kd.R_append k41 (w0:=w) w.heap.size rfl (.tmp 44) (.tmp 48) 27 41 (.agg #[(.int .i64 0),(.string ⟨#[]⟩)]) 24 rfl Try.underlying27 info41 rfl (by decide) (by omega) u5 x5_1 (⟨x165000_6,(⟨#[]⟩ : ByteArray)⟩ : S41) [.int .i64 x165000_6,.string (⟨#[]⟩ : ByteArray)] (fun k_=>k_≠gb164) (fun _=>False) rfl rfl ?aP (fun _ hk=>hk.elim) ?aF ?aO ?aB ?aS ?aL ?_;(case aP=>exact k41_mkM _ _ _ (⟨x165000_6,(⟨#[]⟩ : ByteArray)⟩ : S41));(case aB=>exact (below_go HB.out));(case aF=>exact (fun k_ hk=>Kd.freshB (blk_up BK164.out) k_ hk));(case aO=>exact (R_up HO_5.out));(case aS=>exact (below_size (below_go HB.out)));(case aL=>have:=LMc32.out;omega);intro v174 w36 ho hb hg hat;rw [← Ny173.out] at ho;have n0_:=Aside0.mk (blk_grown (blk_up BK160.out) hg (Kd.R_ne HO_5.out BK160.out (by decide)));have n1_:=Aside0.mk (blk_grown (blk_up BK164.out) hg (Kd.R_away HO_5.out (fun _ hk=>hk)));have n2_:=Aside0.mk (hb);have n3_:=Aside0.mk (ho);clear BK160;clear BK164;clear HB;clear HO_5;have BK160:=n0_;have BK164:=n1_;have HB:=n2_;have HO175:=n3_;clear n0_ n1_ n2_ n3_;clear ho hb hg hat))
          go_roundg kj6
          case measure=>have:=HK1.out;have:=HJ6.out;omega
          case rel=>exact ⟨(y173),(wrap64 (x6_1 + 1)),(by first|rfl|(simp;done)|(simp [*];done)),(by first|exact H'|(subst_vars;exact H')),⟨by have:=HK1.out;have:=HJ6.out;omega⟩,⟨by (with_reducible repeat (first|apply Kd.R_alloc|apply Kd.R_drewN|apply Kd.R_drew));exact Kd.R_mono HO175.out (fun _ hk=>trivial)⟩,⟨by (with_reducible repeat (first|refine blk_drewN ?_ _|refine blk_drew ?_|refine blk_alloc ?_ _));exact BK160.out⟩,⟨by repeat (first|(with_reducible first|exact HB.out|apply below_alloc|apply pw_below_drewN|apply below_drew1|refine below_set ?_ GE160.out|refine below_set ?_ GE164.out)|exact HB.out)⟩⟩
         ·rw [if_neg c32] at H
          exact absurd H (by simp)
       ·rw [if_neg c17] at H
        exact absurd H (by simp)
      ·rw [if_neg c16] at H
       exact absurd H (by simp)
   ·rw [if_neg c6] at H
    have c6b0 : decide (x6_1 < (l0_0.length : Int))=false:=decide_eq_false c6
    clear c6
    obtain rfl:=Option.some.inj H
    have hcz37_0 : wr.cell? ⟨gb160,0,none⟩=some (.slice A0_0 l0_0.length c0_0):=(blk_cell BK160.out 0).trans rfl
    have hcz37_1 : wr.cell? ⟨gb160,1,none⟩=some (.int .i64 a0_1):=(blk_cell BK160.out 1).trans rfl
    have hcz37_2 : wr.cell? ⟨gb160,2,none⟩=some (.int .i64 a0_2):=(blk_cell BK160.out 2).trans rfl
    have hcz37_3 : wr.cell? ⟨gb160,3,none⟩=some (.int .i64 a0_3):=(blk_cell BK160.out 3).trans rfl
    have hfz37_0:=blk_frozen BK160.out 0
    have hfz37_1:=blk_frozen BK160.out 1
    have hfz37_2:=blk_frozen BK160.out 2
    have hfz37_3:=blk_frozen BK160.out 3
    go_wp2
    go_ret
    exact ⟨_,by first|rfl|(simp [errW_none,errW_some] <;> rfl)|(simp [*,errW_none,errW_some] <;> rfl),by (with_reducible repeat (first|apply Kd.R_alloc|apply Kd.R_drewN|apply Kd.R_drew));exact HO_5.out,by repeat (first|(with_reducible first|exact HB.out|apply below_alloc|apply pw_below_drewN|apply below_drew1|refine below_set ?_ GE160.out)|exact HB.out)⟩
end Go.Proofs.Ytojbeofipedolaa.P

