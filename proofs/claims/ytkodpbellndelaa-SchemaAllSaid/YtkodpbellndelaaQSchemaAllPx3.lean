/- Texts of SchemaAll. Merged: Px3. -/
import Derived.Test.YtkodpbellndelaaQSchemaAllPx0
import Derived.Test.YtkodpbellndelaaQSchemaAllPx2
import Derived.Test.YtkodpbellndelaaQSchemaAllHCheck
namespace Go.Proofs.Ytkodpbellndelaa.P
open Go.RowKit Go.Proofs.YtkodpbellndelaaW.PrintWords Go.Proofs.YtkodpbellndelaaW.PrintLast Go.Proofs.YtkodpbellndelaaW.PrintMore
attribute [local go_sem] max2_int min2_int max_two min_two max_three min_three max_four min_four   -- for this text's walks alone
set_option linter.unusedVariables false
set_option linter.unusedSimpArgs false
def thresherlaw04_shown.f (k : Nat)  : Option (Bool):=(some (([1,3] : List Int) : List Int)).bind fun y135=>((schema_Put.f k y135 1 1 4).bind fun t139=>(if (strOfNums t139).toList=([2,1,3,1,1,4] : List UInt8) then ((schema_Check.f y135 1 1 4).bind fun t142=>(some (t142 == 0))) else (some false)))
theorem thresherlaw04_shown.mono : ∀ k,LeO (thresherlaw04_shown.f k ) (thresherlaw04_shown.f (k + 1) ):=by
 intro  k
 unfold thresherlaw04_shown.f
 repeat' first
   | (with_reducible exact schema_Put.mono _ _ _ _ _)
   | (with_reducible exact LeO.refl _)
   | (with_reducible exact LeO.none _)
   | (with_reducible refine LeO.ite ?_ ?_)
   | (with_reducible refine LeO.bind ?_ (fun _=>?_))
   | exact schema_Put.mono _ _ _ _ _
   | exact LeO.none _
   | refine LeO.ite ?_ ?_
   | refine LeO.bind ?_ (fun _=>?_)
set_option maxHeartbeats 8000000 in
set_option maxRecDepth 100000 in
theorem thresherlaw04_shown.calls (k : Nat)  (r : Bool) (w : World) (h : thresherlaw04_shown.f k =some r) :
  Calls Try.prog 9 #[] w fun e w'=>e=.returned (.bool r)∧Below w.heap.size w w':=by
 have hu30:=Try.underlying30
 have HB:=Aside0.mk (Below.refl w.heap.size w)
 have H : ((some (([1,3] : List Int) : List Int)).bind fun y135=>((schema_Put.f k y135 1 1 4).bind fun t139=>(if (strOfNums t139).toList=([2,1,3,1,1,4] : List UInt8) then ((schema_Check.f y135 1 1 4).bind fun t142=>(some (t142 == 0))) else (some false))))=some r:=h
 clear h
 obtain ⟨y135,hy135⟩ : ∃ y_ : List Int,y_=(([1,3] : List Int)):=⟨_,rfl⟩
 replace H : ((schema_Put.f k y135 1 1 4).bind fun t139=>(if (strOfNums t139).toList=([2,1,3,1,1,4] : List UInt8) then ((schema_Check.f y135 1 1 4).bind fun t142=>(some (t142 == 0))) else (some false)))=some r:=by first|(rw [hy135];with_reducible exact H)|(have H2_:=(Option.bind_some _ _).symm.trans H;rw [hy135];with_reducible exact H2_)|(have H2_:=(Option.bind_some _ _).symm.trans H;with_reducible exact H2_)|with_reducible exact H|(rw [hy135];exact H)|exact H
 have Ny135:=Aside0.mk hy135
 clear hy135
 replace H:=Option.bind_eq_some_iff.mp H
 obtain ⟨t139,A10,H⟩:=H
 replace H : (if (strOfNums t139).toList=([2,1,3,1,1,4] : List UInt8) then ((schema_Check.f y135 1 1 4).bind fun t142=>(some (t142 == 0))) else (some false))=some r:=H
 have A1:=Aside0.mk A10
 clear A10
 by_cases c2 : (strOfNums t139).toList=([2,1,3,1,1,4] : List UInt8)
 ·rw [if_pos c2] at H
  have c2b0 : ((strOfNums t139).toList == ([2,1,3,1,1,4] : List UInt8))=true:=beq_iff_eq.mpr c2
  have c2b1 : ((strOfNums t139).toList != ([2,1,3,1,1,4] : List UInt8))=false:=bne_eq_false_iff_eq.mpr c2
  clear c2
  replace H:=Option.bind_eq_some_iff.mp H
  obtain ⟨t142,A30,H⟩:=H
  replace H : (some (t142 == 0))=some r:=H
  have A3:=Aside0.mk A30
  clear A30
  obtain rfl:=Option.some.inj H
  go_enter Try.func9,Try.ntmps9
  go_wp2_with (first|((with_reducible refine gate_dst (N:=2) rfl ?_);refine Kd.R_lit (Kd.int .i64) _ 3 ?hg (N:=2) ?hd (xs:=([1,3] : List Int)) (inner:=[.int .i64 1,.int .i64 3]) (ok:=fun _=>True) (okp:=fun _=>True) ?hr ?hp (fun _ hk=>hk) trivial (Below.refl _ _) (Nat.le_refl _) (by simp) ?_;(case hd=>rfl);(case hg=>rfl);(case hr=>first|(go_simp;done)|(go_simp;rfl));(case hp=>exact (Reps.one (show Kd.M (Kd.int .i64) _ _ _ 1 [.int .i64 1] from rfl) (Reps.one (show Kd.M (Kd.int .i64) _ _ _ 3 [.int .i64 3] from rfl) (Reps.none _ _))));intro v136 w4 ho5 hb hg_ hnew_;clear hg_ hnew_;(first|rw [← Ny135.out] at ho5|(simp only [Int.reduceToNat] at ho5;rw [← Ny135.out] at ho5));have n0_:=Aside0.mk (Kd.R_lower ho5 (below_size (below_up HB.out)));have n1_:=Aside0.mk (below_step (below_up HB.out) hb);clear HB;have HO137:=n0_;have HB:=n1_;clear n0_ n1_;clear hb ho5;obtain ⟨Ao6,co6,eo6⟩:=Kd.R_slice HO137.out;subst eo6)|((with_reducible refine gate_dst (N:=1) rfl ?_);refine box_event ?hg (N:=1) ?hd (cs:=#[.slice none 0 0,.int .i64 0,.int .i64 0,.int .i64 0]) (t:=30) ?hr ?_;(case hd=>rfl);(case hg=>rfl);(case hr=>first|(go_simp;done)|(go_simp;rfl));intro gb138 hg w7 hbox hb;have n0_:=Aside0.mk (Kd.R_below (R_up HO137.out) hb);have n1_:=Aside0.mk (below_step (below_up HB.out) hb);have n2_:=Aside0.mk (hbox);have n3_:=Aside0.mk ((by rw [hg];exact (below_size (below_up HB.out)) : w.heap.size≤gb138));have n4_:=Aside0.mk ((by rw [hg];exact (below_size (below_up HB.out)) : w.heap.size≤gb138));clear HO137;clear HB;have HO137:=n0_;have HB:=n1_;have BK138:=n2_;have GW138:=n3_;have GE138:=n4_;clear n0_ n1_ n2_ n3_ n4_;clear hb hbox hg;have hcz8_0 : w7.cell? ⟨gb138,0,none⟩=some (.slice none 0 0):=(blk_cell BK138.out 0).trans rfl;have hcz8_1 : w7.cell? ⟨gb138,1,none⟩=some (.int .i64 0):=(blk_cell BK138.out 1).trans rfl;have hcz8_2 : w7.cell? ⟨gb138,2,none⟩=some (.int .i64 0):=(blk_cell BK138.out 2).trans rfl;have hcz8_3 : w7.cell? ⟨gb138,3,none⟩=some (.int .i64 0):=(blk_cell BK138.out 3).trans rfl;have hfz8_0:=blk_frozen BK138.out 0;have hfz8_1:=blk_frozen BK138.out 1;have hfz8_2:=blk_frozen BK138.out 2;have hfz8_3:=blk_frozen BK138.out 3)|((with_reducible refine gate_store (t:=30) (p:=1) rfl ?_);refine store_event (t:=30) (p:=1) (v:=?vo_w9) (w1:=((((w7.setCell ⟨gb138,0,none⟩ (.slice Ao6 y135.length co6)).setCell ⟨gb138,1,none⟩ (.int .i64 1)).setCell ⟨gb138,2,none⟩ (.int .i64 1)).setCell ⟨gb138,3,none⟩ (.int .i64 4))) ?hg ?ho ?hn ?hr ?_;(case ho=>rfl);(case hg=>rfl);(case hn=>rfl);(case hr=>first|(go_simp;done)|(go_simp;rfl));intro w9 hw;have n0_ : Aside0 (Kd.R (Kd.int .i64) 3 w9 w.heap.size (fun _=>True) (.slice Ao6 y135.length co6) y135):=⟨(by rw [hw];exact (by (with_reducible repeat (first|apply Kd.R_alloc|apply Kd.R_drewN|apply Kd.R_drew));exact Kd.R_mono (Kd.R_far (p:=⟨gb138,3,none⟩) (Kd.R_far (p:=⟨gb138,2,none⟩) (Kd.R_far (p:=⟨gb138,1,none⟩) (Kd.R_far (p:=⟨gb138,0,none⟩) (Kd.R_types HO137.out BK138.out (by decide)) (fun _ hk=>hk.2) (.slice Ao6 y135.length co6)) (fun _ hk=>hk.2) (.int .i64 1)) (fun _ hk=>hk.2) (.int .i64 1)) (fun _ hk=>hk.2) (.int .i64 4)) (fun _ hk=>trivial)))⟩;have n1_ : Aside0 (w9.heap[gb138]?=some (.cells #[.slice Ao6 y135.length co6,.int .i64 1,.int .i64 1,.int .i64 4] 30 (0,0))):=⟨(by rw [hw];exact (by (with_reducible repeat (first|refine blk_drewN ?_ _|refine blk_drew ?_|refine blk_alloc ?_ _));refine blk_put (cs:=#[.slice Ao6 y135.length co6,.int .i64 1,.int .i64 1,.int .i64 0]) ?_ 3 _ rfl;(with_reducible repeat (first|refine blk_drewN ?_ _|refine blk_drew ?_|refine blk_alloc ?_ _));refine blk_put (cs:=#[.slice Ao6 y135.length co6,.int .i64 1,.int .i64 0,.int .i64 0]) ?_ 2 _ rfl;(with_reducible repeat (first|refine blk_drewN ?_ _|refine blk_drew ?_|refine blk_alloc ?_ _));refine blk_put (cs:=#[.slice Ao6 y135.length co6,.int .i64 0,.int .i64 0,.int .i64 0]) ?_ 1 _ rfl;(with_reducible repeat (first|refine blk_drewN ?_ _|refine blk_drew ?_|refine blk_alloc ?_ _));refine blk_put (cs:=#[.slice none 0 0,.int .i64 0,.int .i64 0,.int .i64 0]) ?_ 0 _ rfl;(with_reducible repeat (first|refine blk_drewN ?_ _|refine blk_drew ?_|refine blk_alloc ?_ _));exact BK138.out))⟩;have n2_ : Aside0 (Below w.heap.size w w9):=⟨(by rw [hw];exact (below_go HB.out))⟩;clear hw;clear HO137;clear BK138;clear HB;have HO137:=n0_;have BK138:=n1_;have HB:=n2_;clear n0_ n1_ n2_;have hcz10_0 : w9.cell? ⟨gb138,0,none⟩=some (.slice Ao6 y135.length co6):=(blk_cell BK138.out 0).trans rfl;have hcz10_1 : w9.cell? ⟨gb138,1,none⟩=some (.int .i64 1):=(blk_cell BK138.out 1).trans rfl;have hcz10_2 : w9.cell? ⟨gb138,2,none⟩=some (.int .i64 1):=(blk_cell BK138.out 2).trans rfl;have hcz10_3 : w9.cell? ⟨gb138,3,none⟩=some (.int .i64 4):=(blk_cell BK138.out 3).trans rfl;have hfz10_0:=blk_frozen BK138.out 0;have hfz10_1:=blk_frozen BK138.out 1;have hfz10_2:=blk_frozen BK138.out 2;have hfz10_3:=blk_frozen BK138.out 3)|((with_reducible refine gate_callee (f:=14) rfl ?_);refine goesL_ (some 5) rfl rfl Try.func14 (by kernel_rfl) rfl #[.agg #[.slice Ao6 y135.length co6,.int .i64 1,.int .i64 1,.int .i64 4]] rfl (by (try simp only [List.map_toArray,List.map_cons,List.map_nil]);first|done|rfl|(simp only [List.length_drop,List.length_take];rfl)) ?_;(with_reducible refine (schema_Put.calls k (fun k_=>some k_=(.slice Ao6 y135.length co6 : Value).ownBlock) _ _ y135 1 1 4 t139 _ ?side1 A1.out).mono ?_);(case side1=>exact Kd.R_V (Kd.R_tight rfl (Kd.R_types (HO137.out) BK138.out (by decide))));rintro e w11 ⟨v140,rfl,ho0,hb⟩;refine ⟨_,rfl,?_⟩;have n0_:=Aside0.mk (Kd.R_below (R_up HO137.out) hb);have n1_:=Aside0.mk (Kd.R_lower (Kd.R_mono (ok':=fun k_=>True) ho0 (fun _ hk_=>trivial)) (below_size (below_go HB.out)));have n2_:=Aside0.mk (blk_below (blk_up BK138.out) hb);have n3_:=Aside0.mk (below_step (below_go HB.out) hb);clear HO137;clear BK138;clear HB;have HO137:=n0_;have HO141:=n1_;have BK138:=n2_;have HB:=n3_;clear n0_ n1_ n2_ n3_;(try clear hb);(try clear hb2);(try clear hk);(try clear hi);(try clear ho0);have hcv12:=own_string (P:=Try.prog) Try.underlying41 Try.underlying5 Try.underlying9 (Kd.own_of_R HO141.out);have hcz13_0 : w11.cell? ⟨gb138,0,none⟩=some (.slice Ao6 y135.length co6):=(blk_cell BK138.out 0).trans rfl;have hcz13_1 : w11.cell? ⟨gb138,1,none⟩=some (.int .i64 1):=(blk_cell BK138.out 1).trans rfl;have hcz13_2 : w11.cell? ⟨gb138,2,none⟩=some (.int .i64 1):=(blk_cell BK138.out 2).trans rfl;have hcz13_3 : w11.cell? ⟨gb138,3,none⟩=some (.int .i64 4):=(blk_cell BK138.out 3).trans rfl;have hfz13_0:=blk_frozen BK138.out 0;have hfz13_1:=blk_frozen BK138.out 1;have hfz13_2:=blk_frozen BK138.out 2;have hfz13_3:=blk_frozen BK138.out 3)|(go_at_call 23;(with_reducible refine (schema_Check.calls _ _ y135 1 1 4 t142 _ ?side1 ?side2 A3.out).mono ?_);(case side1=>repeat (first|exact (Kd.R_reads' HO137.out).2.2|(with_reducible refine Kd.C_alloc ?_ _)|(with_reducible refine Kd.C_drewN ?_ _)|(with_reducible refine Kd.C_drew ?_)));(case side2=>exact (Kd.R_reads' HO137.out).2.1);rintro e w14 ⟨rfl,hb⟩;have n0_:=Aside0.mk (Kd.R_below (R_up HO137.out) hb);have n1_:=Aside0.mk (Kd.R_below (R_up HO141.out) hb);have n2_:=Aside0.mk (blk_below (blk_up BK138.out) hb);have n3_:=Aside0.mk (below_step (below_go HB.out) hb);clear HO137;clear HO141;clear BK138;clear HB;have HO137:=n0_;have HO141:=n1_;have BK138:=n2_;have HB:=n3_;clear n0_ n1_ n2_ n3_;(try clear hb);(try clear hb2);(try clear hk);(try clear hi)))
  go_ret
  exact ⟨by first|rfl|(simp [errW_none,errW_some] <;> rfl)|(simp [*,errW_none,errW_some] <;> rfl),by repeat (first|(with_reducible first|exact HB.out|apply below_alloc|apply pw_below_drewN|apply below_drew1|refine below_set ?_ GE138.out)|exact HB.out)⟩
 ·rw [if_neg c2] at H
  have c2b0 : ((strOfNums t139).toList == ([2,1,3,1,1,4] : List UInt8))=false:=beq_eq_false_iff_ne.mpr c2
  have c2b1 : ((strOfNums t139).toList != ([2,1,3,1,1,4] : List UInt8))=true:=bne_iff_ne.mpr c2
  obtain rfl:=Option.some.inj H
  go_enter Try.func9,Try.ntmps9
  go_wp2_with (first|((with_reducible refine gate_dst (N:=2) rfl ?_);refine Kd.R_lit (Kd.int .i64) _ 3 ?hg (N:=2) ?hd (xs:=([1,3] : List Int)) (inner:=[.int .i64 1,.int .i64 3]) (ok:=fun _=>True) (okp:=fun _=>True) ?hr ?hp (fun _ hk=>hk) trivial (Below.refl _ _) (Nat.le_refl _) (by simp) ?_;(case hd=>rfl);(case hg=>rfl);(case hr=>first|(go_simp;done)|(go_simp;rfl));(case hp=>exact (Reps.one (show Kd.M (Kd.int .i64) _ _ _ 1 [.int .i64 1] from rfl) (Reps.one (show Kd.M (Kd.int .i64) _ _ _ 3 [.int .i64 3] from rfl) (Reps.none _ _))));intro v136 w15 ho16 hb hg_ hnew_;clear hg_ hnew_;(first|rw [← Ny135.out] at ho16|(simp only [Int.reduceToNat] at ho16;rw [← Ny135.out] at ho16));have n0_:=Aside0.mk (Kd.R_lower ho16 (below_size (below_up HB.out)));have n1_:=Aside0.mk (below_step (below_up HB.out) hb);clear HB;have HO137:=n0_;have HB:=n1_;clear n0_ n1_;clear hb ho16;obtain ⟨Ao17,co17,eo17⟩:=Kd.R_slice HO137.out;subst eo17)|((with_reducible refine gate_dst (N:=1) rfl ?_);refine box_event ?hg (N:=1) ?hd (cs:=#[.slice none 0 0,.int .i64 0,.int .i64 0,.int .i64 0]) (t:=30) ?hr ?_;(case hd=>rfl);(case hg=>rfl);(case hr=>first|(go_simp;done)|(go_simp;rfl));intro gb138 hg w18 hbox hb;have n0_:=Aside0.mk (Kd.R_below (R_up HO137.out) hb);have n1_:=Aside0.mk (below_step (below_up HB.out) hb);have n2_:=Aside0.mk (hbox);have n3_:=Aside0.mk ((by rw [hg];exact (below_size (below_up HB.out)) : w.heap.size≤gb138));have n4_:=Aside0.mk ((by rw [hg];exact (below_size (below_up HB.out)) : w.heap.size≤gb138));clear HO137;clear HB;have HO137:=n0_;have HB:=n1_;have BK138:=n2_;have GW138:=n3_;have GE138:=n4_;clear n0_ n1_ n2_ n3_ n4_;clear hb hbox hg;have hcz19_0 : w18.cell? ⟨gb138,0,none⟩=some (.slice none 0 0):=(blk_cell BK138.out 0).trans rfl;have hcz19_1 : w18.cell? ⟨gb138,1,none⟩=some (.int .i64 0):=(blk_cell BK138.out 1).trans rfl;have hcz19_2 : w18.cell? ⟨gb138,2,none⟩=some (.int .i64 0):=(blk_cell BK138.out 2).trans rfl;have hcz19_3 : w18.cell? ⟨gb138,3,none⟩=some (.int .i64 0):=(blk_cell BK138.out 3).trans rfl;have hfz19_0:=blk_frozen BK138.out 0;have hfz19_1:=blk_frozen BK138.out 1;have hfz19_2:=blk_frozen BK138.out 2;have hfz19_3:=blk_frozen BK138.out 3)|((with_reducible refine gate_store (t:=30) (p:=1) rfl ?_);refine store_event (t:=30) (p:=1) (v:=?vo_w20) (w1:=((((w18.setCell ⟨gb138,0,none⟩ (.slice Ao17 y135.length co17)).setCell ⟨gb138,1,none⟩ (.int .i64 1)).setCell ⟨gb138,2,none⟩ (.int .i64 1)).setCell ⟨gb138,3,none⟩ (.int .i64 4))) ?hg ?ho ?hn ?hr ?_;(case ho=>rfl);(case hg=>rfl);(case hn=>rfl);(case hr=>first|(go_simp;done)|(go_simp;rfl));intro w20 hw;have n0_ : Aside0 (Kd.R (Kd.int .i64) 3 w20 w.heap.size (fun _=>True) (.slice Ao17 y135.length co17) y135):=⟨(by rw [hw];exact (by (with_reducible repeat (first|apply Kd.R_alloc|apply Kd.R_drewN|apply Kd.R_drew));exact Kd.R_mono (Kd.R_far (p:=⟨gb138,3,none⟩) (Kd.R_far (p:=⟨gb138,2,none⟩) (Kd.R_far (p:=⟨gb138,1,none⟩) (Kd.R_far (p:=⟨gb138,0,none⟩) (Kd.R_types HO137.out BK138.out (by decide)) (fun _ hk=>hk.2) (.slice Ao17 y135.length co17)) (fun _ hk=>hk.2) (.int .i64 1)) (fun _ hk=>hk.2) (.int .i64 1)) (fun _ hk=>hk.2) (.int .i64 4)) (fun _ hk=>trivial)))⟩;have n1_ : Aside0 (w20.heap[gb138]?=some (.cells #[.slice Ao17 y135.length co17,.int .i64 1,.int .i64 1,.int .i64 4] 30 (0,0))):=⟨(by rw [hw];exact (by (with_reducible repeat (first|refine blk_drewN ?_ _|refine blk_drew ?_|refine blk_alloc ?_ _));refine blk_put (cs:=#[.slice Ao17 y135.length co17,.int .i64 1,.int .i64 1,.int .i64 0]) ?_ 3 _ rfl;(with_reducible repeat (first|refine blk_drewN ?_ _|refine blk_drew ?_|refine blk_alloc ?_ _));refine blk_put (cs:=#[.slice Ao17 y135.length co17,.int .i64 1,.int .i64 0,.int .i64 0]) ?_ 2 _ rfl;(with_reducible repeat (first|refine blk_drewN ?_ _|refine blk_drew ?_|refine blk_alloc ?_ _));refine blk_put (cs:=#[.slice Ao17 y135.length co17,.int .i64 0,.int .i64 0,.int .i64 0]) ?_ 1 _ rfl;(with_reducible repeat (first|refine blk_drewN ?_ _|refine blk_drew ?_|refine blk_alloc ?_ _));refine blk_put (cs:=#[.slice none 0 0,.int .i64 0,.int .i64 0,.int .i64 0]) ?_ 0 _ rfl;(with_reducible repeat (first|refine blk_drewN ?_ _|refine blk_drew ?_|refine blk_alloc ?_ _));exact BK138.out))⟩;have n2_ : Aside0 (Below w.heap.size w w20):=⟨(by rw [hw];exact (below_go HB.out))⟩;clear hw;clear HO137;clear BK138;clear HB;have HO137:=n0_;have BK138:=n1_;have HB:=n2_;clear n0_ n1_ n2_;have hcz21_0 : w20.cell? ⟨gb138,0,none⟩=some (.slice Ao17 y135.length co17):=(blk_cell BK138.out 0).trans rfl;have hcz21_1 : w20.cell? ⟨gb138,1,none⟩=some (.int .i64 1):=(blk_cell BK138.out 1).trans rfl;have hcz21_2 : w20.cell? ⟨gb138,2,none⟩=some (.int .i64 1):=(blk_cell BK138.out 2).trans rfl;have hcz21_3 : w20.cell? ⟨gb138,3,none⟩=some (.int .i64 4):=(blk_cell BK138.out 3).trans rfl;have hfz21_0:=blk_frozen BK138.out 0;have hfz21_1:=blk_frozen BK138.out 1;have hfz21_2:=blk_frozen BK138.out 2;have hfz21_3:=blk_frozen BK138.out 3)|((with_reducible refine gate_callee (f:=14) rfl ?_);refine goesL_ (some 5) rfl rfl Try.func14 (by kernel_rfl) rfl #[.agg #[.slice Ao17 y135.length co17,.int .i64 1,.int .i64 1,.int .i64 4]] rfl (by (try simp only [List.map_toArray,List.map_cons,List.map_nil]);first|done|rfl|(simp only [List.length_drop,List.length_take];rfl)) ?_;(with_reducible refine (schema_Put.calls k (fun k_=>some k_=(.slice Ao17 y135.length co17 : Value).ownBlock) _ _ y135 1 1 4 t139 _ ?side1 A1.out).mono ?_);(case side1=>exact Kd.R_V (Kd.R_tight rfl (Kd.R_types (HO137.out) BK138.out (by decide))));rintro e w22 ⟨v140,rfl,ho0,hb⟩;refine ⟨_,rfl,?_⟩;have n0_:=Aside0.mk (Kd.R_below (R_up HO137.out) hb);have n1_:=Aside0.mk (Kd.R_lower (Kd.R_mono (ok':=fun k_=>True) ho0 (fun _ hk_=>trivial)) (below_size (below_go HB.out)));have n2_:=Aside0.mk (blk_below (blk_up BK138.out) hb);have n3_:=Aside0.mk (below_step (below_go HB.out) hb);clear HO137;clear BK138;clear HB;have HO137:=n0_;have HO141:=n1_;have BK138:=n2_;have HB:=n3_;clear n0_ n1_ n2_ n3_;(try clear hb);(try clear hb2);(try clear hk);(try clear hi);(try clear ho0);have hcv23:=own_string (P:=Try.prog) Try.underlying41 Try.underlying5 Try.underlying9 (Kd.own_of_R HO141.out)))
  go_ret
  exact ⟨by first|rfl|(simp [errW_none,errW_some] <;> rfl)|(simp [*,errW_none,errW_some] <;> rfl),by repeat (first|(with_reducible first|exact HB.out|apply below_alloc|apply pw_below_drewN|apply below_drew1|refine below_set ?_ GE138.out)|exact HB.out)⟩
def thresherref04_Made.l0 : Nat→Int→Int→Int→Int→Int→Int→Int→Int→Int→Int→List Int→Int→Int→Int→Option (List Int × Int × Int × Int)
 | 0,_,_,_,_,_,_,_,_,_,_,_,_,_,_=>none
 | k + 1,x11,x13,x144000,x144001,x144002,x144003,x144004,x144005,x144006,x144007,x146000,x146001,x146002,x146003=>if x13 < x11 then (if 0≤x13 then (if x13 < 8 then (if x146000.length < 17592186044416 then (thresherref04_Made.l0 k x11 (wrap64 (x13 + 1)) x144000 x144001 x144002 x144003 x144004 x144005 x144006 x144007 (x146000 ++ [wrap64 (1 + (Int.tmod (wrap64 (rd [x144000,x144001,x144002,x144003,x144004,x144005,x144006,x144007] x13)) 3))]) x146001 x146002 x146003) else (none)) else (none)) else (none)) else (some (x146000,x146001,x146002,x146003))
def thresherref04_Made.f (k : Nat) (a0_0 : Int) (a0_1 : Int) (a0_2 : Int) (a0_3 : Int) (a0_4 : Int) (a0_5 : Int) (a0_6 : Int) (a0_7 : Int) (a1 : Int) (a2 : Int) (a3 : Int) (a4 : Int) : Option (List Int × Int × Int × Int):=if (wrap64 (1 + (Int.tmod (wrap64 (a1)) 8)))=0 then (none) else (thresherref04_Made.l0 k (wrap64 (1 + (Int.tmod (wrap64 (a1)) 8))) 0 a0_0 a0_1 a0_2 a0_3 a0_4 a0_5 a0_6 a0_7 ([] : List Int) (wrap64 (1 + (Int.tmod (wrap64 (a2)) (wrap64 (1 + (Int.tmod (wrap64 (a1)) 8)))))) (wrap64 (1 + (Int.tmod (wrap64 (a3)) 3))) (wrap64 (1 + (Int.tmod (wrap64 (a4)) 8))))
theorem thresherref04_Made.mono_l : ∀ k,(∀ y0 y1 y2 y3 y4 y5 y6 y7 y8 y9 y10 y11 y12 y13,LeO (thresherref04_Made.l0 k y0 y1 y2 y3 y4 y5 y6 y7 y8 y9 y10 y11 y12 y13) (thresherref04_Made.l0 (k + 1) y0 y1 y2 y3 y4 y5 y6 y7 y8 y9 y10 y11 y12 y13))
 | 0=>fun _ _ _ _ _ _ _ _ _ _ _ _ _ _ r h=>by simp [thresherref04_Made.l0] at h
 | k + 1=>by
  have ih0:=thresherref04_Made.mono_l k
  ·intro y0 y1 y2 y3 y4 y5 y6 y7 y8 y9 y10 y11 y12 y13
   unfold thresherref04_Made.l0
   repeat' first
   | (with_reducible exact ih0 _ _ _ _ _ _ _ _ _ _ _ _ _ _)
   | (with_reducible exact LeO.refl _)
   | (with_reducible exact LeO.none _)
   | (with_reducible refine LeO.ite ?_ ?_)
   | (with_reducible refine LeO.bind ?_ (fun _=>?_))
   | exact ih0 _ _ _ _ _ _ _ _ _ _ _ _ _ _
   | exact LeO.none _
   | refine LeO.ite ?_ ?_
   | refine LeO.bind ?_ (fun _=>?_)
theorem thresherref04_Made.mono : ∀ a0 a1 a2 a3 a4 a5 a6 a7 a8 a9 a10 a11 k,LeO (thresherref04_Made.f k a0 a1 a2 a3 a4 a5 a6 a7 a8 a9 a10 a11) (thresherref04_Made.f (k + 1) a0 a1 a2 a3 a4 a5 a6 a7 a8 a9 a10 a11):=by
 intro a0 a1 a2 a3 a4 a5 a6 a7 a8 a9 a10 a11 k
 have ih0:=thresherref04_Made.mono_l k
 unfold thresherref04_Made.f
 repeat' first
   | (with_reducible exact ih0 _ _ _ _ _ _ _ _ _ _ _ _ _ _)
   | (with_reducible exact LeO.refl _)
   | (with_reducible exact LeO.none _)
   | (with_reducible refine LeO.ite ?_ ?_)
   | (with_reducible refine LeO.bind ?_ (fun _=>?_))
   | exact ih0 _ _ _ _ _ _ _ _ _ _ _ _ _ _
   | exact LeO.none _
   | refine LeO.ite ?_ ?_
   | refine LeO.bind ?_ (fun _=>?_)
def thresherref04_Made.T6 : Bool × List (List Nat × List Nat):=(true,[([],[]),([0],[0]),([],[]),([2],[2]),([3],[3]),([4],[4]),([5],[5]),([6],[6]),([7],[7]),([1,8],[1,8]),([0,1,2,3,4,5,6,7,8,9],[]),([10,9,9,0,1,2,3,4,5,6,7,8,9],[9,10])])
def thresherref04_Made.B6 : List Nat:=[0,1,0,4,12,28,60,124,252,511,1023,2047]
theorem thresherref04_Made.tab6 : rtab .any (opsOf Try.f27 6)=thresherref04_Made.T6:=by kernel_rfl
theorem thresherref04_Made.bits6 : waitsOk thresherref04_Made.T6.2 thresherref04_Made.B6=true:=by kernel_rfl
set_option maxHeartbeats 8000000 in
set_option maxRecDepth 100000 in
theorem thresherref04_Made.calls (k : Nat) (a0_0 : Int) (a0_1 : Int) (a0_2 : Int) (a0_3 : Int) (a0_4 : Int) (a0_5 : Int) (a0_6 : Int) (a0_7 : Int) (a1 : Int) (a2 : Int) (a3 : Int) (a4 : Int) (r1 : List Int) (r2 : Int) (r3 : Int) (r4 : Int) (w : World) (h : thresherref04_Made.f k a0_0 a0_1 a0_2 a0_3 a0_4 a0_5 a0_6 a0_7 a1 a2 a3 a4=some (r1,r2,r3,r4)) :
  Calls Try.prog 27 #[.agg #[.int .u8 a0_0,.int .u8 a0_1,.int .u8 a0_2,.int .u8 a0_3,.int .u8 a0_4,.int .u8 a0_5,.int .u8 a0_6,.int .u8 a0_7],.int .u8 a1,.int .u8 a2,.int .u8 a3,.int .u8 a4] w fun e w'=>∃ v0_ : Value,e=.returned (.agg #[v0_,.int .i64 r2,.int .i64 r3,.int .i64 r4])∧Kd.R (Kd.int .i64) 3 w' w.heap.size (fun _=>True) v0_ r1∧Below w.heap.size w w':=by
 have hu22:=Try.underlying22
 have hu30:=Try.underlying30
 have HB:=Aside0.mk (Below.refl w.heap.size w)
 have H : (if (wrap64 (1 + (Int.tmod (wrap64 (a1)) 8)))=0 then (none) else (thresherref04_Made.l0 k (wrap64 (1 + (Int.tmod (wrap64 (a1)) 8))) 0 a0_0 a0_1 a0_2 a0_3 a0_4 a0_5 a0_6 a0_7 ([] : List Int) (wrap64 (1 + (Int.tmod (wrap64 (a2)) (wrap64 (1 + (Int.tmod (wrap64 (a1)) 8)))))) (wrap64 (1 + (Int.tmod (wrap64 (a3)) 3))) (wrap64 (1 + (Int.tmod (wrap64 (a4)) 8)))))=some (r1,r2,r3,r4):=h
 clear h
 by_cases c6 : (wrap64 (1 + (Int.tmod (wrap64 (a1)) 8)))=0
 ·rw [if_pos c6] at H
  exact absurd H (by simp)
 ·rw [if_neg c6] at H
  have c6b0 : ((wrap64 (1 + (Int.tmod (wrap64 (a1)) 8))) == 0)=false:=beq_eq_false_iff_ne.mpr c6
  have c6b1 : ((wrap64 (1 + (Int.tmod (wrap64 (a1)) 8))) != 0)=true:=bne_iff_ne.mpr c6
  have H':=Aside0.mk H
  clear H
  go_enter Try.func27,Try.ntmps27
  go_wp2_with (first|((with_reducible refine gate_dst (N:=5) rfl ?_);refine box_event ?hg (N:=5) ?hd (cs:=#[.int .u8 a0_0,.int .u8 a0_1,.int .u8 a0_2,.int .u8 a0_3,.int .u8 a0_4,.int .u8 a0_5,.int .u8 a0_6,.int .u8 a0_7]) (t:=22) ?hr ?_;(case hd=>rfl);(case hg=>rfl);(case hr=>first|(go_simp;done)|(go_simp;rfl));intro gb143 hg w7 hbox hb;have n0_:=Aside0.mk (below_step (below_up HB.out) hb);have n1_:=Aside0.mk (hbox);have n2_:=Aside0.mk ((by rw [hg];exact (below_size (below_up HB.out)) : w.heap.size≤gb143));have n3_:=Aside0.mk ((by rw [hg];exact (below_size (below_up HB.out)) : w.heap.size≤gb143));clear HB;have HB:=n0_;have BK143:=n1_;have GW143:=n2_;have GE143:=n3_;clear n0_ n1_ n2_ n3_;clear hb hbox hg)|((with_reducible refine gate_dst (N:=10) rfl ?_);refine box_event ?hg (N:=10) ?hd (cs:=#[.slice none 0 0,.int .i64 0,.int .i64 0,.int .i64 0]) (t:=30) ?hr ?_;(case hd=>rfl);(case hg=>rfl);(case hr=>first|(go_simp;done)|(go_simp;rfl));intro gb144 hg w8 hbox hb;have n0_:=Aside0.mk (blk_below (blk_up BK143.out) hb);have n1_:=Aside0.mk (below_step (below_go HB.out) hb);have n2_:=Aside0.mk (hbox);have n3_:=Aside0.mk ((by rw [hg];exact (below_size (below_go HB.out)) : w.heap.size≤gb144));have n4_:=Aside0.mk ((by rw [hg];exact (below_size (below_go HB.out)) : w.heap.size≤gb144));have n5_:=Aside0.mk ((by rw [hg];exact Nat.ne_of_lt (blk_lt (blk_up BK143.out)) : gb143≠gb144));have n6_:=Aside0.mk ((by rw [hg];exact Nat.ne_of_gt (blk_lt (blk_up BK143.out)) : gb144≠gb143));clear BK143;clear HB;have BK143:=n0_;have HB:=n1_;have BK144:=n2_;have GW144:=n3_;have GE144:=n4_;have NB143_144:=n5_;have NB144_143:=n6_;clear n0_ n1_ n2_ n3_ n4_ n5_ n6_;clear hb hbox hg)|((with_reducible refine gate_dst (N:=12) rfl ?_);refine box_event ?hg (N:=12) ?hd (cs:=#[.slice none 0 0,.int .i64 0,.int .i64 0,.int .i64 0]) (t:=30) ?hr ?_;(case hd=>rfl);(case hg=>rfl);(case hr=>first|(go_simp;done)|(go_simp;rfl));intro gb145 hg w9 hbox hb;have n0_:=Aside0.mk (blk_below (blk_up BK143.out) hb);have n1_:=Aside0.mk (blk_below (blk_up BK144.out) hb);have n2_:=Aside0.mk (below_step (below_go HB.out) hb);have n3_:=Aside0.mk (hbox);have n4_:=Aside0.mk ((by rw [hg];exact (below_size (below_go HB.out)) : w.heap.size≤gb145));have n5_:=Aside0.mk ((by rw [hg];exact (below_size (below_go HB.out)) : w.heap.size≤gb145));have n6_:=Aside0.mk ((by rw [hg];exact Nat.ne_of_lt (blk_lt (blk_up BK143.out)) : gb143≠gb145));have n7_:=Aside0.mk ((by rw [hg];exact Nat.ne_of_gt (blk_lt (blk_up BK143.out)) : gb145≠gb143));have n8_:=Aside0.mk ((by rw [hg];exact Nat.ne_of_lt (blk_lt (blk_up BK144.out)) : gb144≠gb145));have n9_:=Aside0.mk ((by rw [hg];exact Nat.ne_of_gt (blk_lt (blk_up BK144.out)) : gb145≠gb144));clear BK143;clear BK144;clear HB;have BK143:=n0_;have BK144:=n1_;have HB:=n2_;have BK145:=n3_;have GW145:=n4_;have GE145:=n5_;have NB143_145:=n6_;have NB145_143:=n7_;have NB144_145:=n8_;have NB145_144:=n9_;clear n0_ n1_ n2_ n3_ n4_ n5_ n6_ n7_ n8_ n9_;clear hb hbox hg;have hnb10:=NB145_143.out;have hnc10:=NB143_145.out;have hnb11:=NB145_144.out;have hnc11:=NB144_145.out;have hcz12_0 : w9.cell? ⟨gb145,0,none⟩=some (.slice none 0 0):=(blk_cell BK145.out 0).trans rfl;have hcz12_1 : w9.cell? ⟨gb145,1,none⟩=some (.int .i64 0):=(blk_cell BK145.out 1).trans rfl;have hcz12_2 : w9.cell? ⟨gb145,2,none⟩=some (.int .i64 0):=(blk_cell BK145.out 2).trans rfl;have hcz12_3 : w9.cell? ⟨gb145,3,none⟩=some (.int .i64 0):=(blk_cell BK145.out 3).trans rfl;have hfz12_0:=blk_frozen BK145.out 0;have hfz12_1:=blk_frozen BK145.out 1;have hfz12_2:=blk_frozen BK145.out 2;have hfz12_3:=blk_frozen BK145.out 3))
  go_loopg [13] k (fun kq v13 w'=>∃ (x13_1 : Int) (x146000_1 : List Int) (u146000 : Value),v13=.int .i64 x13_1∧Aside0 (thresherref04_Made.l0 kq (wrap64 (1 + (Int.tmod (wrap64 (a1)) 8))) x13_1 a0_0 a0_1 a0_2 a0_3 a0_4 a0_5 a0_6 a0_7 x146000_1 (wrap64 (1 + (Int.tmod (wrap64 (a2)) (wrap64 (1 + (Int.tmod (wrap64 (a1)) 8)))))) (wrap64 (1 + (Int.tmod (wrap64 (a3)) 3))) (wrap64 (1 + (Int.tmod (wrap64 (a4)) 8)))=some (r1,r2,r3,r4))∧Aside0 (kq≤k)∧Aside0 (Kd.R (Kd.int .i64) 3 w' w.heap.size (fun _=>True) u146000 x146000_1)∧Aside0 (w'.heap[gb143]?=some (.cells #[.int .u8 a0_0,.int .u8 a0_1,.int .u8 a0_2,.int .u8 a0_3,.int .u8 a0_4,.int .u8 a0_5,.int .u8 a0_6,.int .u8 a0_7] 22 (0,0)))∧Aside0 (w'.heap[gb144]?=some (.cells #[(.slice none 0 0),.int .i64 0,.int .i64 0,.int .i64 0] 30 (0,0)))∧Aside0 (w'.heap[gb145]?=some (.cells #[u146000,.int .i64 (wrap64 (1 + (Int.tmod (wrap64 (a2)) (wrap64 (1 + (Int.tmod (wrap64 (a1)) 8)))))),.int .i64 (wrap64 (1 + (Int.tmod (wrap64 (a3)) 3))),.int .i64 (wrap64 (1 + (Int.tmod (wrap64 (a4)) 8)))] 30 (0,0)))∧Aside0 (Below w.heap.size w w'))
  case atStart=>exact ⟨(0),(([] : List Int)),(.slice none 0 0),(by first|rfl|(simp;done)|(simp [*];done)),H',⟨Nat.le_refl _⟩,⟨by first|exact Kd.R_nil _ _ _ _ _|exact Kd.N_nil _ _ _ _ _|exact Kd.V_nil _ _ _ _ _|exact Kd.Q_nil _ _ _ _ _|exact Kd.S_nil _ _ _ _ _⟩,⟨by (with_reducible repeat (first|refine blk_drewN ?_ _|refine blk_drew ?_|refine blk_alloc ?_ _));refine blk_far ?_ NB143_145.out _;(with_reducible repeat (first|refine blk_drewN ?_ _|refine blk_drew ?_|refine blk_alloc ?_ _));refine blk_far ?_ NB143_145.out _;(with_reducible repeat (first|refine blk_drewN ?_ _|refine blk_drew ?_|refine blk_alloc ?_ _));refine blk_far ?_ NB143_145.out _;(with_reducible repeat (first|refine blk_drewN ?_ _|refine blk_drew ?_|refine blk_alloc ?_ _));refine blk_far ?_ NB143_145.out _;(with_reducible repeat (first|refine blk_drewN ?_ _|refine blk_drew ?_|refine blk_alloc ?_ _));exact BK143.out⟩,⟨by (with_reducible repeat (first|refine blk_drewN ?_ _|refine blk_drew ?_|refine blk_alloc ?_ _));refine blk_far ?_ NB144_145.out _;(with_reducible repeat (first|refine blk_drewN ?_ _|refine blk_drew ?_|refine blk_alloc ?_ _));refine blk_far ?_ NB144_145.out _;(with_reducible repeat (first|refine blk_drewN ?_ _|refine blk_drew ?_|refine blk_alloc ?_ _));refine blk_far ?_ NB144_145.out _;(with_reducible repeat (first|refine blk_drewN ?_ _|refine blk_drew ?_|refine blk_alloc ?_ _));refine blk_far ?_ NB144_145.out _;(with_reducible repeat (first|refine blk_drewN ?_ _|refine blk_drew ?_|refine blk_alloc ?_ _));exact BK144.out⟩,⟨by (with_reducible repeat (first|refine blk_drewN ?_ _|refine blk_drew ?_|refine blk_alloc ?_ _));refine blk_put (cs:=#[.slice none 0 0,.int .i64 (wrap64 (1 + (Int.tmod (wrap64 (a2)) (wrap64 (1 + (Int.tmod (wrap64 (a1)) 8)))))),.int .i64 (wrap64 (1 + (Int.tmod (wrap64 (a3)) 3))),.int .i64 0]) ?_ 3 _ rfl;(with_reducible repeat (first|refine blk_drewN ?_ _|refine blk_drew ?_|refine blk_alloc ?_ _));refine blk_put (cs:=#[.slice none 0 0,.int .i64 (wrap64 (1 + (Int.tmod (wrap64 (a2)) (wrap64 (1 + (Int.tmod (wrap64 (a1)) 8)))))),.int .i64 0,.int .i64 0]) ?_ 2 _ rfl;(with_reducible repeat (first|refine blk_drewN ?_ _|refine blk_drew ?_|refine blk_alloc ?_ _));refine blk_put (cs:=#[.slice none 0 0,.int .i64 0,.int .i64 0,.int .i64 0]) ?_ 1 _ rfl;(with_reducible repeat (first|refine blk_drewN ?_ _|refine blk_drew ?_|refine blk_alloc ?_ _));refine blk_put (cs:=#[.slice none 0 0,.int .i64 0,.int .i64 0,.int .i64 0]) ?_ 0 _ rfl;(with_reducible repeat (first|refine blk_drewN ?_ _|refine blk_drew ?_|refine blk_alloc ?_ _));exact BK145.out⟩,⟨by repeat (first|(with_reducible first|exact HB.out|apply below_alloc|apply pw_below_drewN|apply below_drew1|refine below_set ?_ GE143.out|refine below_set ?_ GE144.out|refine below_set ?_ GE145.out)|exact HB.out)⟩⟩
  case round =>
   clear H'
   try clear c1
   try clear c2
   try clear p2
   try clear c6
   try clear c6b0
   try clear c6b1
   try clear p6
   try clear c10
   try clear c11
   try clear hcz12_0
   try clear hcz12_1
   try clear hcz12_2
   try clear hcz12_3
   try clear hfz12_0
   try clear hfz12_1
   try clear hfz12_2
   try clear hfz12_3
   obtain ⟨x13_1,x146000_1,u146000,rfl,HA,HK1,HO_146000,BK143,BK144,BK145,HB⟩:=hrel
   cases gk with
   | zero=>exact absurd HA.out (by simp [thresherref04_Made.l0])
   | succ k1 =>
    have H:=HA.out
    clear HA
    simp only [thresherref04_Made.l0] at H
    by_cases c13 : x13_1 < (wrap64 (1 + (Int.tmod (wrap64 (a1)) 8)))
    ·rw [if_pos c13] at H
     have c13b0 : decide (x13_1 < (wrap64 (1 + (Int.tmod (wrap64 (a1)) 8))))=true:=decide_eq_true c13
     clear c13
     by_cases c14 : 0≤x13_1
     ·rw [if_pos c14] at H
      have c14b0 : decide (0≤x13_1)=true:=decide_eq_true c14
      clear c14
      by_cases c15 : x13_1 < 8
      ·rw [if_pos c15] at H
       have c15b0 : decide (x13_1 < 8)=true:=decide_eq_true c15
       clear c15
       have c16b0:=eq_true (of_decide_eq_true (by first|(with_reducible assumption)|assumption) : 0≤x13_1)
       have c17b0:=eq_true (of_decide_eq_true (by first|(with_reducible assumption)|assumption) : x13_1 < 8)
       by_cases c18 : x146000_1.length < 17592186044416
       ·rw [if_pos c18] at H
        have LMc18:=Aside0.mk c18
        clear c18
        obtain ⟨y146,hy146⟩ : ∃ y_ : List Int,y_=(x146000_1 ++ [wrap64 (1 + (Int.tmod (wrap64 (rd [a0_0,a0_1,a0_2,a0_3,a0_4,a0_5,a0_6,a0_7] x13_1)) 3))]):=⟨_,rfl⟩
        replace H : (thresherref04_Made.l0 k1 (wrap64 (1 + (Int.tmod (wrap64 (a1)) 8))) (wrap64 (x13_1 + 1)) a0_0 a0_1 a0_2 a0_3 a0_4 a0_5 a0_6 a0_7 y146 (wrap64 (1 + (Int.tmod (wrap64 (a2)) (wrap64 (1 + (Int.tmod (wrap64 (a1)) 8)))))) (wrap64 (1 + (Int.tmod (wrap64 (a3)) 3))) (wrap64 (1 + (Int.tmod (wrap64 (a4)) 8))))=some (r1,r2,r3,r4):=by first|(rw [hy146];with_reducible exact H)|(have H2_:=(Option.bind_some _ _).symm.trans H;rw [hy146];with_reducible exact H2_)|(have H2_:=(Option.bind_some _ _).symm.trans H;with_reducible exact H2_)|with_reducible exact H|(rw [hy146];exact H)|exact H
        have Ny146:=Aside0.mk hy146
        clear hy146
        have H':=Aside0.mk H
        clear H
        try go_wp2
        have n0_:=Aside0.mk (Kd.R_drew HO_146000.out)
        have n1_:=Aside0.mk (blk_drew BK143.out)
        have n2_:=Aside0.mk (blk_drew BK144.out)
        have n3_:=Aside0.mk (blk_drew BK145.out)
        have n4_:=Aside0.mk (below_drew1 HB.out)
        clear HO_146000
        clear BK143
        clear BK144
        clear BK145
        clear HB
        have HO_146000:=n0_
        have BK143:=n1_
        have BK144:=n2_
        have BK145:=n3_
        have HB:=n4_
        clear n0_ n1_ n2_ n3_ n4_
        refine start_ (n:=12) (S:=fun w'=>w'.cell? ⟨gb145,0,none⟩=some (u146000)∧w'.cell? ⟨gb145,1,none⟩=some (.int .i64 (wrap64 (1 + (Int.tmod (wrap64 (a2)) (wrap64 (1 + (Int.tmod (wrap64 (a1)) 8)))))))∧w'.cell? ⟨gb145,2,none⟩=some (.int .i64 (wrap64 (1 + (Int.tmod (wrap64 (a3)) 3))))∧w'.cell? ⟨gb145,3,none⟩=some (.int .i64 (wrap64 (1 + (Int.tmod (wrap64 (a4)) 8))))∧w'.cell? ⟨gb143,0,none⟩=some (.int .u8 a0_0)∧w'.cell? ⟨gb143,1,none⟩=some (.int .u8 a0_1)∧w'.cell? ⟨gb143,2,none⟩=some (.int .u8 a0_2)∧w'.cell? ⟨gb143,3,none⟩=some (.int .u8 a0_3)∧w'.cell? ⟨gb143,4,none⟩=some (.int .u8 a0_4)∧w'.cell? ⟨gb143,5,none⟩=some (.int .u8 a0_5)∧w'.cell? ⟨gb143,6,none⟩=some (.int .u8 a0_6)∧w'.cell? ⟨gb143,7,none⟩=some (.int .u8 a0_7)∧w'.cell? ⟨gb143,x13_1.toNat,none⟩=some (.int .u8 (rd [a0_0,a0_1,a0_2,a0_3,a0_4,a0_5,a0_6,a0_7] x13_1))) (ds:=[11]) #[false,false,false,false,false,false,false,false,false,false,false,false] (by kernel_rfl) rfl rfl ⟨(blk_cell BK145.out 0).trans rfl,(blk_cell BK145.out 1).trans rfl,(blk_cell BK145.out 2).trans rfl,(blk_cell BK145.out 3).trans rfl,(blk_cell BK143.out 0).trans rfl,(blk_cell BK143.out 1).trans rfl,(blk_cell BK143.out 2).trans rfl,(blk_cell BK143.out 3).trans rfl,(blk_cell BK143.out 4).trans rfl,(blk_cell BK143.out 5).trans rfl,(blk_cell BK143.out 6).trans rfl,(blk_cell BK143.out 7).trans rfl,(blk_cell BK143.out x13_1.toNat).trans (cells_rd .u8 [a0_0,a0_1,a0_2,a0_3,a0_4,a0_5,a0_6,a0_7] x13_1 (of_decide_eq_true (by first|(with_reducible assumption)|assumption)) (of_decide_eq_true (by first|(with_reducible assumption)|assumption)))⟩ (fun hHeld=>?_);refine with_tabW thresherref04_Made.tab6 thresherref04_Made.bits6 (fun HT_ HW_=>?_)
        generalize wr.drew=w19 at HO_146000 BK143 BK144 BK145 HB hHeld ⊢
        refine pure_ (i:=0) (N:=some 37) (v:=?_) (a':=?_) #[true,false,false,false,false,false,false,false,false,false,false,false] rfl rfl (any_of HT_.out (by kernel_rfl)) (fun _ _ _ h=>h) (Or.inl ⟨by rfl,?_⟩) ?_ ?_
        rotate_left;(intro w';go_simp;with_reducible rfl);rotate_left;(simp only [Act.put,List.setIfInBounds_toArray,List.set_cons_zero,List.set_cons_succ,i64_w,i32_w];rfl)
        refine pure_ (i:=2) (N:=some 39) (v:=?_) (a':=?_) #[true,false,true,false,false,false,false,false,false,false,false,false] rfl rfl (any_of HT_.out (by kernel_rfl)) (fun _ _ _ h=>h) (Or.inl ⟨by rfl,?_⟩) ?_ ?_
        rotate_left;(intro w';go_simp;with_reducible rfl);rotate_left;(simp only [Act.put,List.setIfInBounds_toArray,List.set_cons_zero,List.set_cons_succ,i64_w,i32_w];rfl)
        refine pure_ (i:=3) (N:=some 40) (v:=?_) (a':=?_) #[true,false,true,true,false,false,false,false,false,false,false,false] rfl rfl (any_of HT_.out (by kernel_rfl)) (fun _ _ _ h=>h) (Or.inl ⟨by rfl,?_⟩) ?_ ?_
        rotate_left;(intro w';go_simp;with_reducible rfl);rotate_left;(simp only [Act.put,List.setIfInBounds_toArray,List.set_cons_zero,List.set_cons_succ,i64_w,i32_w];rfl)
        refine take_ (i:=1) (N:=some 38) (v:=?_) (a':=?_) #[true,true,true,true,false,false,false,false,false,false,false,false] rfl rfl (take_ofW HT_.out HW_.out (by kernel_rfl)) (fun _ _ _ h=>h) (Or.inl ⟨by rfl,?_⟩) hHeld ?_ ?_
        rotate_left;(rintro w' ⟨s0,s1,s2,s3,s4,s5,s6,s7,s8,s9,s10,s11,s12⟩;go_simp;with_reducible rfl);rotate_left;(simp only [Act.put,List.setIfInBounds_toArray,List.set_cons_zero,List.set_cons_succ,i64_w,i32_w];rfl)
        refine take_ (i:=4) (N:=some 41) (v:=?_) (a':=?_) #[true,true,true,true,true,false,false,false,false,false,false,false] rfl rfl (take_ofW HT_.out HW_.out (by kernel_rfl)) (fun _ _ _ h=>h) (Or.inl ⟨by rfl,?_⟩) hHeld ?_ ?_
        rotate_left;(rintro w' ⟨s0,s1,s2,s3,s4,s5,s6,s7,s8,s9,s10,s11,s12⟩;go_simp;with_reducible rfl);rotate_left;(simp only [Act.put,List.setIfInBounds_toArray,List.set_cons_zero,List.set_cons_succ,i64_w,i32_w];rfl)
        refine pure_ (i:=5) (N:=some 42) (v:=?_) (a':=?_) #[true,true,true,true,true,true,false,false,false,false,false,false] rfl rfl (any_of HT_.out (by kernel_rfl)) (fun _ _ _ h=>h) (Or.inl ⟨by rfl,?_⟩) ?_ ?_
        rotate_left;(intro w';go_simp;with_reducible rfl);rotate_left;(simp only [Act.put,List.setIfInBounds_toArray,List.set_cons_zero,List.set_cons_succ,i64_w,i32_w];rfl)
        refine pure_ (i:=6) (N:=some 43) (v:=?_) (a':=?_) #[true,true,true,true,true,true,true,false,false,false,false,false] rfl rfl (any_of HT_.out (by kernel_rfl)) (fun _ _ _ h=>h) (Or.inl ⟨by rfl,?_⟩) ?_ ?_
        rotate_left;(intro w';go_simp;with_reducible rfl);rotate_left;(simp only [Act.put,List.setIfInBounds_toArray,List.set_cons_zero,List.set_cons_succ,i64_w,i32_w];rfl)
        refine pure_ (i:=7) (N:=some 44) (v:=?_) (a':=?_) #[true,true,true,true,true,true,true,true,false,false,false,false] rfl rfl (any_of HT_.out (by kernel_rfl)) (fun _ _ _ h=>h) (Or.inl ⟨by rfl,?_⟩) ?_ ?_
        rotate_left;(intro w';go_simp;with_reducible rfl);rotate_left;(simp only [Act.put,List.setIfInBounds_toArray,List.set_cons_zero,List.set_cons_succ,i64_w,i32_w];rfl)
        refine one_ (i:=8) (N:=some 45) #[true,true,true,true,true,true,true,true,true,false,false,false] rfl rfl (one_of HT_.out (by kernel_rfl)) (by decide) (fun K hK=>?_)
        refine value_ (w1:=?_) (v:=?_) (by rfl) rfl ?_ ?_
        rotate_left 2
        ·go_simp
         constructor
         ·rfl
         ·rfl
        refine hK.out _ _ ⟨(blk_cell (blk_alloc BK145.out _) 0).trans rfl,(blk_cell (blk_alloc BK145.out _) 1).trans rfl,(blk_cell (blk_alloc BK145.out _) 2).trans rfl,(blk_cell (blk_alloc BK145.out _) 3).trans rfl,(blk_cell (blk_alloc BK143.out _) 0).trans rfl,(blk_cell (blk_alloc BK143.out _) 1).trans rfl,(blk_cell (blk_alloc BK143.out _) 2).trans rfl,(blk_cell (blk_alloc BK143.out _) 3).trans rfl,(blk_cell (blk_alloc BK143.out _) 4).trans rfl,(blk_cell (blk_alloc BK143.out _) 5).trans rfl,(blk_cell (blk_alloc BK143.out _) 6).trans rfl,(blk_cell (blk_alloc BK143.out _) 7).trans rfl,(blk_cell (blk_alloc BK143.out _) x13_1.toNat).trans (cells_rd .u8 [a0_0,a0_1,a0_2,a0_3,a0_4,a0_5,a0_6,a0_7] x13_1 (of_decide_eq_true (by first|(with_reducible assumption)|assumption)) (of_decide_eq_true (by first|(with_reducible assumption)|assumption)))⟩ (fun hHeld=>?_)
        clear hK K
        refine norm_ (a':=?_) ?_ ?_
        rotate_left
        ·show Act.put _ (some 45) _=_
         simp only [Act.put,List.setIfInBounds_toArray,List.set_cons_zero,List.set_cons_succ,i64_w,i32_w]
         rfl
        refine one_ (i:=9) (N:=some 46) #[true,true,true,true,true,true,true,true,true,true,false,false] rfl rfl (one_of HT_.out (by kernel_rfl)) (by decide) (fun K hK=>?_)
        refine Kd.R_append_step (Kd.int .i64) (w0:=w) w.heap.size (by rfl) (.tmp 38) (.tmp 45) 28 3 (.int .i64 0) 8 rfl Try.underlying28 info3 rfl (by decide) (by omega) u146000 x146000_1 (wrap64 (1 + (Int.tmod (wrap64 (rd [a0_0,a0_1,a0_2,a0_3,a0_4,a0_5,a0_6,a0_7] x13_1)) 3))) [.int .i64 (wrap64 (1 + (Int.tmod (wrap64 (rd [a0_0,a0_1,a0_2,a0_3,a0_4,a0_5,a0_6,a0_7] x13_1)) 3)))] (fun _=>True) (fun _=>False) rfl rfl ?aP (fun _ hk=>hk.elim) ?aF ?aO ?aB ?aS ?aL ?_
        (case aP=>exact rfl)
        (case aB=>exact (below_go HB.out))
        (case aF=>exact (fun _ _=>trivial))
        (case aO=>exact (R_up HO_146000.out))
        (case aS=>exact (below_size (below_go HB.out)))
        (case aL=>have:=LMc18.out;omega)
        intro v147 w20 ho hb hg hat
        rw [← Ny146.out] at ho
        have n0_:=Aside0.mk (blk_grown (blk_up BK143.out) hg (Kd.R_ne HO_146000.out BK143.out (by decide)))
        have n1_:=Aside0.mk (blk_grown (blk_up BK144.out) hg (Kd.R_ne HO_146000.out BK144.out (by decide)))
        have n2_:=Aside0.mk (blk_grown (blk_up BK145.out) hg (Kd.R_ne HO_146000.out BK145.out (by decide)))
        have n3_:=Aside0.mk (hb)
        have n4_:=Aside0.mk (ho)
        clear BK143
        clear BK144
        clear BK145
        clear HB
        clear HO_146000
        have BK143:=n0_
        have BK144:=n1_
        have BK145:=n2_
        have HB:=n3_
        have HO148:=n4_
        clear n0_ n1_ n2_ n3_ n4_
        clear ho hb hg hat
        obtain ⟨Ao21,co21,eo21⟩:=Kd.R_slice HO148.out
        (first|subst eo21|(injection eo21 with f1_ f2_ f3_;have f4_:=f1_.symm;have f5_:=f3_.symm;clear f1_ f2_ f3_;subst f4_;subst f5_))
        refine hK.out _ _ ⟨(blk_cell BK145.out 0).trans rfl,(blk_cell BK145.out 1).trans rfl,(blk_cell BK145.out 2).trans rfl,(blk_cell BK145.out 3).trans rfl,(blk_cell BK143.out 0).trans rfl,(blk_cell BK143.out 1).trans rfl,(blk_cell BK143.out 2).trans rfl,(blk_cell BK143.out 3).trans rfl,(blk_cell BK143.out 4).trans rfl,(blk_cell BK143.out 5).trans rfl,(blk_cell BK143.out 6).trans rfl,(blk_cell BK143.out 7).trans rfl,(blk_cell BK143.out x13_1.toNat).trans (cells_rd .u8 [a0_0,a0_1,a0_2,a0_3,a0_4,a0_5,a0_6,a0_7] x13_1 (of_decide_eq_true (by first|(with_reducible assumption)|assumption)) (of_decide_eq_true (by first|(with_reducible assumption)|assumption)))⟩ (fun hHeld=>?_)
        clear hK K
        refine norm_ (a':=?_) ?_ ?_
        rotate_left
        ·show Act.put _ (some 46) _=_
         simp only [Act.put,List.setIfInBounds_toArray,List.set_cons_zero,List.set_cons_succ,i64_w,i32_w]
         rfl
        refine pure_ (i:=10) (N:=some 47) (v:=?_) (a':=?_) #[true,true,true,true,true,true,true,true,true,true,true,false] rfl rfl (any_of HT_.out (by kernel_rfl)) (fun _ _ _ h=>h) (Or.inl ⟨by rfl,?_⟩) ?_ ?_
        rotate_left;(intro w';go_simp;with_reducible rfl);rotate_left;(simp only [Act.put,List.setIfInBounds_toArray,List.set_cons_zero,List.set_cons_succ,i64_w,i32_w];rfl)
        refine last_ (i:=11) (N:=none) #[true,true,true,true,true,true,true,true,true,true,true,true] rfl rfl (one_of HT_.out (by kernel_rfl)) (by decide) (fun K hK=>?_)
        have hs22 : w20.cell? ⟨gb145,0,none⟩=some (u146000):=(blk_cell BK145.out 0).trans rfl
        have hfs22:=blk_frozen BK145.out 0
        have hns22_0:=NB143_145.out
        have hns22_1:=NB144_145.out
        have hms22_0:=NB145_143.out
        have hms22_1:=NB145_144.out
        refine skip_ (w1:=?_) (by rfl) rfl ?_ ?_
        rotate_left
        ·go_simp
         rfl
        refine hK.out _ _ ?_
        clear hK K
        refine done_ (done_of HT_.out (by kernel_rfl)) ?_
        (try clear hHeld)
        try go_wp2
        go_roundg k1
        case measure=>have:=HK1.out;omega
        case rel=>exact ⟨(wrap64 (x13_1 + 1)),(y146),(.slice Ao21 y146.length co21),(by first|rfl|(simp;done)|(simp [*];done)),(by first|exact H'|(subst_vars;exact H')),⟨by have:=HK1.out;omega⟩,⟨by (with_reducible repeat (first|apply Kd.R_alloc|apply Kd.R_drewN|apply Kd.R_drew));exact Kd.R_mono (Kd.R_far (p:=⟨gb145,0,none⟩) (Kd.R_types HO148.out BK145.out (by decide)) (fun _ hk=>hk.2) (.slice Ao21 y146.length co21)) (fun _ hk=>trivial)⟩,⟨by (with_reducible repeat (first|refine blk_drewN ?_ _|refine blk_drew ?_|refine blk_alloc ?_ _));refine blk_far ?_ NB143_145.out _;(with_reducible repeat (first|refine blk_drewN ?_ _|refine blk_drew ?_|refine blk_alloc ?_ _));exact BK143.out⟩,⟨by (with_reducible repeat (first|refine blk_drewN ?_ _|refine blk_drew ?_|refine blk_alloc ?_ _));refine blk_far ?_ NB144_145.out _;(with_reducible repeat (first|refine blk_drewN ?_ _|refine blk_drew ?_|refine blk_alloc ?_ _));exact BK144.out⟩,⟨by (with_reducible repeat (first|refine blk_drewN ?_ _|refine blk_drew ?_|refine blk_alloc ?_ _));refine blk_put (cs:=#[u146000,.int .i64 (wrap64 (1 + (Int.tmod (wrap64 (a2)) (wrap64 (1 + (Int.tmod (wrap64 (a1)) 8)))))),.int .i64 (wrap64 (1 + (Int.tmod (wrap64 (a3)) 3))),.int .i64 (wrap64 (1 + (Int.tmod (wrap64 (a4)) 8)))]) ?_ 0 _ rfl;(with_reducible repeat (first|refine blk_drewN ?_ _|refine blk_drew ?_|refine blk_alloc ?_ _));exact BK145.out⟩,⟨by repeat (first|(with_reducible first|exact HB.out|apply below_alloc|apply pw_below_drewN|apply below_drew1|refine below_set ?_ GE143.out|refine below_set ?_ GE144.out|refine below_set ?_ GE145.out)|exact HB.out)⟩⟩
       ·rw [if_neg c18] at H
        exact absurd H (by simp)
      ·rw [if_neg c15] at H
       exact absurd H (by simp)
     ·rw [if_neg c14] at H
      exact absurd H (by simp)
    ·rw [if_neg c13] at H
     have c13b0 : decide (x13_1 < (wrap64 (1 + (Int.tmod (wrap64 (a1)) 8))))=false:=decide_eq_false c13
     clear c13
     simp only [Option.some.injEq,Prod.mk.injEq] at H
     obtain ⟨rfl,rfl,rfl,rfl⟩:=H
     have hnb23:=NB145_143.out
     have hnc23:=NB143_145.out
     have hnb24:=NB145_144.out
     have hnc24:=NB144_145.out
     have hcz25_0 : wr.cell? ⟨gb145,0,none⟩=some (u146000):=(blk_cell BK145.out 0).trans rfl
     have hcz25_1 : wr.cell? ⟨gb145,1,none⟩=some (.int .i64 (wrap64 (1 + (Int.tmod (wrap64 (a2)) (wrap64 (1 + (Int.tmod (wrap64 (a1)) 8))))))):=(blk_cell BK145.out 1).trans rfl
     have hcz25_2 : wr.cell? ⟨gb145,2,none⟩=some (.int .i64 (wrap64 (1 + (Int.tmod (wrap64 (a3)) 3)))):=(blk_cell BK145.out 2).trans rfl
     have hcz25_3 : wr.cell? ⟨gb145,3,none⟩=some (.int .i64 (wrap64 (1 + (Int.tmod (wrap64 (a4)) 8)))):=(blk_cell BK145.out 3).trans rfl
     have hfz25_0:=blk_frozen BK145.out 0
     have hfz25_1:=blk_frozen BK145.out 1
     have hfz25_2:=blk_frozen BK145.out 2
     have hfz25_3:=blk_frozen BK145.out 3
     obtain ⟨Ao26,co26,eo26⟩:=Kd.R_slice HO_146000.out
     subst eo26
     have hnb27:=NB144_143.out
     have hnc27:=NB143_144.out
     have hcz28_0 : wr.cell? ⟨gb144,0,none⟩=some (.slice none 0 0):=(blk_cell BK144.out 0).trans rfl
     have hcz28_1 : wr.cell? ⟨gb144,1,none⟩=some (.int .i64 0):=(blk_cell BK144.out 1).trans rfl
     have hcz28_2 : wr.cell? ⟨gb144,2,none⟩=some (.int .i64 0):=(blk_cell BK144.out 2).trans rfl
     have hcz28_3 : wr.cell? ⟨gb144,3,none⟩=some (.int .i64 0):=(blk_cell BK144.out 3).trans rfl
     have hfz28_0:=blk_frozen BK144.out 0
     have hfz28_1:=blk_frozen BK144.out 1
     have hfz28_2:=blk_frozen BK144.out 2
     have hfz28_3:=blk_frozen BK144.out 3
     go_wp2
     refine bodyPost_ret (results_cell_row rfl _ _ gb144 30 #[.slice Ao26 x146000_1.length co26,.int .i64 (wrap64 (1 + (Int.tmod (wrap64 (a2)) (wrap64 (1 + (Int.tmod (wrap64 (a1)) 8)))))),.int .i64 (wrap64 (1 + (Int.tmod (wrap64 (a3)) 3))),.int .i64 (wrap64 (1 + (Int.tmod (wrap64 (a4)) 8)))] (0,0) _ rfl (by (with_reducible repeat (first|refine blk_drewN ?_ _|refine blk_drew ?_|refine blk_alloc ?_ _));refine blk_put (cs:=#[.slice Ao26 x146000_1.length co26,.int .i64 (wrap64 (1 + (Int.tmod (wrap64 (a2)) (wrap64 (1 + (Int.tmod (wrap64 (a1)) 8)))))),.int .i64 (wrap64 (1 + (Int.tmod (wrap64 (a3)) 3))),.int .i64 0]) ?_ 3 _ rfl;(with_reducible repeat (first|refine blk_drewN ?_ _|refine blk_drew ?_|refine blk_alloc ?_ _));refine blk_put (cs:=#[.slice Ao26 x146000_1.length co26,.int .i64 (wrap64 (1 + (Int.tmod (wrap64 (a2)) (wrap64 (1 + (Int.tmod (wrap64 (a1)) 8)))))),.int .i64 0,.int .i64 0]) ?_ 2 _ rfl;(with_reducible repeat (first|refine blk_drewN ?_ _|refine blk_drew ?_|refine blk_alloc ?_ _));refine blk_put (cs:=#[.slice Ao26 x146000_1.length co26,.int .i64 0,.int .i64 0,.int .i64 0]) ?_ 1 _ rfl;(with_reducible repeat (first|refine blk_drewN ?_ _|refine blk_drew ?_|refine blk_alloc ?_ _));refine blk_put (cs:=#[.slice none 0 0,.int .i64 0,.int .i64 0,.int .i64 0]) ?_ 0 _ rfl;(with_reducible repeat (first|refine blk_drewN ?_ _|refine blk_drew ?_|refine blk_alloc ?_ _));exact BK144.out) Try.underlying30 rfl (by kernel_rfl)) rfl ?_
     exact ⟨_,by first|rfl|(simp [errW_none,errW_some] <;> rfl)|(simp [*,errW_none,errW_some] <;> rfl),by (with_reducible repeat (first|apply Kd.R_alloc|apply Kd.R_drewN|apply Kd.R_drew));exact Kd.R_mono (Kd.R_far (p:=⟨gb144,3,none⟩) (Kd.R_far (p:=⟨gb144,2,none⟩) (Kd.R_far (p:=⟨gb144,1,none⟩) (Kd.R_far (p:=⟨gb144,0,none⟩) (Kd.R_types HO_146000.out BK144.out (by decide)) (fun _ hk=>hk.2) (.slice Ao26 x146000_1.length co26)) (fun _ hk=>hk.2) (.int .i64 (wrap64 (1 + (Int.tmod (wrap64 (a2)) (wrap64 (1 + (Int.tmod (wrap64 (a1)) 8)))))))) (fun _ hk=>hk.2) (.int .i64 (wrap64 (1 + (Int.tmod (wrap64 (a3)) 3))))) (fun _ hk=>hk.2) (.int .i64 (wrap64 (1 + (Int.tmod (wrap64 (a4)) 8))))) (fun _ hk=>trivial),by repeat (first|(with_reducible first|exact HB.out|apply below_alloc|apply pw_below_drewN|apply below_drew1|refine below_set ?_ GE143.out|refine below_set ?_ GE144.out|refine below_set ?_ GE145.out)|exact HB.out)⟩
def thresherlaw04_made.f (k : Nat) (a0_0 : Int) (a0_1 : Int) (a0_2 : Int) (a0_3 : Int) (a0_4 : Int) (a0_5 : Int) (a0_6 : Int) (a0_7 : Int) (a0_8 : Int) (a0_9 : Int) (a0_10 : Int) (a0_11 : Int) : Option (List Int × Int × Int × Int):=(thresherref04_Made.f k a0_0 a0_1 a0_2 a0_3 a0_4 a0_5 a0_6 a0_7 a0_8 a0_9 a0_10 a0_11).bind fun bt151=>(some (bt151.1,bt151.2.1,bt151.2.2.1,bt151.2.2.2))
theorem thresherlaw04_made.mono : ∀ a0 a1 a2 a3 a4 a5 a6 a7 a8 a9 a10 a11 k,LeO (thresherlaw04_made.f k a0 a1 a2 a3 a4 a5 a6 a7 a8 a9 a10 a11) (thresherlaw04_made.f (k + 1) a0 a1 a2 a3 a4 a5 a6 a7 a8 a9 a10 a11):=by
 intro a0 a1 a2 a3 a4 a5 a6 a7 a8 a9 a10 a11 k
 unfold thresherlaw04_made.f
 repeat' first
   | (with_reducible exact thresherref04_Made.mono _ _ _ _ _ _ _ _ _ _ _ _ _)
   | (with_reducible exact LeO.refl _)
   | (with_reducible exact LeO.none _)
   | (with_reducible refine LeO.ite ?_ ?_)
   | (with_reducible refine LeO.bind ?_ (fun _=>?_))
   | exact thresherref04_Made.mono _ _ _ _ _ _ _ _ _ _ _ _ _
   | exact LeO.none _
   | refine LeO.ite ?_ ?_
   | refine LeO.bind ?_ (fun _=>?_)
set_option maxHeartbeats 8000000 in
set_option maxRecDepth 100000 in
theorem thresherlaw04_made.calls (k : Nat) (a0_0 : Int) (a0_1 : Int) (a0_2 : Int) (a0_3 : Int) (a0_4 : Int) (a0_5 : Int) (a0_6 : Int) (a0_7 : Int) (a0_8 : Int) (a0_9 : Int) (a0_10 : Int) (a0_11 : Int) (r1 : List Int) (r2 : Int) (r3 : Int) (r4 : Int) (w : World) (h : thresherlaw04_made.f k a0_0 a0_1 a0_2 a0_3 a0_4 a0_5 a0_6 a0_7 a0_8 a0_9 a0_10 a0_11=some (r1,r2,r3,r4)) :
  Calls Try.prog 10 #[.agg #[.int .u8 a0_0,.int .u8 a0_1,.int .u8 a0_2,.int .u8 a0_3,.int .u8 a0_4,.int .u8 a0_5,.int .u8 a0_6,.int .u8 a0_7,.int .u8 a0_8,.int .u8 a0_9,.int .u8 a0_10,.int .u8 a0_11]] w fun e w'=>∃ v0_ : Value,e=.returned (.agg #[v0_,.int .i64 r2,.int .i64 r3,.int .i64 r4])∧Kd.R (Kd.int .i64) 3 w' w.heap.size (fun _=>True) v0_ r1∧Below w.heap.size w w':=by
 have hu24:=Try.underlying24
 have hu30:=Try.underlying30
 have hu22:=Try.underlying22
 have HB:=Aside0.mk (Below.refl w.heap.size w)
 have H : ((thresherref04_Made.f k a0_0 a0_1 a0_2 a0_3 a0_4 a0_5 a0_6 a0_7 a0_8 a0_9 a0_10 a0_11).bind fun bt151=>(some (bt151.1,bt151.2.1,bt151.2.2.1,bt151.2.2.2)))=some (r1,r2,r3,r4):=h
 clear h
 replace H:=Option.bind_eq_some_iff.mp H
 obtain ⟨⟨t151,t154,t155,t156⟩,A20,H⟩:=H
 replace H : (some (t151,t154,t155,t156))=some (r1,r2,r3,r4):=H
 have A2:=Aside0.mk A20
 clear A20
 simp only [Option.some.injEq,Prod.mk.injEq] at H
 obtain ⟨rfl,rfl,rfl,rfl⟩:=H
 go_enter Try.func10,Try.ntmps10
 go_wp2_with (first|((with_reducible refine gate_dst (N:=1) rfl ?_);refine box_event ?hg (N:=1) ?hd (cs:=#[.int .u8 a0_0,.int .u8 a0_1,.int .u8 a0_2,.int .u8 a0_3,.int .u8 a0_4,.int .u8 a0_5,.int .u8 a0_6,.int .u8 a0_7,.int .u8 a0_8,.int .u8 a0_9,.int .u8 a0_10,.int .u8 a0_11]) (t:=24) ?hr ?_;(case hd=>rfl);(case hg=>rfl);(case hr=>first|(go_simp;done)|(go_simp;rfl));intro gb149 hg w3 hbox hb;have n0_:=Aside0.mk (below_step (below_up HB.out) hb);have n1_:=Aside0.mk (hbox);have n2_:=Aside0.mk ((by rw [hg];exact (below_size (below_up HB.out)) : w.heap.size≤gb149));have n3_:=Aside0.mk ((by rw [hg];exact (below_size (below_up HB.out)) : w.heap.size≤gb149));clear HB;have HB:=n0_;have BK149:=n1_;have GW149:=n2_;have GE149:=n3_;clear n0_ n1_ n2_ n3_;clear hb hbox hg)|((with_reducible refine gate_dst (N:=2) rfl ?_);refine box_event ?hg (N:=2) ?hd (cs:=#[.slice none 0 0,.int .i64 0,.int .i64 0,.int .i64 0]) (t:=30) ?hr ?_;(case hd=>rfl);(case hg=>rfl);(case hr=>first|(go_simp;done)|(go_simp;rfl));intro gb150 hg w4 hbox hb;have n0_:=Aside0.mk (blk_below (blk_up BK149.out) hb);have n1_:=Aside0.mk (below_step (below_go HB.out) hb);have n2_:=Aside0.mk (hbox);have n3_:=Aside0.mk ((by rw [hg];exact (below_size (below_go HB.out)) : w.heap.size≤gb150));have n4_:=Aside0.mk ((by rw [hg];exact (below_size (below_go HB.out)) : w.heap.size≤gb150));have n5_:=Aside0.mk ((by rw [hg];exact Nat.ne_of_lt (blk_lt (blk_up BK149.out)) : gb149≠gb150));have n6_:=Aside0.mk ((by rw [hg];exact Nat.ne_of_gt (blk_lt (blk_up BK149.out)) : gb150≠gb149));clear BK149;clear HB;have BK149:=n0_;have HB:=n1_;have BK150:=n2_;have GW150:=n3_;have GE150:=n4_;have NB149_150:=n5_;have NB150_149:=n6_;clear n0_ n1_ n2_ n3_ n4_ n5_ n6_;clear hb hbox hg;have hnb5:=NB149_150.out;have hnc5:=NB150_149.out;have hcz6_0 : w4.cell? ⟨gb149,0,none⟩=some (.int .u8 a0_0):=(blk_cell BK149.out 0).trans rfl;have hcz6_1 : w4.cell? ⟨gb149,1,none⟩=some (.int .u8 a0_1):=(blk_cell BK149.out 1).trans rfl;have hcz6_2 : w4.cell? ⟨gb149,2,none⟩=some (.int .u8 a0_2):=(blk_cell BK149.out 2).trans rfl;have hcz6_3 : w4.cell? ⟨gb149,3,none⟩=some (.int .u8 a0_3):=(blk_cell BK149.out 3).trans rfl;have hcz6_4 : w4.cell? ⟨gb149,4,none⟩=some (.int .u8 a0_4):=(blk_cell BK149.out 4).trans rfl;have hcz6_5 : w4.cell? ⟨gb149,5,none⟩=some (.int .u8 a0_5):=(blk_cell BK149.out 5).trans rfl;have hcz6_6 : w4.cell? ⟨gb149,6,none⟩=some (.int .u8 a0_6):=(blk_cell BK149.out 6).trans rfl;have hcz6_7 : w4.cell? ⟨gb149,7,none⟩=some (.int .u8 a0_7):=(blk_cell BK149.out 7).trans rfl;have hcz6_8 : w4.cell? ⟨gb149,8,none⟩=some (.int .u8 a0_8):=(blk_cell BK149.out 8).trans rfl;have hcz6_9 : w4.cell? ⟨gb149,9,none⟩=some (.int .u8 a0_9):=(blk_cell BK149.out 9).trans rfl;have hcz6_10 : w4.cell? ⟨gb149,10,none⟩=some (.int .u8 a0_10):=(blk_cell BK149.out 10).trans rfl;have hcz6_11 : w4.cell? ⟨gb149,11,none⟩=some (.int .u8 a0_11):=(blk_cell BK149.out 11).trans rfl;have hfz6_0:=blk_frozen BK149.out 0;have hfz6_1:=blk_frozen BK149.out 1;have hfz6_2:=blk_frozen BK149.out 2;have hfz6_3:=blk_frozen BK149.out 3;have hfz6_4:=blk_frozen BK149.out 4;have hfz6_5:=blk_frozen BK149.out 5;have hfz6_6:=blk_frozen BK149.out 6;have hfz6_7:=blk_frozen BK149.out 7;have hfz6_8:=blk_frozen BK149.out 8;have hfz6_9:=blk_frozen BK149.out 9;have hfz6_10:=blk_frozen BK149.out 10;have hfz6_11:=blk_frozen BK149.out 11)|((with_reducible refine gate_callee (f:=27) rfl ?_);refine goesL_ (some 13) rfl rfl Try.func27 (by kernel_rfl) rfl #[.agg #[.int .u8 a0_0,.int .u8 a0_1,.int .u8 a0_2,.int .u8 a0_3,.int .u8 a0_4,.int .u8 a0_5,.int .u8 a0_6,.int .u8 a0_7],.int .u8 a0_8,.int .u8 a0_9,.int .u8 a0_10,.int .u8 a0_11] rfl (by (try simp only [List.map_toArray,List.map_cons,List.map_nil]);first|done|rfl|(simp only [List.length_drop,List.length_take];rfl)) ?_;(with_reducible refine (thresherref04_Made.calls k a0_0 a0_1 a0_2 a0_3 a0_4 a0_5 a0_6 a0_7 a0_8 a0_9 a0_10 a0_11 t151 t154 t155 t156 _ A2.out).mono ?_);rintro e w7 ⟨v152,rfl,ho0,hb⟩;refine ⟨_,rfl,?_⟩;have n0_:=Aside0.mk (Kd.R_lower ho0 (below_size (below_go HB.out)));have n1_:=Aside0.mk (blk_below (blk_up BK149.out) hb);have n2_:=Aside0.mk (blk_below (blk_up BK150.out) hb);have n3_:=Aside0.mk (below_step (below_go HB.out) hb);clear BK149;clear BK150;clear HB;have HO153:=n0_;have BK149:=n1_;have BK150:=n2_;have HB:=n3_;clear n0_ n1_ n2_ n3_;(try clear hb);(try clear hb2);(try clear hk);(try clear hi);(try clear ho0);obtain ⟨Ao8,co8,eo8⟩:=Kd.R_slice HO153.out;subst eo8;have hcz9_0 : w7.cell? ⟨gb150,0,none⟩=some (.slice none 0 0):=(blk_cell BK150.out 0).trans rfl;have hcz9_1 : w7.cell? ⟨gb150,1,none⟩=some (.int .i64 0):=(blk_cell BK150.out 1).trans rfl;have hcz9_2 : w7.cell? ⟨gb150,2,none⟩=some (.int .i64 0):=(blk_cell BK150.out 2).trans rfl;have hcz9_3 : w7.cell? ⟨gb150,3,none⟩=some (.int .i64 0):=(blk_cell BK150.out 3).trans rfl;have hfz9_0:=blk_frozen BK150.out 0;have hfz9_1:=blk_frozen BK150.out 1;have hfz9_2:=blk_frozen BK150.out 2;have hfz9_3:=blk_frozen BK150.out 3))
 refine bodyPost_ret (results_cell_row rfl _ _ gb150 30 #[.slice Ao8 t151.length co8,.int .i64 t154,.int .i64 t155,.int .i64 t156] (0,0) _ rfl (by (with_reducible repeat (first|refine blk_drewN ?_ _|refine blk_drew ?_|refine blk_alloc ?_ _));refine blk_put (cs:=#[.slice Ao8 t151.length co8,.int .i64 t154,.int .i64 t155,.int .i64 0]) ?_ 3 _ rfl;(with_reducible repeat (first|refine blk_drewN ?_ _|refine blk_drew ?_|refine blk_alloc ?_ _));refine blk_put (cs:=#[.slice Ao8 t151.length co8,.int .i64 t154,.int .i64 0,.int .i64 0]) ?_ 2 _ rfl;(with_reducible repeat (first|refine blk_drewN ?_ _|refine blk_drew ?_|refine blk_alloc ?_ _));refine blk_put (cs:=#[.slice Ao8 t151.length co8,.int .i64 0,.int .i64 0,.int .i64 0]) ?_ 1 _ rfl;(with_reducible repeat (first|refine blk_drewN ?_ _|refine blk_drew ?_|refine blk_alloc ?_ _));refine blk_put (cs:=#[.slice none 0 0,.int .i64 0,.int .i64 0,.int .i64 0]) ?_ 0 _ rfl;(with_reducible repeat (first|refine blk_drewN ?_ _|refine blk_drew ?_|refine blk_alloc ?_ _));exact BK150.out) Try.underlying30 rfl (by kernel_rfl)) rfl ?_
 exact ⟨_,by first|rfl|(simp [errW_none,errW_some] <;> rfl)|(simp [*,errW_none,errW_some] <;> rfl),by (with_reducible repeat (first|apply Kd.R_alloc|apply Kd.R_drewN|apply Kd.R_drew));exact Kd.R_mono (Kd.R_far (p:=⟨gb150,3,none⟩) (Kd.R_far (p:=⟨gb150,2,none⟩) (Kd.R_far (p:=⟨gb150,1,none⟩) (Kd.R_far (p:=⟨gb150,0,none⟩) (Kd.R_types HO153.out BK150.out (by decide)) (fun _ hk=>hk.2) (.slice Ao8 t151.length co8)) (fun _ hk=>hk.2) (.int .i64 t154)) (fun _ hk=>hk.2) (.int .i64 t155)) (fun _ hk=>hk.2) (.int .i64 t156)) (fun _ hk=>trivial),by repeat (first|(with_reducible first|exact HB.out|apply below_alloc|apply pw_below_drewN|apply below_drew1|refine below_set ?_ GE149.out|refine below_set ?_ GE150.out)|exact HB.out)⟩
mutual
def thresherref04_Fit.l0 : Nat→List (S34)→List (S34)→Int→List Int→Int→Int→Int→Option ((List (S34)))
 | 0,_,_,_,_,_,_,_=>none
 | k + 1,x1,x5,x6,x158000,x158001,x158002,x158003=>if x6 < (x158000.length : Int) then (if x6 < (x1.length : Int) then (if 0≤x6 then (thresherref04_Fit.j1 k x1 x5 x6 x158000 x158001 x158002 x158003 ((rd_T34 x1 x6).f0) ((rd_T34 x1 x6).f1)) else (none)) else (thresherref04_Fit.j1 k x1 x5 x6 x158000 x158001 x158002 x158003 0 (⟨#[]⟩ : ByteArray))) else (some x5)
def thresherref04_Fit.j1 : Nat→List (S34)→List (S34)→Int→List Int→Int→Int→Int→Int→ByteArray→Option ((List (S34)))
 | 0,_,_,_,_,_,_,_,_,_=>none
 | k + 1,x1,x5,x6,x158000,x158001,x158002,x158003,x162000,x162001=>if 0≤x6 then (if x6 < (x158000.length : Int) then (if (rd x158000 x6)=3 then (if (x162001.size : Int) > 60 then (if 0≤60 then (if 60≤(x162001.size : Int) then (if x5.length < 5864062014805 then (thresherref04_Fit.l0 k x1 (x5 ++ [(⟨0,x162001.extract 0 60⟩ : S34)]) (wrap64 (x6 + 1)) x158000 x158001 x158002 x158003) else (none)) else (none)) else (none)) else (if x5.length < 5864062014805 then (thresherref04_Fit.l0 k x1 (x5 ++ [(⟨0,x162001⟩ : S34)]) (wrap64 (x6 + 1)) x158000 x158001 x158002 x158003) else (none))) else (if x5.length < 5864062014805 then (thresherref04_Fit.l0 k x1 (x5 ++ [(⟨x162000,(⟨#[]⟩ : ByteArray)⟩ : S34)]) (wrap64 (x6 + 1)) x158000 x158001 x158002 x158003) else (none))) else (none)) else (none)
end
def thresherref04_Fit.f (k : Nat) (l0_0 : List Int) (a0_1 : Int) (a0_2 : Int) (a0_3 : Int) (l1 : List (S34)) : Option ((List (S34))):=thresherref04_Fit.l0 k l1 (([] : List (S34))) 0 l0_0 a0_1 a0_2 a0_3
theorem thresherref04_Fit.mono_l : ∀ k,(∀ y0 y1 y2 y3 y4 y5 y6,LeO (thresherref04_Fit.l0 k y0 y1 y2 y3 y4 y5 y6) (thresherref04_Fit.l0 (k + 1) y0 y1 y2 y3 y4 y5 y6))∧(∀ y0 y1 y2 y3 y4 y5 y6 y7 y8,LeO (thresherref04_Fit.j1 k y0 y1 y2 y3 y4 y5 y6 y7 y8) (thresherref04_Fit.j1 (k + 1) y0 y1 y2 y3 y4 y5 y6 y7 y8))
 | 0=>⟨fun _ _ _ _ _ _ _ r h=>by simp [thresherref04_Fit.l0] at h,fun _ _ _ _ _ _ _ _ _ r h=>by simp [thresherref04_Fit.j1] at h⟩
 | k + 1=>by
  obtain ⟨ih0,ih1⟩:=thresherref04_Fit.mono_l k
  refine ⟨?_,?_⟩
  ·intro y0 y1 y2 y3 y4 y5 y6
   unfold thresherref04_Fit.l0
   repeat' first
   | (with_reducible exact ih0 _ _ _ _ _ _ _)
   | (with_reducible exact ih1 _ _ _ _ _ _ _ _ _)
   | (with_reducible exact LeO.refl _)
   | (with_reducible exact LeO.none _)
   | (with_reducible refine LeO.ite ?_ ?_)
   | (with_reducible refine LeO.bind ?_ (fun _=>?_))
   | exact ih0 _ _ _ _ _ _ _
   | exact ih1 _ _ _ _ _ _ _ _ _
   | exact LeO.none _
   | refine LeO.ite ?_ ?_
   | refine LeO.bind ?_ (fun _=>?_)
  ·intro y0 y1 y2 y3 y4 y5 y6 y7 y8
   unfold thresherref04_Fit.j1
   repeat' first
   | (with_reducible exact ih0 _ _ _ _ _ _ _)
   | (with_reducible exact ih1 _ _ _ _ _ _ _ _ _)
   | (with_reducible exact LeO.refl _)
   | (with_reducible exact LeO.none _)
   | (with_reducible refine LeO.ite ?_ ?_)
   | (with_reducible refine LeO.bind ?_ (fun _=>?_))
   | exact ih0 _ _ _ _ _ _ _
   | exact ih1 _ _ _ _ _ _ _ _ _
   | exact LeO.none _
   | refine LeO.ite ?_ ?_
   | refine LeO.bind ?_ (fun _=>?_)
theorem thresherref04_Fit.mono : ∀ a0 a1 a2 a3 a4 k,LeO (thresherref04_Fit.f k a0 a1 a2 a3 a4) (thresherref04_Fit.f (k + 1) a0 a1 a2 a3 a4):=by
 intro a0 a1 a2 a3 a4 k
 obtain ⟨ih0,ih1⟩:=thresherref04_Fit.mono_l k
 unfold thresherref04_Fit.f
 repeat' first
   | (with_reducible exact ih0 _ _ _ _ _ _ _)
   | (with_reducible exact ih1 _ _ _ _ _ _ _ _ _)
   | (with_reducible exact LeO.refl _)
   | (with_reducible exact LeO.none _)
   | (with_reducible refine LeO.ite ?_ ?_)
   | (with_reducible refine LeO.bind ?_ (fun _=>?_))
   | exact ih0 _ _ _ _ _ _ _
   | exact ih1 _ _ _ _ _ _ _ _ _
   | exact LeO.none _
   | refine LeO.ite ?_ ?_
   | refine LeO.bind ?_ (fun _=>?_)
set_option maxHeartbeats 8000000 in
set_option maxRecDepth 100000 in
theorem thresherref04_Fit.calls (k : Nat) (A0_0 : Option Addr) (c0_0 : Nat) (l0_0 : List Int) (a0_1 : Int) (a0_2 : Int) (a0_3 : Int) (A1 : Option Addr) (c1 : Nat) (l1 : List (S34)) (r : List (S34)) (w : World) (hr0_0 : Kd.C (Kd.int .i64) w A0_0 l0_0.length l0_0) (hc0_0 : l0_0.length≤c0_0) (hr1 : Kd.C k34 w A1 l1.length l1) (hc1 : l1.length≤c1) (h : thresherref04_Fit.f k l0_0 a0_1 a0_2 a0_3 l1=some r) :
  Calls Try.prog 11 #[.agg #[.slice A0_0 l0_0.length c0_0,.int .i64 a0_1,.int .i64 a0_2,.int .i64 a0_3],.slice A1 l1.length c1] w fun e w'=>∃ v0_ : Value,e=.returned (v0_)∧Kd.R k34 34 w' w.heap.size (fun _=>True) v0_ r∧Below w.heap.size w w':=by
 have hu30:=Try.underlying30
 have hu34:=Try.underlying34
 have HR0_0:=Aside0.mk hr0_0
 have HC0_0:=Aside0.mk hc0_0
 clear hr0_0 hc0_0
 have HR1:=Aside0.mk hr1
 have HC1:=Aside0.mk hc1
 clear hr1 hc1
 have HB:=Aside0.mk (Below.refl w.heap.size w)
 have H : (thresherref04_Fit.l0 k l1 (([] : List (S34))) 0 l0_0 a0_1 a0_2 a0_3)=some r:=h
 clear h
 obtain ⟨y158,hy158⟩ : ∃ y_ : List (S34),y_=(([] : List (S34))):=⟨_,rfl⟩
 replace H : (thresherref04_Fit.l0 k l1 y158 0 l0_0 a0_1 a0_2 a0_3)=some r:=by first|(rw [hy158];with_reducible exact H)|(have H2_:=(Option.bind_some _ _).symm.trans H;rw [hy158];with_reducible exact H2_)|(have H2_:=(Option.bind_some _ _).symm.trans H;with_reducible exact H2_)|with_reducible exact H|(rw [hy158];exact H)|exact H
 have Ny158:=Aside0.mk hy158
 clear hy158
 have H':=Aside0.mk H
 clear H
 go_enter Try.func11,Try.ntmps11
 go_wp2_with (first|((with_reducible refine gate_dst (N:=2) rfl ?_);refine box_event ?hg (N:=2) ?hd (cs:=#[.slice A0_0 l0_0.length c0_0,.int .i64 a0_1,.int .i64 a0_2,.int .i64 a0_3]) (t:=30) ?hr ?_;(case hd=>rfl);(case hg=>rfl);(case hr=>first|(go_simp;done)|(go_simp;rfl));intro gb157 hg w3 hbox hb;have n0_:=Aside0.mk (below_step (below_up HB.out) hb);have n1_:=Aside0.mk (hbox);have n2_:=Aside0.mk ((by rw [hg];exact (below_size (below_up HB.out)) : w.heap.size≤gb157));have n3_:=Aside0.mk ((by rw [hg];exact (below_size (below_up HB.out)) : w.heap.size≤gb157));clear HB;have HB:=n0_;have BK157:=n1_;have GW157:=n2_;have GE157:=n3_;clear n0_ n1_ n2_ n3_;clear hb hbox hg)|((with_reducible refine gate_dst (N:=9) rfl ?_);refine Kd.R_lit k34 _ 34 ?hg (N:=9) ?hd (xs:=([] : List (S34))) (inner:=[]) (ok:=fun _=>True) (okp:=fun _=>True) ?hr ?hp (fun _ hk=>hk) trivial (Below.refl _ _) (Nat.le_refl _) (by simp) ?_;(case hd=>rfl);(case hg=>rfl);(case hr=>first|(go_simp;done)|(go_simp;rfl));(case hp=>exact (Reps.none _ _));intro v159 w4 ho5 hb hg_ hnew_;clear hg_ hnew_;(first|rw [← Ny158.out] at ho5|(simp only [Int.reduceToNat] at ho5;rw [← Ny158.out] at ho5));have n0_:=Aside0.mk (Kd.R_lower ho5 (below_size (below_go HB.out)));have n1_:=Aside0.mk (blk_below (blk_up BK157.out) hb);have n2_:=Aside0.mk (below_step (below_go HB.out) hb);clear BK157;clear HB;have HO160:=n0_;have BK157:=n1_;have HB:=n2_;clear n0_ n1_ n2_;clear hb ho5))
 go_loopg [5,6] k (fun kq v5 v6 w'=>∃ (x5_1 : List (S34)) (x6_1 : Int),v6=.int .i64 x6_1∧Aside0 (thresherref04_Fit.l0 kq l1 x5_1 x6_1 l0_0 a0_1 a0_2 a0_3=some r)∧Aside0 (kq≤k)∧Aside0 (Kd.R k34 34 w' w.heap.size (fun _=>True) v5 x5_1)∧Aside0 (w'.heap[gb157]?=some (.cells #[(.slice A0_0 l0_0.length c0_0),.int .i64 a0_1,.int .i64 a0_2,.int .i64 a0_3] 30 (0,0)))∧Aside0 (Below w.heap.size w w'))
 case atStart=>exact ⟨(y158),(0),(by first|rfl|(simp;done)|(simp [*];done)),H',⟨Nat.le_refl _⟩,⟨by (with_reducible repeat (first|apply Kd.R_alloc|apply Kd.R_drewN|apply Kd.R_drew));exact HO160.out⟩,⟨by (with_reducible repeat (first|refine blk_drewN ?_ _|refine blk_drew ?_|refine blk_alloc ?_ _));exact BK157.out⟩,⟨by repeat (first|(with_reducible first|exact HB.out|apply below_alloc|apply pw_below_drewN|apply below_drew1|refine below_set ?_ GE157.out)|exact HB.out)⟩⟩
 case round =>
  clear H'
  try clear c1
  try clear p2
  obtain ⟨x5_1,x6_1,rfl,HA,HK1,HO_5,BK157,HB⟩:=hrel
  cases gk with
  | zero=>exact absurd HA.out (by simp [thresherref04_Fit.l0])
  | succ k1 =>
   have H:=HA.out
   clear HA
   simp only [thresherref04_Fit.l0] at H
   by_cases c6 : x6_1 < (l0_0.length : Int)
   ·rw [if_pos c6] at H
    have c6b0 : decide (x6_1 < (l0_0.length : Int))=true:=decide_eq_true c6
    clear c6
    have HC7:=Aside0.mk H
    clear H
    have hcz8_0 : wr.cell? ⟨gb157,0,none⟩=some (.slice A0_0 l0_0.length c0_0):=(blk_cell BK157.out 0).trans rfl
    have hcz8_1 : wr.cell? ⟨gb157,1,none⟩=some (.int .i64 a0_1):=(blk_cell BK157.out 1).trans rfl
    have hcz8_2 : wr.cell? ⟨gb157,2,none⟩=some (.int .i64 a0_2):=(blk_cell BK157.out 2).trans rfl
    have hcz8_3 : wr.cell? ⟨gb157,3,none⟩=some (.int .i64 a0_3):=(blk_cell BK157.out 3).trans rfl
    have hfz8_0:=blk_frozen BK157.out 0
    have hfz8_1:=blk_frozen BK157.out 1
    have hfz8_2:=blk_frozen BK157.out 2
    have hfz8_3:=blk_frozen BK157.out 3
    go_upto_if 21 with (first|((with_reducible refine gate_dst (N:=7) rfl ?_);refine box_event ?hg (N:=7) ?hd (cs:=#[.int .i64 0,.string (⟨#[]⟩ : ByteArray)]) (t:=34) ?hr ?_;(case hd=>rfl);(case hg=>rfl);(case hr=>first|(go_simp;done)|(go_simp;rfl));intro gb161 hg w9 hbox hb;have n0_:=Aside0.mk (Kd.R_below (Kd.R_elderB (R_up HO_5.out) gb161 (Nat.le_of_eq hg.symm)) hb);have n1_:=Aside0.mk (blk_below (blk_up BK157.out) hb);have n2_:=Aside0.mk (below_step (below_go HB.out) hb);have n3_:=Aside0.mk (hbox);have n4_:=Aside0.mk ((by rw [hg];exact (below_size (below_go HB.out)) : w.heap.size≤gb161));have n5_:=Aside0.mk ((by rw [hg];exact (below_size (below_go HB.out)) : w.heap.size≤gb161));have n6_:=Aside0.mk ((by rw [hg];exact Nat.ne_of_lt (blk_lt (blk_up BK157.out)) : gb157≠gb161));have n7_:=Aside0.mk ((by rw [hg];exact Nat.ne_of_gt (blk_lt (blk_up BK157.out)) : gb161≠gb157));clear HO_5;clear BK157;clear HB;have HO_5:=n0_;have BK157:=n1_;have HB:=n2_;have BK161:=n3_;have GW161:=n4_;have GE161:=n5_;have NB157_161:=n6_;have NB161_157:=n7_;clear n0_ n1_ n2_ n3_ n4_ n5_ n6_ n7_;clear hb hbox hg;have hnb10:=NB161_157.out;have hnc10:=NB157_161.out;have hcz11_0 : w9.cell? ⟨gb161,0,none⟩=some (.int .i64 0):=(blk_cell BK161.out 0).trans rfl;have hcz11_1 : w9.cell? ⟨gb161,1,none⟩=some (.string (⟨#[]⟩ : ByteArray)):=(blk_cell BK161.out 1).trans rfl;have hfz11_0:=blk_frozen BK161.out 0;have hfz11_1:=blk_frozen BK161.out 1))
    (try simp only [Act.put,List.setIfInBounds_toArray,List.set_cons_zero,List.set_cons_succ])
    go_cut [] (fun wc=>∃ (kq : Nat) (x162000_6 : Int) (x162001_6 : ByteArray),Aside0 (thresherref04_Fit.j1 kq l1 x5_1 x6_1 l0_0 a0_1 a0_2 a0_3 x162000_6 x162001_6=some r)∧Aside0 (kq≤k1)∧Aside0 (Kd.R k34 34 wc w.heap.size (fun k_=>k_≠gb161) u5 x5_1)∧Aside0 (wc.heap[gb157]?=some (.cells #[(.slice A0_0 l0_0.length c0_0),.int .i64 a0_1,.int .i64 a0_2,.int .i64 a0_3] 30 (0,0)))∧Aside0 (wc.heap[gb161]?=some (.cells #[.int .i64 x162000_6,.string x162001_6] 34 (0,0)))∧Aside0 (Below w.heap.size w wc))
    case first =>
     have H:=HC7.out
     clear HC7
     by_cases c12 : x6_1 < (l1.length : Int)
     ·rw [if_pos c12] at H
      have c12b0 : decide (x6_1 < (l1.length : Int))=true:=decide_eq_true c12
      clear c12
      (first|rw [c12b0]|(simp only [i64_w,i32_w];rw [c12b0])|skip)
      by_cases c13 : 0≤x6_1
      ·rw [if_pos c13] at H
       have c13b0 : decide (0≤x6_1)=true:=decide_eq_true c13
       clear c13
       have H':=Aside0.mk H
       clear H
       have p162 : 0≤(x6_1 : Int):=of_decide_eq_true (by first|(with_reducible assumption)|assumption)
       have q162 : x6_1 < (l1.length : Int):=of_decide_eq_true (by first|(with_reducible assumption)|assumption)
       obtain ⟨ad162,e162,hx162_0,hx162_1⟩:=at_T34 HR1.out x6_1 p162 q162
       cases e162
       have hn162_0 : ad162.block≠gb161:=Nat.ne_of_lt (Nat.lt_of_lt_of_le (by have:=World.block_lt_of_cell? _ _ hx162_0;first|rwa [add_block] at this|exact this) GW161.out)
       have hn162_1 : ad162.block≠gb161:=Nat.ne_of_lt (Nat.lt_of_lt_of_le (by have:=World.block_lt_of_cell? _ _ hx162_0;first|rwa [add_block] at this|exact this) GW161.out)
       replace hx162_0:=(HB.out.cell (World.block_lt_of_cell? w _ hx162_0)).trans hx162_0
       replace hx162_1:=(HB.out.cell (World.block_lt_of_cell? w _ hx162_1)).trans hx162_1
       replace hx162_0:=(cell_far (p:=⟨gb161,0,none⟩) (by first|(rw [add_block];exact hn162_0)|(show (Addr.add _ _).block≠_;rw [add_block];exact hn162_0)|exact hn162_0) (.int .i64 0)).trans hx162_0
       replace hx162_1:=(cell_far (p:=⟨gb161,0,none⟩) (by first|(rw [add_block];exact hn162_0)|(show (Addr.add _ _).block≠_;rw [add_block];exact hn162_0)|exact hn162_0) (.int .i64 0)).trans hx162_1
       replace hx162_0:=(cell_far (p:=⟨gb161,1,none⟩) (by first|(rw [add_block];exact hn162_1)|(show (Addr.add _ _).block≠_;rw [add_block];exact hn162_1)|exact hn162_1) (.string (⟨#[]⟩ : ByteArray))).trans hx162_0
       replace hx162_1:=(cell_far (p:=⟨gb161,1,none⟩) (by first|(rw [add_block];exact hn162_1)|(show (Addr.add _ _).block≠_;rw [add_block];exact hn162_1)|exact hn162_1) (.string (⟨#[]⟩ : ByteArray))).trans hx162_1
       clear hn162_0
       clear hn162_1
       replace p162:=eq_true p162
       replace q162:=eq_true q162
       have hnb14:=NB161_157.out
       have hnc14:=NB157_161.out
       have hcz15_0 : w9.cell? ⟨gb161,0,none⟩=some (.int .i64 0):=(blk_cell BK161.out 0).trans rfl
       have hcz15_1 : w9.cell? ⟨gb161,1,none⟩=some (.string (⟨#[]⟩ : ByteArray)):=(blk_cell BK161.out 1).trans rfl
       have hfz15_0:=blk_frozen BK161.out 0
       have hfz15_1:=blk_frozen BK161.out 1
       go_wp2
       go_meet
       case rel=>exact ⟨_,((rd_T34 l1 x6_1).f0),((rd_T34 l1 x6_1).f1),(by first|exact H'|(subst_vars;exact H')),⟨by have:=HK1.out;first|omega|exact Nat.le_refl _⟩,⟨by (with_reducible repeat (first|apply Kd.R_alloc|apply Kd.R_drewN|apply Kd.R_drew));exact Kd.R_mono (Kd.R_far (p:=⟨gb161,1,none⟩) (Kd.R_far (p:=⟨gb161,0,none⟩) (Kd.R_far (p:=⟨gb161,1,none⟩) (Kd.R_far (p:=⟨gb161,0,none⟩) (Kd.R_mono HO_5.out (fun k_ hk=>(⟨hk,hk.2⟩ : _∧k_≠gb161))) (fun _ hk=>hk.2) (.int .i64 0)) (fun _ hk=>hk.2) (.string (⟨#[]⟩ : ByteArray))) (fun _ hk=>hk.2) (.int .i64 ((rd_T34 l1 x6_1).f0))) (fun _ hk=>hk.2) (.string ((rd_T34 l1 x6_1).f1))) (fun _ hk=>hk.1.2)⟩,⟨by (with_reducible repeat (first|refine blk_drewN ?_ _|refine blk_drew ?_|refine blk_alloc ?_ _));refine blk_far ?_ NB157_161.out _;(with_reducible repeat (first|refine blk_drewN ?_ _|refine blk_drew ?_|refine blk_alloc ?_ _));refine blk_far ?_ NB157_161.out _;(with_reducible repeat (first|refine blk_drewN ?_ _|refine blk_drew ?_|refine blk_alloc ?_ _));refine blk_far ?_ NB157_161.out _;(with_reducible repeat (first|refine blk_drewN ?_ _|refine blk_drew ?_|refine blk_alloc ?_ _));refine blk_far ?_ NB157_161.out _;(with_reducible repeat (first|refine blk_drewN ?_ _|refine blk_drew ?_|refine blk_alloc ?_ _));exact BK157.out⟩,⟨by (with_reducible repeat (first|refine blk_drewN ?_ _|refine blk_drew ?_|refine blk_alloc ?_ _));refine blk_put (cs:=#[.int .i64 ((rd_T34 l1 x6_1).f0),.string (⟨#[]⟩ : ByteArray)]) ?_ 1 _ rfl;(with_reducible repeat (first|refine blk_drewN ?_ _|refine blk_drew ?_|refine blk_alloc ?_ _));refine blk_put (cs:=#[.int .i64 0,.string (⟨#[]⟩ : ByteArray)]) ?_ 0 _ rfl;(with_reducible repeat (first|refine blk_drewN ?_ _|refine blk_drew ?_|refine blk_alloc ?_ _));refine blk_put (cs:=#[.int .i64 0,.string (⟨#[]⟩ : ByteArray)]) ?_ 1 _ rfl;(with_reducible repeat (first|refine blk_drewN ?_ _|refine blk_drew ?_|refine blk_alloc ?_ _));refine blk_put (cs:=#[.int .i64 0,.string (⟨#[]⟩ : ByteArray)]) ?_ 0 _ rfl;(with_reducible repeat (first|refine blk_drewN ?_ _|refine blk_drew ?_|refine blk_alloc ?_ _));exact BK161.out⟩,⟨by repeat (first|(with_reducible first|exact HB.out|apply below_alloc|apply pw_below_drewN|apply below_drew1|refine below_set ?_ GE157.out|refine below_set ?_ GE161.out)|exact HB.out)⟩⟩
      ·rw [if_neg c13] at H
       exact absurd H (by simp)
     ·rw [if_neg c12] at H
      have c12b0 : decide (x6_1 < (l1.length : Int))=false:=decide_eq_false c12
      clear c12
      (first|rw [c12b0]|(simp only [i64_w,i32_w];rw [c12b0])|skip)
      have H':=Aside0.mk H
      clear H
      go_wp2
      go_meet
      case rel=>exact ⟨_,(0),((⟨#[]⟩ : ByteArray)),(by first|exact H'|(subst_vars;exact H')),⟨by have:=HK1.out;first|omega|exact Nat.le_refl _⟩,⟨by (with_reducible repeat (first|apply Kd.R_alloc|apply Kd.R_drewN|apply Kd.R_drew));exact Kd.R_mono (Kd.R_far (p:=⟨gb161,1,none⟩) (Kd.R_far (p:=⟨gb161,0,none⟩) (Kd.R_mono HO_5.out (fun k_ hk=>(⟨hk,hk.2⟩ : _∧k_≠gb161))) (fun _ hk=>hk.2) (.int .i64 0)) (fun _ hk=>hk.2) (.string (⟨#[]⟩ : ByteArray))) (fun _ hk=>hk.1.2)⟩,⟨by (with_reducible repeat (first|refine blk_drewN ?_ _|refine blk_drew ?_|refine blk_alloc ?_ _));refine blk_far ?_ NB157_161.out _;(with_reducible repeat (first|refine blk_drewN ?_ _|refine blk_drew ?_|refine blk_alloc ?_ _));refine blk_far ?_ NB157_161.out _;(with_reducible repeat (first|refine blk_drewN ?_ _|refine blk_drew ?_|refine blk_alloc ?_ _));exact BK157.out⟩,⟨by (with_reducible repeat (first|refine blk_drewN ?_ _|refine blk_drew ?_|refine blk_alloc ?_ _));refine blk_put (cs:=#[.int .i64 0,.string (⟨#[]⟩ : ByteArray)]) ?_ 1 _ rfl;(with_reducible repeat (first|refine blk_drewN ?_ _|refine blk_drew ?_|refine blk_alloc ?_ _));refine blk_put (cs:=#[.int .i64 0,.string (⟨#[]⟩ : ByteArray)]) ?_ 0 _ rfl;(with_reducible repeat (first|refine blk_drewN ?_ _|refine blk_drew ?_|refine blk_alloc ?_ _));exact BK161.out⟩,⟨by repeat (first|(with_reducible first|exact HB.out|apply below_alloc|apply pw_below_drewN|apply below_drew1|refine below_set ?_ GE157.out|refine below_set ?_ GE161.out)|exact HB.out)⟩⟩
    case rest =>
     clear HC7
     try clear c1
     try clear p1
     try clear q1
     try clear hx1
     try clear p2
     try clear c6
     try clear c6b0
     try clear c10
     try clear c11
     try clear c12
     try clear c12b0
     try clear c13
     try clear c13b0
     try clear c14
     try clear hcz11_0
     try clear hcz11_1
     try clear hcz15_0
     try clear hcz15_1
     try clear hcz8_0
     try clear hcz8_1
     try clear hcz8_2
     try clear hcz8_3
     try clear hfz11_0
     try clear hfz11_1
     try clear hfz15_0
     try clear hfz15_1
     try clear hfz8_0
     try clear hfz8_1
     try clear hfz8_2
     try clear hfz8_3
     try clear hx162_0
     try clear hx162_1
     try clear p162
     try clear p2
     try clear q162
     obtain ⟨kq,x162000_6,x162001_6,HA,HJ6,HO_5,BK157,BK161,HB⟩:=hcut
     cases kq with
     | zero=>exact absurd HA.out (by simp [thresherref04_Fit.j1])
     | succ kj6 =>
      have H:=HA.out
      clear HA
      simp only [thresherref04_Fit.j1] at H
      by_cases c16 : 0≤x6_1
      ·rw [if_pos c16] at H
       have c16b0 : decide (0≤x6_1)=true:=decide_eq_true c16
       clear c16
       by_cases c17 : x6_1 < (l0_0.length : Int)
       ·rw [if_pos c17] at H
        have c17b0 : decide (x6_1 < (l0_0.length : Int))=true:=decide_eq_true c17
        clear c17
        by_cases c18 : (rd l0_0 x6_1)=3
        ·rw [if_pos c18] at H
         have c18b0 : ((rd l0_0 x6_1) == 3)=true:=beq_iff_eq.mpr c18
         have c18b1 : ((rd l0_0 x6_1) != 3)=false:=bne_eq_false_iff_eq.mpr c18
         clear c18
         by_cases c19 : (x162001_6.size : Int) > 60
         ·rw [if_pos c19] at H
          have c19b0 : decide (60 < (x162001_6.size : Int))=true:=decide_eq_true c19
          have c19b1 : decide (60 < x162001_6.size)=true:=decide_eq_true (by omega)
          clear c19
          by_cases c20 : 0≤60
          ·rw [if_pos c20] at H
           have c20b0:=eq_true c20
           have c20b1 : decide (0≤60)=true:=decide_eq_true c20
           clear c20
           by_cases c21 : 60≤(x162001_6.size : Int)
           ·rw [if_pos c21] at H
            have c21b0:=eq_true c21
            have c21b1 : decide (60≤(x162001_6.size : Int))=true:=decide_eq_true c21
            clear c21
            by_cases c22 : x5_1.length < 5864062014805
            ·rw [if_pos c22] at H
             have LMc22:=Aside0.mk c22
             clear c22
             obtain ⟨y164,hy164⟩ : ∃ y_ : List (S34),y_=(x5_1 ++ [(⟨0,x162001_6.extract 0 60⟩ : S34)]):=⟨_,rfl⟩
             replace H : (thresherref04_Fit.l0 kj6 l1 y164 (wrap64 (x6_1 + 1)) l0_0 a0_1 a0_2 a0_3)=some r:=by first|(rw [hy164];with_reducible exact H)|(have H2_:=(Option.bind_some _ _).symm.trans H;rw [hy164];with_reducible exact H2_)|(have H2_:=(Option.bind_some _ _).symm.trans H;with_reducible exact H2_)|with_reducible exact H|(rw [hy164];exact H)|exact H
             have Ny164:=Aside0.mk hy164
             clear hy164
             have H':=Aside0.mk H
             clear H
             have hnb23:=NB157_161.out
             have hnc23:=NB161_157.out
             have hcz24_0 : wc.cell? ⟨gb157,0,none⟩=some (.slice A0_0 l0_0.length c0_0):=(blk_cell BK157.out 0).trans rfl
             have hcz24_1 : wc.cell? ⟨gb157,1,none⟩=some (.int .i64 a0_1):=(blk_cell BK157.out 1).trans rfl
             have hcz24_2 : wc.cell? ⟨gb157,2,none⟩=some (.int .i64 a0_2):=(blk_cell BK157.out 2).trans rfl
             have hcz24_3 : wc.cell? ⟨gb157,3,none⟩=some (.int .i64 a0_3):=(blk_cell BK157.out 3).trans rfl
             have hfz24_0:=blk_frozen BK157.out 0
             have hfz24_1:=blk_frozen BK157.out 1
             have hfz24_2:=blk_frozen BK157.out 2
             have hfz24_3:=blk_frozen BK157.out 3
             have p163 : 0≤(x6_1 : Int):=of_decide_eq_true (by first|(with_reducible assumption)|assumption)
             have q163 : x6_1 < (l0_0.length : Int):=of_decide_eq_true (by first|(with_reducible assumption)|assumption)
             obtain ⟨ad163,e163,hx163_0⟩:=Kd.at_int HR0_0.out x6_1 p163 q163
             cases e163
             replace hx163_0:=(HB.out.cell (World.block_lt_of_cell? w _ hx163_0)).trans hx163_0
             replace p163:=eq_true p163
             replace q163:=eq_true q163
             have hcz25_0 : wc.cell? ⟨gb161,0,none⟩=some (.int .i64 x162000_6):=(blk_cell BK161.out 0).trans rfl
             have hcz25_1 : wc.cell? ⟨gb161,1,none⟩=some (.string x162001_6):=(blk_cell BK161.out 1).trans rfl
             have hfz25_0:=blk_frozen BK161.out 0
             have hfz25_1:=blk_frozen BK161.out 1
             go_wp2_with (first|((with_reducible refine gate_builtin (b:=.append) (xs:=#[.tmp 39,.tmp 42]) rfl ?_);at_builtin;refine Kd.R_append k34 (w0:=w) w.heap.size rfl (.tmp 39) (.tmp 42) 26 34 (.agg #[(.int .i64 0),(.string ⟨#[]⟩)]) 24 rfl Try.underlying26 info34 rfl (by decide) (by omega) u5 x5_1 (⟨0,x162001_6.extract 0 60⟩ : S34) [.int .i64 0,.string (x162001_6.extract 0 60)] (fun k_=>k_≠gb161) (fun _=>False) rfl rfl ?aP (fun _ hk=>hk.elim) ?aF ?aO ?aB ?aS ?aL ?_;(case aP=>exact k34_mkM _ _ _ (⟨0,x162001_6.extract 0 60⟩ : S34));(case aB=>exact (below_go HB.out));(case aF=>exact (fun k_ hk=>Kd.freshB (blk_up BK161.out) k_ hk));(case aO=>exact (R_up HO_5.out));(case aS=>exact (below_size (below_go HB.out)));(case aL=>have:=LMc22.out;omega);intro v165 w26 ho hb hg hat;rw [← Ny164.out] at ho;have n0_:=Aside0.mk (blk_grown (blk_up BK157.out) hg (Kd.R_ne HO_5.out BK157.out (by decide)));have n1_:=Aside0.mk (blk_grown (blk_up BK161.out) hg (Kd.R_away HO_5.out (fun _ hk=>hk)));have n2_:=Aside0.mk (hb);have n3_:=Aside0.mk (ho);clear BK157;clear BK161;clear HB;clear HO_5;have BK157:=n0_;have BK161:=n1_;have HB:=n2_;have HO166:=n3_;clear n0_ n1_ n2_ n3_;clear ho hb hg hat))
             go_roundg kj6
             case measure=>have:=HK1.out;have:=HJ6.out;omega
             case rel=>exact ⟨(y164),(wrap64 (x6_1 + 1)),(by first|rfl|(simp;done)|(simp [*];done)),(by first|exact H'|(subst_vars;exact H')),⟨by have:=HK1.out;have:=HJ6.out;omega⟩,⟨by (with_reducible repeat (first|apply Kd.R_alloc|apply Kd.R_drewN|apply Kd.R_drew));exact Kd.R_mono HO166.out (fun _ hk=>trivial)⟩,⟨by (with_reducible repeat (first|refine blk_drewN ?_ _|refine blk_drew ?_|refine blk_alloc ?_ _));exact BK157.out⟩,⟨by repeat (first|(with_reducible first|exact HB.out|apply below_alloc|apply pw_below_drewN|apply below_drew1|refine below_set ?_ GE157.out|refine below_set ?_ GE161.out)|exact HB.out)⟩⟩
            ·rw [if_neg c22] at H
             exact absurd H (by simp)
           ·rw [if_neg c21] at H
            exact absurd H (by simp)
          ·rw [if_neg c20] at H
           exact absurd H (by simp)
         ·rw [if_neg c19] at H
          have c19b0 : decide (60 < (x162001_6.size : Int))=false:=decide_eq_false c19
          have c19b1 : decide (60 < x162001_6.size)=false:=decide_eq_false (by omega)
          clear c19
          by_cases c27 : x5_1.length < 5864062014805
          ·rw [if_pos c27] at H
           have LMc27:=Aside0.mk c27
           clear c27
           obtain ⟨y167,hy167⟩ : ∃ y_ : List (S34),y_=(x5_1 ++ [(⟨0,x162001_6⟩ : S34)]):=⟨_,rfl⟩
           replace H : (thresherref04_Fit.l0 kj6 l1 y167 (wrap64 (x6_1 + 1)) l0_0 a0_1 a0_2 a0_3)=some r:=by first|(rw [hy167];with_reducible exact H)|(have H2_:=(Option.bind_some _ _).symm.trans H;rw [hy167];with_reducible exact H2_)|(have H2_:=(Option.bind_some _ _).symm.trans H;with_reducible exact H2_)|with_reducible exact H|(rw [hy167];exact H)|exact H
           have Ny167:=Aside0.mk hy167
           clear hy167
           have H':=Aside0.mk H
           clear H
           have hnb28:=NB157_161.out
           have hnc28:=NB161_157.out
           have hcz29_0 : wc.cell? ⟨gb157,0,none⟩=some (.slice A0_0 l0_0.length c0_0):=(blk_cell BK157.out 0).trans rfl
           have hcz29_1 : wc.cell? ⟨gb157,1,none⟩=some (.int .i64 a0_1):=(blk_cell BK157.out 1).trans rfl
           have hcz29_2 : wc.cell? ⟨gb157,2,none⟩=some (.int .i64 a0_2):=(blk_cell BK157.out 2).trans rfl
           have hcz29_3 : wc.cell? ⟨gb157,3,none⟩=some (.int .i64 a0_3):=(blk_cell BK157.out 3).trans rfl
           have hfz29_0:=blk_frozen BK157.out 0
           have hfz29_1:=blk_frozen BK157.out 1
           have hfz29_2:=blk_frozen BK157.out 2
           have hfz29_3:=blk_frozen BK157.out 3
           have p163 : 0≤(x6_1 : Int):=of_decide_eq_true (by first|(with_reducible assumption)|assumption)
           have q163 : x6_1 < (l0_0.length : Int):=of_decide_eq_true (by first|(with_reducible assumption)|assumption)
           obtain ⟨ad163,e163,hx163_0⟩:=Kd.at_int HR0_0.out x6_1 p163 q163
           cases e163
           replace hx163_0:=(HB.out.cell (World.block_lt_of_cell? w _ hx163_0)).trans hx163_0
           replace p163:=eq_true p163
           replace q163:=eq_true q163
           have hcz30_0 : wc.cell? ⟨gb161,0,none⟩=some (.int .i64 x162000_6):=(blk_cell BK161.out 0).trans rfl
           have hcz30_1 : wc.cell? ⟨gb161,1,none⟩=some (.string x162001_6):=(blk_cell BK161.out 1).trans rfl
           have hfz30_0:=blk_frozen BK161.out 0
           have hfz30_1:=blk_frozen BK161.out 1
           go_wp2_with (first|((with_reducible refine gate_builtin (b:=.append) (xs:=#[.tmp 39,.tmp 42]) rfl ?_);at_builtin;refine Kd.R_append k34 (w0:=w) w.heap.size rfl (.tmp 39) (.tmp 42) 26 34 (.agg #[(.int .i64 0),(.string ⟨#[]⟩)]) 24 rfl Try.underlying26 info34 rfl (by decide) (by omega) u5 x5_1 (⟨0,x162001_6⟩ : S34) [.int .i64 0,.string x162001_6] (fun k_=>k_≠gb161) (fun _=>False) rfl rfl ?aP (fun _ hk=>hk.elim) ?aF ?aO ?aB ?aS ?aL ?_;(case aP=>exact k34_mkM _ _ _ (⟨0,x162001_6⟩ : S34));(case aB=>exact (below_go HB.out));(case aF=>exact (fun k_ hk=>Kd.freshB (blk_up BK161.out) k_ hk));(case aO=>exact (R_up HO_5.out));(case aS=>exact (below_size (below_go HB.out)));(case aL=>have:=LMc27.out;omega);intro v168 w31 ho hb hg hat;rw [← Ny167.out] at ho;have n0_:=Aside0.mk (blk_grown (blk_up BK157.out) hg (Kd.R_ne HO_5.out BK157.out (by decide)));have n1_:=Aside0.mk (blk_grown (blk_up BK161.out) hg (Kd.R_away HO_5.out (fun _ hk=>hk)));have n2_:=Aside0.mk (hb);have n3_:=Aside0.mk (ho);clear BK157;clear BK161;clear HB;clear HO_5;have BK157:=n0_;have BK161:=n1_;have HB:=n2_;have HO169:=n3_;clear n0_ n1_ n2_ n3_;clear ho hb hg hat))
           go_roundg kj6
           case measure=>have:=HK1.out;have:=HJ6.out;omega
           case rel=>exact ⟨(y167),(wrap64 (x6_1 + 1)),(by first|rfl|(simp;done)|(simp [*];done)),(by first|exact H'|(subst_vars;exact H')),⟨by have:=HK1.out;have:=HJ6.out;omega⟩,⟨by (with_reducible repeat (first|apply Kd.R_alloc|apply Kd.R_drewN|apply Kd.R_drew));exact Kd.R_mono HO169.out (fun _ hk=>trivial)⟩,⟨by (with_reducible repeat (first|refine blk_drewN ?_ _|refine blk_drew ?_|refine blk_alloc ?_ _));exact BK157.out⟩,⟨by repeat (first|(with_reducible first|exact HB.out|apply below_alloc|apply pw_below_drewN|apply below_drew1|refine below_set ?_ GE157.out|refine below_set ?_ GE161.out)|exact HB.out)⟩⟩
          ·rw [if_neg c27] at H
           exact absurd H (by simp)
        ·rw [if_neg c18] at H
         have c18b0 : ((rd l0_0 x6_1) == 3)=false:=beq_eq_false_iff_ne.mpr c18
         have c18b1 : ((rd l0_0 x6_1) != 3)=true:=bne_iff_ne.mpr c18
         by_cases c32 : x5_1.length < 5864062014805
         ·rw [if_pos c32] at H
          have LMc32:=Aside0.mk c32
          clear c32
          obtain ⟨y170,hy170⟩ : ∃ y_ : List (S34),y_=(x5_1 ++ [(⟨x162000_6,(⟨#[]⟩ : ByteArray)⟩ : S34)]):=⟨_,rfl⟩
          replace H : (thresherref04_Fit.l0 kj6 l1 y170 (wrap64 (x6_1 + 1)) l0_0 a0_1 a0_2 a0_3)=some r:=by first|(rw [hy170];with_reducible exact H)|(have H2_:=(Option.bind_some _ _).symm.trans H;rw [hy170];with_reducible exact H2_)|(have H2_:=(Option.bind_some _ _).symm.trans H;with_reducible exact H2_)|with_reducible exact H|(rw [hy170];exact H)|exact H
          have Ny170:=Aside0.mk hy170
          clear hy170
          have H':=Aside0.mk H
          clear H
          have hnb33:=NB157_161.out
          have hnc33:=NB161_157.out
          have hcz34_0 : wc.cell? ⟨gb157,0,none⟩=some (.slice A0_0 l0_0.length c0_0):=(blk_cell BK157.out 0).trans rfl
          have hcz34_1 : wc.cell? ⟨gb157,1,none⟩=some (.int .i64 a0_1):=(blk_cell BK157.out 1).trans rfl
          have hcz34_2 : wc.cell? ⟨gb157,2,none⟩=some (.int .i64 a0_2):=(blk_cell BK157.out 2).trans rfl
          have hcz34_3 : wc.cell? ⟨gb157,3,none⟩=some (.int .i64 a0_3):=(blk_cell BK157.out 3).trans rfl
          have hfz34_0:=blk_frozen BK157.out 0
          have hfz34_1:=blk_frozen BK157.out 1
          have hfz34_2:=blk_frozen BK157.out 2
          have hfz34_3:=blk_frozen BK157.out 3
          have p163 : 0≤(x6_1 : Int):=of_decide_eq_true (by first|(with_reducible assumption)|assumption)
          have q163 : x6_1 < (l0_0.length : Int):=of_decide_eq_true (by first|(with_reducible assumption)|assumption)
          obtain ⟨ad163,e163,hx163_0⟩:=Kd.at_int HR0_0.out x6_1 p163 q163
          cases e163
          replace hx163_0:=(HB.out.cell (World.block_lt_of_cell? w _ hx163_0)).trans hx163_0
          replace p163:=eq_true p163
          replace q163:=eq_true q163
          have hcz35_0 : wc.cell? ⟨gb161,0,none⟩=some (.int .i64 x162000_6):=(blk_cell BK161.out 0).trans rfl
          have hcz35_1 : wc.cell? ⟨gb161,1,none⟩=some (.string x162001_6):=(blk_cell BK161.out 1).trans rfl
          have hfz35_0:=blk_frozen BK161.out 0
          have hfz35_1:=blk_frozen BK161.out 1
          go_wp2_with (first|((with_reducible refine gate_builtin (b:=.append) (xs:=#[.tmp 44,.tmp 48]) rfl ?_);at_builtin;refine Kd.R_append k34 (w0:=w) w.heap.size rfl (.tmp 44) (.tmp 48) 26 34 (.agg #[(.int .i64 0),(.string ⟨#[]⟩)]) 24 rfl Try.underlying26 info34 rfl (by decide) (by omega) u5 x5_1 (⟨x162000_6,(⟨#[]⟩ : ByteArray)⟩ : S34) [.int .i64 x162000_6,.string (⟨#[]⟩ : ByteArray)] (fun k_=>k_≠gb161) (fun _=>False) rfl rfl ?aP (fun _ hk=>hk.elim) ?aF ?aO ?aB ?aS ?aL ?_;(case aP=>exact k34_mkM _ _ _ (⟨x162000_6,(⟨#[]⟩ : ByteArray)⟩ : S34));(case aB=>exact (below_go HB.out));(case aF=>exact (fun k_ hk=>Kd.freshB (blk_up BK161.out) k_ hk));(case aO=>exact (R_up HO_5.out));(case aS=>exact (below_size (below_go HB.out)));(case aL=>have:=LMc32.out;omega);intro v171 w36 ho hb hg hat;rw [← Ny170.out] at ho;have n0_:=Aside0.mk (blk_grown (blk_up BK157.out) hg (Kd.R_ne HO_5.out BK157.out (by decide)));have n1_:=Aside0.mk (blk_grown (blk_up BK161.out) hg (Kd.R_away HO_5.out (fun _ hk=>hk)));have n2_:=Aside0.mk (hb);have n3_:=Aside0.mk (ho);clear BK157;clear BK161;clear HB;clear HO_5;have BK157:=n0_;have BK161:=n1_;have HB:=n2_;have HO172:=n3_;clear n0_ n1_ n2_ n3_;clear ho hb hg hat))
          go_roundg kj6
          case measure=>have:=HK1.out;have:=HJ6.out;omega
          case rel=>exact ⟨(y170),(wrap64 (x6_1 + 1)),(by first|rfl|(simp;done)|(simp [*];done)),(by first|exact H'|(subst_vars;exact H')),⟨by have:=HK1.out;have:=HJ6.out;omega⟩,⟨by (with_reducible repeat (first|apply Kd.R_alloc|apply Kd.R_drewN|apply Kd.R_drew));exact Kd.R_mono HO172.out (fun _ hk=>trivial)⟩,⟨by (with_reducible repeat (first|refine blk_drewN ?_ _|refine blk_drew ?_|refine blk_alloc ?_ _));exact BK157.out⟩,⟨by repeat (first|(with_reducible first|exact HB.out|apply below_alloc|apply pw_below_drewN|apply below_drew1|refine below_set ?_ GE157.out|refine below_set ?_ GE161.out)|exact HB.out)⟩⟩
         ·rw [if_neg c32] at H
          exact absurd H (by simp)
       ·rw [if_neg c17] at H
        exact absurd H (by simp)
      ·rw [if_neg c16] at H
       exact absurd H (by simp)
   ·rw [if_neg c6] at H
    have c6b0 : decide (x6_1 < (l0_0.length : Int))=false:=decide_eq_false c6
    clear c6
    obtain rfl:=Option.some.inj H
    have hcz37_0 : wr.cell? ⟨gb157,0,none⟩=some (.slice A0_0 l0_0.length c0_0):=(blk_cell BK157.out 0).trans rfl
    have hcz37_1 : wr.cell? ⟨gb157,1,none⟩=some (.int .i64 a0_1):=(blk_cell BK157.out 1).trans rfl
    have hcz37_2 : wr.cell? ⟨gb157,2,none⟩=some (.int .i64 a0_2):=(blk_cell BK157.out 2).trans rfl
    have hcz37_3 : wr.cell? ⟨gb157,3,none⟩=some (.int .i64 a0_3):=(blk_cell BK157.out 3).trans rfl
    have hfz37_0:=blk_frozen BK157.out 0
    have hfz37_1:=blk_frozen BK157.out 1
    have hfz37_2:=blk_frozen BK157.out 2
    have hfz37_3:=blk_frozen BK157.out 3
    go_wp2
    go_ret
    exact ⟨_,by first|rfl|(simp [errW_none,errW_some] <;> rfl)|(simp [*,errW_none,errW_some] <;> rfl),by (with_reducible repeat (first|apply Kd.R_alloc|apply Kd.R_drewN|apply Kd.R_drew));exact HO_5.out,by repeat (first|(with_reducible first|exact HB.out|apply below_alloc|apply pw_below_drewN|apply below_drew1|refine below_set ?_ GE157.out)|exact HB.out)⟩
end Go.Proofs.Ytkodpbellndelaa.P

