/- Texts of IndexGrows. Merged: Px3. -/
import Derived.Test.YtfccebnoflhkcaaQIndexGrowsPx0
import Derived.Test.YtfccebnoflhkcaaQIndexGrowsHMeets
namespace Go.Proofs.Ytfccebnoflhkcaa.P
open Go.RowKit Go.Proofs.YtfccebnoflhkcaaW.PrintWords Go.Proofs.YtfccebnoflhkcaaW.PrintLast Go.Proofs.YtfccebnoflhkcaaW.PrintMore
attribute [local go_sem] max2_int min2_int max_two min_two max_three min_three max_four min_four   -- for this text's walks alone
set_option linter.unusedVariables false
set_option linter.unusedSimpArgs false
def thresherlaw12_shown.j0 : Nat→Bool→Option (Bool)
 | 0,_=>none
 | k + 1,x0=>some x0
def thresherlaw12_shown.f (k : Nat)  : Option (Bool):=(some (([1] : List Int) : List Int)).bind fun y122=>((some (([(([(⟨0,(⟨#[]⟩ : ByteArray)⟩ : S44)] : List (S44))),(([(⟨10,(⟨#[]⟩ : ByteArray)⟩ : S44)] : List (S44))),(([(⟨20,(⟨#[]⟩ : ByteArray)⟩ : S44)] : List (S44)))] : List (List (S44))) : List (List (S44)))).bind fun y135=>((index_Meets.f k y122 1 1 1 y135 true true (([(⟨12,(⟨#[]⟩ : ByteArray)⟩ : S44)] : List (S44))) (([(⟨15,(⟨#[]⟩ : ByteArray)⟩ : S44)] : List (S44)))).bind fun bt144=>((index_Meets.f k y122 1 1 1 y135 true true (([(⟨10,(⟨#[]⟩ : ByteArray)⟩ : S44)] : List (S44))) (([(⟨10,(⟨#[]⟩ : ByteArray)⟩ : S44)] : List (S44)))).bind fun bt152=>(if bt144.1=1 then (if bt144.2=2 then (if bt152.1=0 then (thresherlaw12_shown.j0 k (bt152.2 == 2)) else (thresherlaw12_shown.j0 k false)) else (thresherlaw12_shown.j0 k false)) else (thresherlaw12_shown.j0 k false)))))
theorem thresherlaw12_shown.mono_l : ∀ k,(∀ y0,LeO (thresherlaw12_shown.j0 k y0) (thresherlaw12_shown.j0 (k + 1) y0))
 | 0=>fun _ r h=>by simp [thresherlaw12_shown.j0] at h
 | k + 1=>by
  have ih0:=thresherlaw12_shown.mono_l k
  ·intro y0
   unfold thresherlaw12_shown.j0
   repeat' first
   | (with_reducible exact ih0 _)
   | (with_reducible exact index_Meets.mono _ _ _ _ _ _ _ _ _ _)
   | (with_reducible exact LeO.refl _)
   | (with_reducible exact LeO.none _)
   | (with_reducible refine LeO.ite ?_ ?_)
   | (with_reducible refine LeO.bind ?_ (fun _=>?_))
   | exact ih0 _
   | exact index_Meets.mono _ _ _ _ _ _ _ _ _ _
   | exact LeO.none _
   | refine LeO.ite ?_ ?_
   | refine LeO.bind ?_ (fun _=>?_)
theorem thresherlaw12_shown.mono : ∀ k,LeO (thresherlaw12_shown.f k ) (thresherlaw12_shown.f (k + 1) ):=by
 intro  k
 have ih0:=thresherlaw12_shown.mono_l k
 unfold thresherlaw12_shown.f
 repeat' first
   | (with_reducible exact ih0 _)
   | (with_reducible exact index_Meets.mono _ _ _ _ _ _ _ _ _ _)
   | (with_reducible exact LeO.refl _)
   | (with_reducible exact LeO.none _)
   | (with_reducible refine LeO.ite ?_ ?_)
   | (with_reducible refine LeO.bind ?_ (fun _=>?_))
   | exact ih0 _
   | exact index_Meets.mono _ _ _ _ _ _ _ _ _ _
   | exact LeO.none _
   | refine LeO.ite ?_ ?_
   | refine LeO.bind ?_ (fun _=>?_)
set_option maxHeartbeats 8000000 in
set_option maxRecDepth 100000 in
theorem thresherlaw12_shown.calls (k : Nat)  (r : Bool) (w : World) (h : thresherlaw12_shown.f k =some r) :
  Calls Try.prog 7 #[] w fun e w'=>e=.returned (.bool r)∧Below w.heap.size w w':=by
 have hu33:=Try.underlying33
 have hu44:=Try.underlying44
 have hu29:=Try.underlying29
 have HB:=Aside0.mk (Below.refl w.heap.size w)
 have H : ((some (([1] : List Int) : List Int)).bind fun y122=>((some (([(([(⟨0,(⟨#[]⟩ : ByteArray)⟩ : S44)] : List (S44))),(([(⟨10,(⟨#[]⟩ : ByteArray)⟩ : S44)] : List (S44))),(([(⟨20,(⟨#[]⟩ : ByteArray)⟩ : S44)] : List (S44)))] : List (List (S44))) : List (List (S44)))).bind fun y135=>((index_Meets.f k y122 1 1 1 y135 true true (([(⟨12,(⟨#[]⟩ : ByteArray)⟩ : S44)] : List (S44))) (([(⟨15,(⟨#[]⟩ : ByteArray)⟩ : S44)] : List (S44)))).bind fun bt144=>((index_Meets.f k y122 1 1 1 y135 true true (([(⟨10,(⟨#[]⟩ : ByteArray)⟩ : S44)] : List (S44))) (([(⟨10,(⟨#[]⟩ : ByteArray)⟩ : S44)] : List (S44)))).bind fun bt152=>(if bt144.1=1 then (if bt144.2=2 then (if bt152.1=0 then (thresherlaw12_shown.j0 k (bt152.2 == 2)) else (thresherlaw12_shown.j0 k false)) else (thresherlaw12_shown.j0 k false)) else (thresherlaw12_shown.j0 k false))))))=some r:=h
 clear h
 obtain ⟨y122,hy122⟩ : ∃ y_ : List Int,y_=(([1] : List Int)):=⟨_,rfl⟩
 replace H : ((some (([(([(⟨0,(⟨#[]⟩ : ByteArray)⟩ : S44)] : List (S44))),(([(⟨10,(⟨#[]⟩ : ByteArray)⟩ : S44)] : List (S44))),(([(⟨20,(⟨#[]⟩ : ByteArray)⟩ : S44)] : List (S44)))] : List (List (S44))) : List (List (S44)))).bind fun y135=>((index_Meets.f k y122 1 1 1 y135 true true (([(⟨12,(⟨#[]⟩ : ByteArray)⟩ : S44)] : List (S44))) (([(⟨15,(⟨#[]⟩ : ByteArray)⟩ : S44)] : List (S44)))).bind fun bt144=>((index_Meets.f k y122 1 1 1 y135 true true (([(⟨10,(⟨#[]⟩ : ByteArray)⟩ : S44)] : List (S44))) (([(⟨10,(⟨#[]⟩ : ByteArray)⟩ : S44)] : List (S44)))).bind fun bt152=>(if bt144.1=1 then (if bt144.2=2 then (if bt152.1=0 then (thresherlaw12_shown.j0 k (bt152.2 == 2)) else (thresherlaw12_shown.j0 k false)) else (thresherlaw12_shown.j0 k false)) else (thresherlaw12_shown.j0 k false)))))=some r:=by first|(rw [hy122];with_reducible exact H)|(have H2_:=(Option.bind_some _ _).symm.trans H;rw [hy122];with_reducible exact H2_)|(have H2_:=(Option.bind_some _ _).symm.trans H;with_reducible exact H2_)|with_reducible exact H|(rw [hy122];exact H)|exact H
 have Ny122:=Aside0.mk hy122
 clear hy122
 obtain ⟨y126,hy126⟩ : ∃ y_ : List (S44),y_=(([(⟨0,(⟨#[]⟩ : ByteArray)⟩ : S44)] : List (S44))):=⟨_,rfl⟩
 replace H : ((some (([y126,(([(⟨10,(⟨#[]⟩ : ByteArray)⟩ : S44)] : List (S44))),(([(⟨20,(⟨#[]⟩ : ByteArray)⟩ : S44)] : List (S44)))] : List (List (S44))) : List (List (S44)))).bind fun y135=>((index_Meets.f k y122 1 1 1 y135 true true (([(⟨12,(⟨#[]⟩ : ByteArray)⟩ : S44)] : List (S44))) (([(⟨15,(⟨#[]⟩ : ByteArray)⟩ : S44)] : List (S44)))).bind fun bt144=>((index_Meets.f k y122 1 1 1 y135 true true (([(⟨10,(⟨#[]⟩ : ByteArray)⟩ : S44)] : List (S44))) (([(⟨10,(⟨#[]⟩ : ByteArray)⟩ : S44)] : List (S44)))).bind fun bt152=>(if bt144.1=1 then (if bt144.2=2 then (if bt152.1=0 then (thresherlaw12_shown.j0 k (bt152.2 == 2)) else (thresherlaw12_shown.j0 k false)) else (thresherlaw12_shown.j0 k false)) else (thresherlaw12_shown.j0 k false)))))=some r:=by first|(rw [hy126];with_reducible exact H)|(have H2_:=(Option.bind_some _ _).symm.trans H;rw [hy126];with_reducible exact H2_)|(have H2_:=(Option.bind_some _ _).symm.trans H;with_reducible exact H2_)|with_reducible exact H|(rw [hy126];exact H)|exact H
 have Ny126:=Aside0.mk hy126
 clear hy126
 obtain ⟨y129,hy129⟩ : ∃ y_ : List (S44),y_=(([(⟨10,(⟨#[]⟩ : ByteArray)⟩ : S44)] : List (S44))):=⟨_,rfl⟩
 replace H : ((some (([y126,y129,(([(⟨20,(⟨#[]⟩ : ByteArray)⟩ : S44)] : List (S44)))] : List (List (S44))) : List (List (S44)))).bind fun y135=>((index_Meets.f k y122 1 1 1 y135 true true (([(⟨12,(⟨#[]⟩ : ByteArray)⟩ : S44)] : List (S44))) (([(⟨15,(⟨#[]⟩ : ByteArray)⟩ : S44)] : List (S44)))).bind fun bt144=>((index_Meets.f k y122 1 1 1 y135 true true (([(⟨10,(⟨#[]⟩ : ByteArray)⟩ : S44)] : List (S44))) (([(⟨10,(⟨#[]⟩ : ByteArray)⟩ : S44)] : List (S44)))).bind fun bt152=>(if bt144.1=1 then (if bt144.2=2 then (if bt152.1=0 then (thresherlaw12_shown.j0 k (bt152.2 == 2)) else (thresherlaw12_shown.j0 k false)) else (thresherlaw12_shown.j0 k false)) else (thresherlaw12_shown.j0 k false)))))=some r:=by first|(rw [hy129];with_reducible exact H)|(have H2_:=(Option.bind_some _ _).symm.trans H;rw [hy129];with_reducible exact H2_)|(have H2_:=(Option.bind_some _ _).symm.trans H;with_reducible exact H2_)|with_reducible exact H|(rw [hy129];exact H)|exact H
 have Ny129:=Aside0.mk hy129
 clear hy129
 obtain ⟨y132,hy132⟩ : ∃ y_ : List (S44),y_=(([(⟨20,(⟨#[]⟩ : ByteArray)⟩ : S44)] : List (S44))):=⟨_,rfl⟩
 replace H : ((some (([y126,y129,y132] : List (List (S44))) : List (List (S44)))).bind fun y135=>((index_Meets.f k y122 1 1 1 y135 true true (([(⟨12,(⟨#[]⟩ : ByteArray)⟩ : S44)] : List (S44))) (([(⟨15,(⟨#[]⟩ : ByteArray)⟩ : S44)] : List (S44)))).bind fun bt144=>((index_Meets.f k y122 1 1 1 y135 true true (([(⟨10,(⟨#[]⟩ : ByteArray)⟩ : S44)] : List (S44))) (([(⟨10,(⟨#[]⟩ : ByteArray)⟩ : S44)] : List (S44)))).bind fun bt152=>(if bt144.1=1 then (if bt144.2=2 then (if bt152.1=0 then (thresherlaw12_shown.j0 k (bt152.2 == 2)) else (thresherlaw12_shown.j0 k false)) else (thresherlaw12_shown.j0 k false)) else (thresherlaw12_shown.j0 k false)))))=some r:=by first|(rw [hy132];with_reducible exact H)|(have H2_:=(Option.bind_some _ _).symm.trans H;rw [hy132];with_reducible exact H2_)|(have H2_:=(Option.bind_some _ _).symm.trans H;with_reducible exact H2_)|with_reducible exact H|(rw [hy132];exact H)|exact H
 have Ny132:=Aside0.mk hy132
 clear hy132
 obtain ⟨y135,hy135⟩ : ∃ y_ : List (List (S44)),y_=(([y126,y129,y132] : List (List (S44)))):=⟨_,rfl⟩
 replace H : ((index_Meets.f k y122 1 1 1 y135 true true (([(⟨12,(⟨#[]⟩ : ByteArray)⟩ : S44)] : List (S44))) (([(⟨15,(⟨#[]⟩ : ByteArray)⟩ : S44)] : List (S44)))).bind fun bt144=>((index_Meets.f k y122 1 1 1 y135 true true (([(⟨10,(⟨#[]⟩ : ByteArray)⟩ : S44)] : List (S44))) (([(⟨10,(⟨#[]⟩ : ByteArray)⟩ : S44)] : List (S44)))).bind fun bt152=>(if bt144.1=1 then (if bt144.2=2 then (if bt152.1=0 then (thresherlaw12_shown.j0 k (bt152.2 == 2)) else (thresherlaw12_shown.j0 k false)) else (thresherlaw12_shown.j0 k false)) else (thresherlaw12_shown.j0 k false))))=some r:=by first|(rw [hy135];with_reducible exact H)|(have H2_:=(Option.bind_some _ _).symm.trans H;rw [hy135];with_reducible exact H2_)|(have H2_:=(Option.bind_some _ _).symm.trans H;with_reducible exact H2_)|with_reducible exact H|(rw [hy135];exact H)|exact H
 have Ny135:=Aside0.mk hy135
 clear hy135
 obtain ⟨y138,hy138⟩ : ∃ y_ : List (S44),y_=(([(⟨12,(⟨#[]⟩ : ByteArray)⟩ : S44)] : List (S44))):=⟨_,rfl⟩
 replace H : ((index_Meets.f k y122 1 1 1 y135 true true y138 (([(⟨15,(⟨#[]⟩ : ByteArray)⟩ : S44)] : List (S44)))).bind fun bt144=>((index_Meets.f k y122 1 1 1 y135 true true (([(⟨10,(⟨#[]⟩ : ByteArray)⟩ : S44)] : List (S44))) (([(⟨10,(⟨#[]⟩ : ByteArray)⟩ : S44)] : List (S44)))).bind fun bt152=>(if bt144.1=1 then (if bt144.2=2 then (if bt152.1=0 then (thresherlaw12_shown.j0 k (bt152.2 == 2)) else (thresherlaw12_shown.j0 k false)) else (thresherlaw12_shown.j0 k false)) else (thresherlaw12_shown.j0 k false))))=some r:=by first|(rw [hy138];with_reducible exact H)|(have H2_:=(Option.bind_some _ _).symm.trans H;rw [hy138];with_reducible exact H2_)|(have H2_:=(Option.bind_some _ _).symm.trans H;with_reducible exact H2_)|with_reducible exact H|(rw [hy138];exact H)|exact H
 have Ny138:=Aside0.mk hy138
 clear hy138
 obtain ⟨y141,hy141⟩ : ∃ y_ : List (S44),y_=(([(⟨15,(⟨#[]⟩ : ByteArray)⟩ : S44)] : List (S44))):=⟨_,rfl⟩
 replace H : ((index_Meets.f k y122 1 1 1 y135 true true y138 y141).bind fun bt144=>((index_Meets.f k y122 1 1 1 y135 true true (([(⟨10,(⟨#[]⟩ : ByteArray)⟩ : S44)] : List (S44))) (([(⟨10,(⟨#[]⟩ : ByteArray)⟩ : S44)] : List (S44)))).bind fun bt152=>(if bt144.1=1 then (if bt144.2=2 then (if bt152.1=0 then (thresherlaw12_shown.j0 k (bt152.2 == 2)) else (thresherlaw12_shown.j0 k false)) else (thresherlaw12_shown.j0 k false)) else (thresherlaw12_shown.j0 k false))))=some r:=by first|(rw [hy141];with_reducible exact H)|(have H2_:=(Option.bind_some _ _).symm.trans H;rw [hy141];with_reducible exact H2_)|(have H2_:=(Option.bind_some _ _).symm.trans H;with_reducible exact H2_)|with_reducible exact H|(rw [hy141];exact H)|exact H
 have Ny141:=Aside0.mk hy141
 clear hy141
 replace H:=Option.bind_eq_some_iff.mp H
 obtain ⟨⟨t144,t145⟩,A10,H⟩:=H
 replace H : ((index_Meets.f k y122 1 1 1 y135 true true (([(⟨10,(⟨#[]⟩ : ByteArray)⟩ : S44)] : List (S44))) (([(⟨10,(⟨#[]⟩ : ByteArray)⟩ : S44)] : List (S44)))).bind fun bt152=>(if t144=1 then (if t145=2 then (if bt152.1=0 then (thresherlaw12_shown.j0 k (bt152.2 == 2)) else (thresherlaw12_shown.j0 k false)) else (thresherlaw12_shown.j0 k false)) else (thresherlaw12_shown.j0 k false)))=some r:=H
 have A1:=Aside0.mk A10
 clear A10
 obtain ⟨y146,hy146⟩ : ∃ y_ : List (S44),y_=(([(⟨10,(⟨#[]⟩ : ByteArray)⟩ : S44)] : List (S44))):=⟨_,rfl⟩
 replace H : ((index_Meets.f k y122 1 1 1 y135 true true y146 (([(⟨10,(⟨#[]⟩ : ByteArray)⟩ : S44)] : List (S44)))).bind fun bt152=>(if t144=1 then (if t145=2 then (if bt152.1=0 then (thresherlaw12_shown.j0 k (bt152.2 == 2)) else (thresherlaw12_shown.j0 k false)) else (thresherlaw12_shown.j0 k false)) else (thresherlaw12_shown.j0 k false)))=some r:=by first|(rw [hy146];with_reducible exact H)|(have H2_:=(Option.bind_some _ _).symm.trans H;rw [hy146];with_reducible exact H2_)|(have H2_:=(Option.bind_some _ _).symm.trans H;with_reducible exact H2_)|with_reducible exact H|(rw [hy146];exact H)|exact H
 have Ny146:=Aside0.mk hy146
 clear hy146
 obtain ⟨y149,hy149⟩ : ∃ y_ : List (S44),y_=(([(⟨10,(⟨#[]⟩ : ByteArray)⟩ : S44)] : List (S44))):=⟨_,rfl⟩
 replace H : ((index_Meets.f k y122 1 1 1 y135 true true y146 y149).bind fun bt152=>(if t144=1 then (if t145=2 then (if bt152.1=0 then (thresherlaw12_shown.j0 k (bt152.2 == 2)) else (thresherlaw12_shown.j0 k false)) else (thresherlaw12_shown.j0 k false)) else (thresherlaw12_shown.j0 k false)))=some r:=by first|(rw [hy149];with_reducible exact H)|(have H2_:=(Option.bind_some _ _).symm.trans H;rw [hy149];with_reducible exact H2_)|(have H2_:=(Option.bind_some _ _).symm.trans H;with_reducible exact H2_)|with_reducible exact H|(rw [hy149];exact H)|exact H
 have Ny149:=Aside0.mk hy149
 clear hy149
 replace H:=Option.bind_eq_some_iff.mp H
 obtain ⟨⟨t152,t153⟩,A20,H⟩:=H
 replace H : (if t144=1 then (if t145=2 then (if t152=0 then (thresherlaw12_shown.j0 k (t153 == 2)) else (thresherlaw12_shown.j0 k false)) else (thresherlaw12_shown.j0 k false)) else (thresherlaw12_shown.j0 k false))=some r:=H
 have A2:=Aside0.mk A20
 clear A20
 have HC3:=Aside0.mk H
 clear H
 go_enter Try.func7,Try.ntmps7
 go_upto_region 5 with (first|((with_reducible refine gate_dst (N:=7) rfl ?_);refine Kd.R_lit (Kd.int .i64) _ 3 ?hg (N:=7) ?hd (xs:=([1] : List Int)) (inner:=[.int .i64 1]) (ok:=fun _=>True) (okp:=fun _=>True) ?hr ?hp (fun _ hk=>hk) trivial (Below.refl _ _) (Nat.le_refl _) (by simp) ?_;(case hd=>rfl);(case hg=>rfl);(case hr=>first|(go_simp;done)|(go_simp;rfl));(case hp=>exact (Reps.one (show Kd.M (Kd.int .i64) _ _ _ 1 [.int .i64 1] from rfl) (Reps.none _ _)));intro v123 w4 ho5 hb hg_ hnew_;clear hg_ hnew_;(first|rw [← Ny122.out] at ho5|(simp only [Int.reduceToNat] at ho5;rw [← Ny122.out] at ho5));have n0_:=Aside0.mk (Kd.R_lower ho5 (below_size (below_up HB.out)));have n1_:=Aside0.mk (below_step (below_up HB.out) hb);clear HB;have HO124:=n0_;have HB:=n1_;clear n0_ n1_;clear hb ho5;obtain ⟨Ao6,co6,eo6⟩:=Kd.R_slice HO124.out;subst eo6)|((with_reducible refine gate_dst (N:=1) rfl ?_);refine box_event ?hg (N:=1) ?hd (cs:=#[.slice none 0 0,.int .i64 0,.int .i64 0,.int .i64 0]) (t:=33) ?hr ?_;(case hd=>rfl);(case hg=>rfl);(case hr=>first|(go_simp;done)|(go_simp;rfl));intro gb125 hg w7 hbox hb;have n0_:=Aside0.mk (Kd.R_below (R_up HO124.out) hb);have n1_:=Aside0.mk (below_step (below_up HB.out) hb);have n2_:=Aside0.mk (hbox);have n3_:=Aside0.mk ((by rw [hg];exact (below_size (below_up HB.out)) : w.heap.size≤gb125));have n4_:=Aside0.mk ((by rw [hg];exact (below_size (below_up HB.out)) : w.heap.size≤gb125));clear HO124;clear HB;have HO124:=n0_;have HB:=n1_;have BK125:=n2_;have GW125:=n3_;have GE125:=n4_;clear n0_ n1_ n2_ n3_ n4_;clear hb hbox hg;have hcz8_0 : w7.cell? ⟨gb125,0,none⟩=some (.slice none 0 0):=(blk_cell BK125.out 0).trans rfl;have hcz8_1 : w7.cell? ⟨gb125,1,none⟩=some (.int .i64 0):=(blk_cell BK125.out 1).trans rfl;have hcz8_2 : w7.cell? ⟨gb125,2,none⟩=some (.int .i64 0):=(blk_cell BK125.out 2).trans rfl;have hcz8_3 : w7.cell? ⟨gb125,3,none⟩=some (.int .i64 0):=(blk_cell BK125.out 3).trans rfl;have hfz8_0:=blk_frozen BK125.out 0;have hfz8_1:=blk_frozen BK125.out 1;have hfz8_2:=blk_frozen BK125.out 2;have hfz8_3:=blk_frozen BK125.out 3)|((with_reducible refine gate_dst (N:=10) rfl ?_);refine Kd.R_lit k44 _ 44 ?hg (N:=10) ?hd (xs:=([(⟨0,(⟨#[]⟩ : ByteArray)⟩ : S44)] : List (S44))) (inner:=[.int .i64 0,.string (⟨#[]⟩ : ByteArray)]) (ok:=fun _=>True) (okp:=fun _=>True) ?hr ?hp (fun _ hk=>hk) trivial (Below.refl _ _) (Nat.le_refl _) (by simp) ?_;(case hd=>rfl);(case hg=>rfl);(case hr=>first|(go_simp;done)|(go_simp;rfl));(case hp=>exact (Reps.c2 (show Kd.M k44 _ _ _ (⟨0,(⟨#[]⟩ : ByteArray)⟩ : S44) [.int .i64 0,.string (⟨#[]⟩ : ByteArray)] from (k44_mkM _ _ _ (⟨0,(⟨#[]⟩ : ByteArray)⟩ : S44) )) (Reps.none _ _)));intro v127 w9 ho10 hb hg_ hnew_;clear hg_ hnew_;(first|rw [← Ny126.out] at ho10|(simp only [Int.reduceToNat] at ho10;rw [← Ny126.out] at ho10));have n0_:=Aside0.mk (Kd.R_below (by (with_reducible repeat (first|apply Kd.R_alloc|apply Kd.R_drewN|apply Kd.R_drew));exact (Kd.R_mono (Kd.R_far (p:=⟨gb125,3,none⟩) (Kd.R_far (p:=⟨gb125,2,none⟩) (Kd.R_far (p:=⟨gb125,1,none⟩) (Kd.R_far (p:=⟨gb125,0,none⟩) (Kd.R_types HO124.out BK125.out (by decide)) (fun _ hk=>hk.2) (.slice Ao6 y122.length co6)) (fun _ hk=>hk.2) (.int .i64 1)) (fun _ hk=>hk.2) (.int .i64 1)) (fun _ hk=>hk.2) (.int .i64 1)) (fun _ h_=>h_.1))) hb);have n1_:=Aside0.mk (Kd.R_lower ho10 (below_size (by repeat (first|(with_reducible first|exact HB.out|apply below_alloc|apply pw_below_drewN|apply below_drew1|refine below_set ?_ GE125.out)|exact HB.out))));have n2_:=Aside0.mk (blk_below (g:=gb125) (o:=.cells #[.slice Ao6 y122.length co6,.int .i64 1,.int .i64 1,.int .i64 1] 33 (0,0)) (by (with_reducible repeat (first|refine blk_drewN ?_ _|refine blk_drew ?_|refine blk_alloc ?_ _));refine blk_put (cs:=#[.slice Ao6 y122.length co6,.int .i64 1,.int .i64 1,.int .i64 0]) ?_ 3 _ rfl;(with_reducible repeat (first|refine blk_drewN ?_ _|refine blk_drew ?_|refine blk_alloc ?_ _));refine blk_put (cs:=#[.slice Ao6 y122.length co6,.int .i64 1,.int .i64 0,.int .i64 0]) ?_ 2 _ rfl;(with_reducible repeat (first|refine blk_drewN ?_ _|refine blk_drew ?_|refine blk_alloc ?_ _));refine blk_put (cs:=#[.slice Ao6 y122.length co6,.int .i64 0,.int .i64 0,.int .i64 0]) ?_ 1 _ rfl;(with_reducible repeat (first|refine blk_drewN ?_ _|refine blk_drew ?_|refine blk_alloc ?_ _));refine blk_put (cs:=#[.slice none 0 0,.int .i64 0,.int .i64 0,.int .i64 0]) ?_ 0 _ rfl;(with_reducible repeat (first|refine blk_drewN ?_ _|refine blk_drew ?_|refine blk_alloc ?_ _));exact BK125.out) hb);have n3_:=Aside0.mk (below_step (by repeat (first|(with_reducible first|exact HB.out|apply below_alloc|apply pw_below_drewN|apply below_drew1|refine below_set ?_ GE125.out)|exact HB.out)) hb);clear HO124;clear BK125;clear HB;have HO124:=n0_;have HO128:=n1_;have BK125:=n2_;have HB:=n3_;clear n0_ n1_ n2_ n3_;clear hb ho10)|((with_reducible refine gate_dst (N:=12) rfl ?_);refine Kd.R_lit k44 _ 44 ?hg (N:=12) ?hd (xs:=([(⟨10,(⟨#[]⟩ : ByteArray)⟩ : S44)] : List (S44))) (inner:=[.int .i64 10,.string (⟨#[]⟩ : ByteArray)]) (ok:=fun _=>True) (okp:=fun _=>True) ?hr ?hp (fun _ hk=>hk) trivial (Below.refl _ _) (Nat.le_refl _) (by simp) ?_;(case hd=>rfl);(case hg=>rfl);(case hr=>first|(go_simp;done)|(go_simp;rfl));(case hp=>exact (Reps.c2 (show Kd.M k44 _ _ _ (⟨10,(⟨#[]⟩ : ByteArray)⟩ : S44) [.int .i64 10,.string (⟨#[]⟩ : ByteArray)] from (k44_mkM _ _ _ (⟨10,(⟨#[]⟩ : ByteArray)⟩ : S44) )) (Reps.none _ _)));intro v130 w11 ho12 hb hg_ hnew_;clear hg_ hnew_;(first|rw [← Ny129.out] at ho12|(simp only [Int.reduceToNat] at ho12;rw [← Ny129.out] at ho12));have n0_:=Aside0.mk (Kd.R_below (R_up HO124.out) hb);have n1_:=Aside0.mk (Kd.R_elder' (R_up HO128.out) (Kd.R_base ho12) hb);have n2_:=Aside0.mk (Kd.R_lower (Kd.R_new' ho12 (Kd.R_lt (R_up HO128.out))) (below_size (by repeat (first|(with_reducible first|exact HB.out|apply below_alloc|apply pw_below_drewN|apply below_drew1|refine below_set ?_ GE125.out)|exact HB.out))));have n3_:=Aside0.mk (blk_below (g:=gb125) (o:=.cells #[.slice Ao6 y122.length co6,.int .i64 1,.int .i64 1,.int .i64 1] 33 (0,0)) (blk_up BK125.out) hb);have n4_:=Aside0.mk (below_step (by repeat (first|(with_reducible first|exact HB.out|apply below_alloc|apply pw_below_drewN|apply below_drew1|refine below_set ?_ GE125.out)|exact HB.out)) hb);clear HO124;clear HO128;clear BK125;clear HB;have HO124:=n0_;have HO128:=n1_;have HO131:=n2_;have BK125:=n3_;have HB:=n4_;clear n0_ n1_ n2_ n3_ n4_;clear hb ho12)|((with_reducible refine gate_dst (N:=14) rfl ?_);refine Kd.R_lit k44 _ 44 ?hg (N:=14) ?hd (xs:=([(⟨20,(⟨#[]⟩ : ByteArray)⟩ : S44)] : List (S44))) (inner:=[.int .i64 20,.string (⟨#[]⟩ : ByteArray)]) (ok:=fun _=>True) (okp:=fun _=>True) ?hr ?hp (fun _ hk=>hk) trivial (Below.refl _ _) (Nat.le_refl _) (by simp) ?_;(case hd=>rfl);(case hg=>rfl);(case hr=>first|(go_simp;done)|(go_simp;rfl));(case hp=>exact (Reps.c2 (show Kd.M k44 _ _ _ (⟨20,(⟨#[]⟩ : ByteArray)⟩ : S44) [.int .i64 20,.string (⟨#[]⟩ : ByteArray)] from (k44_mkM _ _ _ (⟨20,(⟨#[]⟩ : ByteArray)⟩ : S44) )) (Reps.none _ _)));intro v133 w13 ho14 hb hg_ hnew_;clear hg_ hnew_;(first|rw [← Ny132.out] at ho14|(simp only [Int.reduceToNat] at ho14;rw [← Ny132.out] at ho14));have n0_:=Aside0.mk (Kd.R_below (R_up HO124.out) hb);have n1_:=Aside0.mk (Kd.R_elder' (R_up HO128.out) (Kd.R_base ho14) hb);have n2_:=Aside0.mk (Kd.R_elder' (R_up HO131.out) (Kd.R_base ho14) hb);have n3_:=Aside0.mk (Kd.R_lower (Kd.R_new' (Kd.R_new' ho14 (Kd.R_lt (R_up HO128.out))) (Kd.R_lt (R_up HO131.out))) (below_size (by repeat (first|(with_reducible first|exact HB.out|apply below_alloc|apply pw_below_drewN|apply below_drew1|refine below_set ?_ GE125.out)|exact HB.out))));have n4_:=Aside0.mk (blk_below (g:=gb125) (o:=.cells #[.slice Ao6 y122.length co6,.int .i64 1,.int .i64 1,.int .i64 1] 33 (0,0)) (blk_up BK125.out) hb);have n5_:=Aside0.mk (below_step (by repeat (first|(with_reducible first|exact HB.out|apply below_alloc|apply pw_below_drewN|apply below_drew1|refine below_set ?_ GE125.out)|exact HB.out)) hb);clear HO124;clear HO128;clear HO131;clear BK125;clear HB;have HO124:=n0_;have HO128:=n1_;have HO131:=n2_;have HO134:=n3_;have BK125:=n4_;have HB:=n5_;clear n0_ n1_ n2_ n3_ n4_ n5_;clear hb ho14;obtain ⟨Ao15,co15,eo15⟩:=Kd.R_slice HO128.out;subst eo15;obtain ⟨Ao16,co16,eo16⟩:=Kd.R_slice HO131.out;subst eo16;obtain ⟨Ao17,co17,eo17⟩:=Kd.R_slice HO134.out;subst eo17)|((with_reducible refine gate_dst (N:=15) rfl ?_);refine Kd.N_lit (Kd.slice 44 k44) _ 27 ?hg (N':=15) ?hd (xs:=([y126,y129,y132] : List (List (S44)))) (inner:=[.slice Ao15 y126.length co15,.slice Ao16 y129.length co16,.slice Ao17 y132.length co17]) (ok:=(fun k_=>some k_≠(.slice Ao6 y122.length co6 : Value).ownBlock∧k_≠gb125)) (okp:=(fun k_=>some k_≠(.slice Ao6 y122.length co6 : Value).ownBlock∧k_≠gb125)) ?hr ?hp (fun _ hk=>hk) ((show ∀ k_,w13.heap.size≤k_→(fun k_=>some k_≠(.slice Ao6 y122.length co6 : Value).ownBlock∧k_≠gb125) k_ from fun k_ hk=>⟨Kd.fresh' (Kd.R_lt (R_up HO124.out)) k_ hk,Kd.freshB (g:=gb125) (o:=.cells #[.slice Ao6 y122.length co6,.int .i64 1,.int .i64 1,.int .i64 1] 33 (0,0)) (blk_up BK125.out) k_ hk⟩) _ (Nat.le_refl _)) (Below.refl _ _) (Nat.le_refl _) (by simp) ?_;(case hd=>rfl);(case hg=>rfl);(case hr=>first|(go_simp;done)|(go_simp;rfl));(case hp=>exact (Reps.one (show Kd.FK (Kd.slice 44 k44) _ _ y126 [.slice Ao15 y126.length co15] from (Kd.FK_slice_mk (Kd.R_reads' (Kd.R_mono (ok':=(fun k_=>some k_≠(.slice Ao6 y122.length co6 : Value).ownBlock∧k_≠gb125)) (Kd.R_types (Kd.R_apart' (HO128.out) (Kd.R_typed HO124.out) (by decide)) BK125.out (by decide)) (fun k_ hk=>⟨hk.1.2,hk.2⟩))).2.1 (Kd.R_F (Kd.R_mono (ok':=(fun k_=>some k_≠(.slice Ao6 y122.length co6 : Value).ownBlock∧k_≠gb125)) (Kd.R_types (Kd.R_apart' (HO128.out) (Kd.R_typed HO124.out) (by decide)) BK125.out (by decide)) (fun k_ hk=>⟨hk.1.2,hk.2⟩))))) (Reps.one (show Kd.FK (Kd.slice 44 k44) _ _ y129 [.slice Ao16 y129.length co16] from (Kd.FK_slice_mk (Kd.R_reads' (Kd.R_mono (ok':=(fun k_=>some k_≠(.slice Ao6 y122.length co6 : Value).ownBlock∧k_≠gb125)) (Kd.R_types (Kd.R_apart' (HO131.out) (Kd.R_typed HO124.out) (by decide)) BK125.out (by decide)) (fun k_ hk=>⟨hk.1.2,hk.2⟩))).2.1 (Kd.R_F (Kd.R_mono (ok':=(fun k_=>some k_≠(.slice Ao6 y122.length co6 : Value).ownBlock∧k_≠gb125)) (Kd.R_types (Kd.R_apart' (HO131.out) (Kd.R_typed HO124.out) (by decide)) BK125.out (by decide)) (fun k_ hk=>⟨hk.1.2,hk.2⟩))))) (Reps.one (show Kd.FK (Kd.slice 44 k44) _ _ y132 [.slice Ao17 y132.length co17] from (Kd.FK_slice_mk (Kd.R_reads' (Kd.R_mono (ok':=(fun k_=>some k_≠(.slice Ao6 y122.length co6 : Value).ownBlock∧k_≠gb125)) (Kd.R_types (Kd.R_apart' (HO134.out) (Kd.R_typed HO124.out) (by decide)) BK125.out (by decide)) (fun k_ hk=>⟨hk.1.2,hk.2⟩))).2.1 (Kd.R_F (Kd.R_mono (ok':=(fun k_=>some k_≠(.slice Ao6 y122.length co6 : Value).ownBlock∧k_≠gb125)) (Kd.R_types (Kd.R_apart' (HO134.out) (Kd.R_typed HO124.out) (by decide)) BK125.out (by decide)) (fun k_ hk=>⟨hk.1.2,hk.2⟩))))) (Reps.none _ _)))));intro v136 w18 ho19 hb hg_ hnew_;clear hg_ hnew_;(first|rw [← Ny135.out] at ho19|(simp only [Int.reduceToNat] at ho19;rw [← Ny135.out] at ho19));have n0_:=Aside0.mk (Kd.R_below (R_up HO124.out) hb);have n1_:=Aside0.mk (Kd.N_lower ho19 (below_size (by repeat (first|(with_reducible first|exact HB.out|apply below_alloc|apply pw_below_drewN|apply below_drew1|refine below_set ?_ GE125.out)|exact HB.out))));have n2_:=Aside0.mk (blk_below (g:=gb125) (o:=.cells #[.slice Ao6 y122.length co6,.int .i64 1,.int .i64 1,.int .i64 1] 33 (0,0)) (blk_up BK125.out) hb);have n3_:=Aside0.mk (below_step (by repeat (first|(with_reducible first|exact HB.out|apply below_alloc|apply pw_below_drewN|apply below_drew1|refine below_set ?_ GE125.out)|exact HB.out)) hb);clear HO124;clear BK125;clear HB;clear HO128;clear HO131;clear HO134;have HO124:=n0_;have HO137:=n1_;have BK125:=n2_;have HB:=n3_;clear n0_ n1_ n2_ n3_;clear hb ho19;have hcz20_0 : w18.cell? ⟨gb125,0,none⟩=some (.slice Ao6 y122.length co6):=(blk_cell BK125.out 0).trans rfl;have hcz20_1 : w18.cell? ⟨gb125,1,none⟩=some (.int .i64 1):=(blk_cell BK125.out 1).trans rfl;have hcz20_2 : w18.cell? ⟨gb125,2,none⟩=some (.int .i64 1):=(blk_cell BK125.out 2).trans rfl;have hcz20_3 : w18.cell? ⟨gb125,3,none⟩=some (.int .i64 1):=(blk_cell BK125.out 3).trans rfl;have hfz20_0:=blk_frozen BK125.out 0;have hfz20_1:=blk_frozen BK125.out 1;have hfz20_2:=blk_frozen BK125.out 2;have hfz20_3:=blk_frozen BK125.out 3)|((with_reducible refine gate_dst (N:=20) rfl ?_);refine Kd.R_lit k44 _ 44 ?hg (N:=20) ?hd (xs:=([(⟨12,(⟨#[]⟩ : ByteArray)⟩ : S44)] : List (S44))) (inner:=[.int .i64 12,.string (⟨#[]⟩ : ByteArray)]) (ok:=fun _=>True) (okp:=fun _=>True) ?hr ?hp (fun _ hk=>hk) trivial (Below.refl _ _) (Nat.le_refl _) (by simp) ?_;(case hd=>rfl);(case hg=>rfl);(case hr=>first|(go_simp;done)|(go_simp;rfl));(case hp=>exact (Reps.c2 (show Kd.M k44 _ _ _ (⟨12,(⟨#[]⟩ : ByteArray)⟩ : S44) [.int .i64 12,.string (⟨#[]⟩ : ByteArray)] from (k44_mkM _ _ _ (⟨12,(⟨#[]⟩ : ByteArray)⟩ : S44) )) (Reps.none _ _)));intro v139 w21 ho22 hb hg_ hnew_;clear hg_ hnew_;(first|rw [← Ny138.out] at ho22|(simp only [Int.reduceToNat] at ho22;rw [← Ny138.out] at ho22));have n0_:=Aside0.mk (Kd.R_below (R_up HO124.out) hb);have n1_:=Aside0.mk (Kd.N_elder' (N_up HO137.out) (Kd.R_base ho22) hb);have n2_:=Aside0.mk (Kd.R_lower ho22 (below_size (by repeat (first|(with_reducible first|exact HB.out|apply below_alloc|apply pw_below_drewN|apply below_drew1|refine below_set ?_ GE125.out)|exact HB.out))));have n3_:=Aside0.mk (blk_below (g:=gb125) (o:=.cells #[.slice Ao6 y122.length co6,.int .i64 1,.int .i64 1,.int .i64 1] 33 (0,0)) (blk_up BK125.out) hb);have n4_:=Aside0.mk (below_step (by repeat (first|(with_reducible first|exact HB.out|apply below_alloc|apply pw_below_drewN|apply below_drew1|refine below_set ?_ GE125.out)|exact HB.out)) hb);clear HO124;clear HO137;clear BK125;clear HB;have HO124:=n0_;have HO137:=n1_;have HO140:=n2_;have BK125:=n3_;have HB:=n4_;clear n0_ n1_ n2_ n3_ n4_;clear hb ho22)|((with_reducible refine gate_dst (N:=22) rfl ?_);refine Kd.R_lit k44 _ 44 ?hg (N:=22) ?hd (xs:=([(⟨15,(⟨#[]⟩ : ByteArray)⟩ : S44)] : List (S44))) (inner:=[.int .i64 15,.string (⟨#[]⟩ : ByteArray)]) (ok:=fun _=>True) (okp:=fun _=>True) ?hr ?hp (fun _ hk=>hk) trivial (Below.refl _ _) (Nat.le_refl _) (by simp) ?_;(case hd=>rfl);(case hg=>rfl);(case hr=>first|(go_simp;done)|(go_simp;rfl));(case hp=>exact (Reps.c2 (show Kd.M k44 _ _ _ (⟨15,(⟨#[]⟩ : ByteArray)⟩ : S44) [.int .i64 15,.string (⟨#[]⟩ : ByteArray)] from (k44_mkM _ _ _ (⟨15,(⟨#[]⟩ : ByteArray)⟩ : S44) )) (Reps.none _ _)));intro v142 w23 ho24 hb hg_ hnew_;clear hg_ hnew_;(first|rw [← Ny141.out] at ho24|(simp only [Int.reduceToNat] at ho24;rw [← Ny141.out] at ho24));have n0_:=Aside0.mk (Kd.R_below (R_up HO124.out) hb);have n1_:=Aside0.mk (Kd.N_elder' (N_up HO137.out) (Kd.R_base ho24) hb);have n2_:=Aside0.mk (Kd.R_elder' (R_up HO140.out) (Kd.R_base ho24) hb);have n3_:=Aside0.mk (Kd.R_lower (Kd.R_new' ho24 (Kd.R_lt (R_up HO140.out))) (below_size (by repeat (first|(with_reducible first|exact HB.out|apply below_alloc|apply pw_below_drewN|apply below_drew1|refine below_set ?_ GE125.out)|exact HB.out))));have n4_:=Aside0.mk (blk_below (g:=gb125) (o:=.cells #[.slice Ao6 y122.length co6,.int .i64 1,.int .i64 1,.int .i64 1] 33 (0,0)) (blk_up BK125.out) hb);have n5_:=Aside0.mk (below_step (by repeat (first|(with_reducible first|exact HB.out|apply below_alloc|apply pw_below_drewN|apply below_drew1|refine below_set ?_ GE125.out)|exact HB.out)) hb);clear HO124;clear HO137;clear HO140;clear BK125;clear HB;have HO124:=n0_;have HO137:=n1_;have HO140:=n2_;have HO143:=n3_;have BK125:=n4_;have HB:=n5_;clear n0_ n1_ n2_ n3_ n4_ n5_;clear hb ho24;obtain ⟨Ao25,co25,eo25⟩:=Kd.R_slice HO143.out;subst eo25;obtain ⟨Ao26,co26,eo26⟩:=Kd.R_slice HO140.out;subst eo26;obtain ⟨Ao27,co27,eo27⟩:=Kd.N_slice HO137.out;subst eo27)|((with_reducible refine gate_callee (f:=15) rfl ?_);refine goesL_ (some 24) rfl rfl Try.func15 (by kernel_rfl) rfl #[.agg #[.slice Ao6 y122.length co6,.int .i64 1,.int .i64 1,.int .i64 1],.slice Ao27 y135.length co27,.agg #[.bool true,.bool true,.slice Ao26 y138.length co26,.slice Ao25 y141.length co25]] rfl (by (try simp only [List.map_toArray,List.map_cons,List.map_nil]);first|done|rfl|(simp only [List.length_drop,List.length_take];rfl)) ?_;(with_reducible refine (index_Meets.calls k _ _ y122 1 1 1 _ _ y135 true true _ _ y138 _ _ y141 t144 t145 _ ?side1 ?side2 ?side3 ?side4 ?side5 ?side6 ?side7 ?side8 A1.out).mono ?_);(case side1=>repeat (first|exact (Kd.R_reads' HO124.out).2.2|(with_reducible refine Kd.C_alloc ?_ _)|(with_reducible refine Kd.C_drewN ?_ _)|(with_reducible refine Kd.C_drew ?_)));(case side2=>exact (Kd.R_reads' HO124.out).2.1);(case side3=>repeat (first|exact (Kd.N_reads' HO137.out).2.2|(with_reducible refine Kd.C_alloc ?_ _)|(with_reducible refine Kd.C_drewN ?_ _)|(with_reducible refine Kd.C_drew ?_)));(case side4=>exact (Kd.N_reads' HO137.out).2.1);(case side5=>repeat (first|exact (Kd.R_reads' HO140.out).2.2|(with_reducible refine Kd.C_alloc ?_ _)|(with_reducible refine Kd.C_drewN ?_ _)|(with_reducible refine Kd.C_drew ?_)));(case side6=>exact (Kd.R_reads' HO140.out).2.1);(case side7=>repeat (first|exact (Kd.R_reads' HO143.out).2.2|(with_reducible refine Kd.C_alloc ?_ _)|(with_reducible refine Kd.C_drewN ?_ _)|(with_reducible refine Kd.C_drew ?_)));(case side8=>exact (Kd.R_reads' HO143.out).2.1);rintro e w28 ⟨rfl,hb⟩;refine ⟨_,rfl,?_⟩;have n0_:=Aside0.mk (Kd.R_below (R_up HO124.out) hb);have n1_:=Aside0.mk (Kd.N_below (N_up HO137.out) hb);have n2_:=Aside0.mk (Kd.R_below (R_up HO140.out) hb);have n3_:=Aside0.mk (Kd.R_below (R_up HO143.out) hb);have n4_:=Aside0.mk (blk_below (g:=gb125) (o:=.cells #[.slice Ao6 y122.length co6,.int .i64 1,.int .i64 1,.int .i64 1] 33 (0,0)) (blk_up BK125.out) hb);have n5_:=Aside0.mk (below_step (by repeat (first|(with_reducible first|exact HB.out|apply below_alloc|apply pw_below_drewN|apply below_drew1|refine below_set ?_ GE125.out)|exact HB.out)) hb);clear HO124;clear HO137;clear HO140;clear HO143;clear BK125;clear HB;have HO124:=n0_;have HO137:=n1_;have HO140:=n2_;have HO143:=n3_;have BK125:=n4_;have HB:=n5_;clear n0_ n1_ n2_ n3_ n4_ n5_;(try clear hb);(try clear hb2);(try clear hk);(try clear hi);have hcz29_0 : w28.cell? ⟨gb125,0,none⟩=some (.slice Ao6 y122.length co6):=(blk_cell BK125.out 0).trans rfl;have hcz29_1 : w28.cell? ⟨gb125,1,none⟩=some (.int .i64 1):=(blk_cell BK125.out 1).trans rfl;have hcz29_2 : w28.cell? ⟨gb125,2,none⟩=some (.int .i64 1):=(blk_cell BK125.out 2).trans rfl;have hcz29_3 : w28.cell? ⟨gb125,3,none⟩=some (.int .i64 1):=(blk_cell BK125.out 3).trans rfl;have hfz29_0:=blk_frozen BK125.out 0;have hfz29_1:=blk_frozen BK125.out 1;have hfz29_2:=blk_frozen BK125.out 2;have hfz29_3:=blk_frozen BK125.out 3)|((with_reducible refine gate_dst (N:=31) rfl ?_);refine Kd.R_lit k44 _ 44 ?hg (N:=31) ?hd (xs:=([(⟨10,(⟨#[]⟩ : ByteArray)⟩ : S44)] : List (S44))) (inner:=[.int .i64 10,.string (⟨#[]⟩ : ByteArray)]) (ok:=fun _=>True) (okp:=fun _=>True) ?hr ?hp (fun _ hk=>hk) trivial (Below.refl _ _) (Nat.le_refl _) (by simp) ?_;(case hd=>rfl);(case hg=>rfl);(case hr=>first|(go_simp;done)|(go_simp;rfl));(case hp=>exact (Reps.c2 (show Kd.M k44 _ _ _ (⟨10,(⟨#[]⟩ : ByteArray)⟩ : S44) [.int .i64 10,.string (⟨#[]⟩ : ByteArray)] from (k44_mkM _ _ _ (⟨10,(⟨#[]⟩ : ByteArray)⟩ : S44) )) (Reps.none _ _)));intro v147 w30 ho31 hb hg_ hnew_;clear hg_ hnew_;(first|rw [← Ny146.out] at ho31|(simp only [Int.reduceToNat] at ho31;rw [← Ny146.out] at ho31));have n0_:=Aside0.mk (Kd.R_below (R_up HO124.out) hb);have n1_:=Aside0.mk (Kd.N_elder' (N_up HO137.out) (Kd.R_base ho31) hb);have n2_:=Aside0.mk (Kd.R_elder' (R_up HO140.out) (Kd.R_base ho31) hb);have n3_:=Aside0.mk (Kd.R_elder' (R_up HO143.out) (Kd.R_base ho31) hb);have n4_:=Aside0.mk (Kd.R_lower (Kd.R_new' (Kd.R_new' ho31 (Kd.R_lt (R_up HO140.out))) (Kd.R_lt (R_up HO143.out))) (below_size (by repeat (first|(with_reducible first|exact HB.out|apply below_alloc|apply pw_below_drewN|apply below_drew1|refine below_set ?_ GE125.out)|exact HB.out))));have n5_:=Aside0.mk (blk_below (g:=gb125) (o:=.cells #[.slice Ao6 y122.length co6,.int .i64 1,.int .i64 1,.int .i64 1] 33 (0,0)) (blk_up BK125.out) hb);have n6_:=Aside0.mk (below_step (by repeat (first|(with_reducible first|exact HB.out|apply below_alloc|apply pw_below_drewN|apply below_drew1|refine below_set ?_ GE125.out)|exact HB.out)) hb);clear HO124;clear HO137;clear HO140;clear HO143;clear BK125;clear HB;have HO124:=n0_;have HO137:=n1_;have HO140:=n2_;have HO143:=n3_;have HO148:=n4_;have BK125:=n5_;have HB:=n6_;clear n0_ n1_ n2_ n3_ n4_ n5_ n6_;clear hb ho31)|((with_reducible refine gate_dst (N:=33) rfl ?_);refine Kd.R_lit k44 _ 44 ?hg (N:=33) ?hd (xs:=([(⟨10,(⟨#[]⟩ : ByteArray)⟩ : S44)] : List (S44))) (inner:=[.int .i64 10,.string (⟨#[]⟩ : ByteArray)]) (ok:=fun _=>True) (okp:=fun _=>True) ?hr ?hp (fun _ hk=>hk) trivial (Below.refl _ _) (Nat.le_refl _) (by simp) ?_;(case hd=>rfl);(case hg=>rfl);(case hr=>first|(go_simp;done)|(go_simp;rfl));(case hp=>exact (Reps.c2 (show Kd.M k44 _ _ _ (⟨10,(⟨#[]⟩ : ByteArray)⟩ : S44) [.int .i64 10,.string (⟨#[]⟩ : ByteArray)] from (k44_mkM _ _ _ (⟨10,(⟨#[]⟩ : ByteArray)⟩ : S44) )) (Reps.none _ _)));intro v150 w32 ho33 hb hg_ hnew_;clear hg_ hnew_;(first|rw [← Ny149.out] at ho33|(simp only [Int.reduceToNat] at ho33;rw [← Ny149.out] at ho33));have n0_:=Aside0.mk (Kd.R_below (R_up HO124.out) hb);have n1_:=Aside0.mk (Kd.N_elder' (N_up HO137.out) (Kd.R_base ho33) hb);have n2_:=Aside0.mk (Kd.R_elder' (R_up HO140.out) (Kd.R_base ho33) hb);have n3_:=Aside0.mk (Kd.R_elder' (R_up HO143.out) (Kd.R_base ho33) hb);have n4_:=Aside0.mk (Kd.R_elder' (R_up HO148.out) (Kd.R_base ho33) hb);have n5_:=Aside0.mk (Kd.R_lower (Kd.R_new' (Kd.R_new' (Kd.R_new' ho33 (Kd.R_lt (R_up HO140.out))) (Kd.R_lt (R_up HO143.out))) (Kd.R_lt (R_up HO148.out))) (below_size (by repeat (first|(with_reducible first|exact HB.out|apply below_alloc|apply pw_below_drewN|apply below_drew1|refine below_set ?_ GE125.out)|exact HB.out))));have n6_:=Aside0.mk (blk_below (g:=gb125) (o:=.cells #[.slice Ao6 y122.length co6,.int .i64 1,.int .i64 1,.int .i64 1] 33 (0,0)) (blk_up BK125.out) hb);have n7_:=Aside0.mk (below_step (by repeat (first|(with_reducible first|exact HB.out|apply below_alloc|apply pw_below_drewN|apply below_drew1|refine below_set ?_ GE125.out)|exact HB.out)) hb);clear HO124;clear HO137;clear HO140;clear HO143;clear HO148;clear BK125;clear HB;have HO124:=n0_;have HO137:=n1_;have HO140:=n2_;have HO143:=n3_;have HO148:=n4_;have HO151:=n5_;have BK125:=n6_;have HB:=n7_;clear n0_ n1_ n2_ n3_ n4_ n5_ n6_ n7_;clear hb ho33;obtain ⟨Ao34,co34,eo34⟩:=Kd.R_slice HO151.out;subst eo34;obtain ⟨Ao35,co35,eo35⟩:=Kd.R_slice HO148.out;subst eo35)|((with_reducible refine gate_callee (f:=15) rfl ?_);refine goesL_ (some 35) rfl rfl Try.func15 (by kernel_rfl) rfl #[.agg #[.slice Ao6 y122.length co6,.int .i64 1,.int .i64 1,.int .i64 1],.slice Ao27 y135.length co27,.agg #[.bool true,.bool true,.slice Ao35 y146.length co35,.slice Ao34 y149.length co34]] rfl (by (try simp only [List.map_toArray,List.map_cons,List.map_nil]);first|done|rfl|(simp only [List.length_drop,List.length_take];rfl)) ?_;(with_reducible refine (index_Meets.calls k _ _ y122 1 1 1 _ _ y135 true true _ _ y146 _ _ y149 t152 t153 _ ?side1 ?side2 ?side3 ?side4 ?side5 ?side6 ?side7 ?side8 A2.out).mono ?_);(case side1=>repeat (first|exact (Kd.R_reads' HO124.out).2.2|(with_reducible refine Kd.C_alloc ?_ _)|(with_reducible refine Kd.C_drewN ?_ _)|(with_reducible refine Kd.C_drew ?_)));(case side2=>exact (Kd.R_reads' HO124.out).2.1);(case side3=>repeat (first|exact (Kd.N_reads' HO137.out).2.2|(with_reducible refine Kd.C_alloc ?_ _)|(with_reducible refine Kd.C_drewN ?_ _)|(with_reducible refine Kd.C_drew ?_)));(case side4=>exact (Kd.N_reads' HO137.out).2.1);(case side5=>repeat (first|exact (Kd.R_reads' HO148.out).2.2|(with_reducible refine Kd.C_alloc ?_ _)|(with_reducible refine Kd.C_drewN ?_ _)|(with_reducible refine Kd.C_drew ?_)));(case side6=>exact (Kd.R_reads' HO148.out).2.1);(case side7=>repeat (first|exact (Kd.R_reads' HO151.out).2.2|(with_reducible refine Kd.C_alloc ?_ _)|(with_reducible refine Kd.C_drewN ?_ _)|(with_reducible refine Kd.C_drew ?_)));(case side8=>exact (Kd.R_reads' HO151.out).2.1);rintro e w36 ⟨rfl,hb⟩;refine ⟨_,rfl,?_⟩;have n0_:=Aside0.mk (Kd.R_below (R_up HO124.out) hb);have n1_:=Aside0.mk (Kd.N_below (N_up HO137.out) hb);have n2_:=Aside0.mk (Kd.R_below (R_up HO140.out) hb);have n3_:=Aside0.mk (Kd.R_below (R_up HO143.out) hb);have n4_:=Aside0.mk (Kd.R_below (R_up HO148.out) hb);have n5_:=Aside0.mk (Kd.R_below (R_up HO151.out) hb);have n6_:=Aside0.mk (blk_below (g:=gb125) (o:=.cells #[.slice Ao6 y122.length co6,.int .i64 1,.int .i64 1,.int .i64 1] 33 (0,0)) (blk_up BK125.out) hb);have n7_:=Aside0.mk (below_step (by repeat (first|(with_reducible first|exact HB.out|apply below_alloc|apply pw_below_drewN|apply below_drew1|refine below_set ?_ GE125.out)|exact HB.out)) hb);clear HO124;clear HO137;clear HO140;clear HO143;clear HO148;clear HO151;clear BK125;clear HB;have HO124:=n0_;have HO137:=n1_;have HO140:=n2_;have HO143:=n3_;have HO148:=n4_;have HO151:=n5_;have BK125:=n6_;have HB:=n7_;clear n0_ n1_ n2_ n3_ n4_ n5_ n6_ n7_;(try clear hb);(try clear hb2);(try clear hk);(try clear hi)))
 (try simp only [Act.put,List.setIfInBounds_toArray,List.set_cons_zero,List.set_cons_succ])
 go_cut [0] (fun v0 wc=>∃ (kq : Nat) (x0_2 : Bool),v0=.bool x0_2∧Aside0 (thresherlaw12_shown.j0 kq x0_2=some r)∧Aside0 (kq≤k)∧Aside0 (Kd.R (Kd.int .i64) 3 wc w.heap.size (fun _=>True) (.slice Ao6 y122.length co6) y122)∧Aside0 (wc.heap[gb125]?=some (.cells #[(.slice Ao6 y122.length co6),.int .i64 1,.int .i64 1,.int .i64 1] 33 (0,0)))∧Aside0 (Below w.heap.size w wc))
 case first =>
  have H:=HC3.out
  clear HC3
  by_cases c37 : t144=1
  ·rw [if_pos c37] at H
   have c37b0 : (t144 == 1)=true:=beq_iff_eq.mpr c37
   have c37b1 : (t144 != 1)=false:=bne_eq_false_iff_eq.mpr c37
   clear c37
   (first|rw [c37b0]|(simp only [i64_w,i32_w];rw [c37b0])|skip)
   by_cases c38 : t145=2
   ·rw [if_pos c38] at H
    have c38b0 : (t145 == 2)=true:=beq_iff_eq.mpr c38
    have c38b1 : (t145 != 2)=false:=bne_eq_false_iff_eq.mpr c38
    clear c38
    by_cases c39 : t152=0
    ·rw [if_pos c39] at H
     have c39b0 : (t152 == 0)=true:=beq_iff_eq.mpr c39
     have c39b1 : (t152 != 0)=false:=bne_eq_false_iff_eq.mpr c39
     clear c39
     have H':=Aside0.mk H
     clear H
     go_wp2
     go_meet
     case rel=>exact ⟨_,((t153 == 2)),(by first|rfl|(simp;done)|(simp [*];done)),(by first|exact H'|(subst_vars;exact H')),⟨by first|omega|exact Nat.le_refl _⟩,⟨by (with_reducible repeat (first|apply Kd.R_alloc|apply Kd.R_drewN|apply Kd.R_drew));exact HO124.out⟩,⟨by (with_reducible repeat (first|refine blk_drewN ?_ _|refine blk_drew ?_|refine blk_alloc ?_ _));exact BK125.out⟩,⟨by repeat (first|(with_reducible first|exact HB.out|apply below_alloc|apply pw_below_drewN|apply below_drew1|refine below_set ?_ GE125.out)|exact HB.out)⟩⟩
    ·rw [if_neg c39] at H
     have c39b0 : (t152 == 0)=false:=beq_eq_false_iff_ne.mpr c39
     have c39b1 : (t152 != 0)=true:=bne_iff_ne.mpr c39
     have H':=Aside0.mk H
     clear H
     go_wp2
     go_meet
     case rel=>exact ⟨_,(false),(by first|rfl|(simp;done)|(simp [*];done)),(by first|exact H'|(subst_vars;exact H')),⟨by first|omega|exact Nat.le_refl _⟩,⟨by (with_reducible repeat (first|apply Kd.R_alloc|apply Kd.R_drewN|apply Kd.R_drew));exact HO124.out⟩,⟨by (with_reducible repeat (first|refine blk_drewN ?_ _|refine blk_drew ?_|refine blk_alloc ?_ _));exact BK125.out⟩,⟨by repeat (first|(with_reducible first|exact HB.out|apply below_alloc|apply pw_below_drewN|apply below_drew1|refine below_set ?_ GE125.out)|exact HB.out)⟩⟩
   ·rw [if_neg c38] at H
    have c38b0 : (t145 == 2)=false:=beq_eq_false_iff_ne.mpr c38
    have c38b1 : (t145 != 2)=true:=bne_iff_ne.mpr c38
    have H':=Aside0.mk H
    clear H
    go_wp2
    go_meet
    case rel=>exact ⟨_,(false),(by first|rfl|(simp;done)|(simp [*];done)),(by first|exact H'|(subst_vars;exact H')),⟨by first|omega|exact Nat.le_refl _⟩,⟨by (with_reducible repeat (first|apply Kd.R_alloc|apply Kd.R_drewN|apply Kd.R_drew));exact HO124.out⟩,⟨by (with_reducible repeat (first|refine blk_drewN ?_ _|refine blk_drew ?_|refine blk_alloc ?_ _));exact BK125.out⟩,⟨by repeat (first|(with_reducible first|exact HB.out|apply below_alloc|apply pw_below_drewN|apply below_drew1|refine below_set ?_ GE125.out)|exact HB.out)⟩⟩
  ·rw [if_neg c37] at H
   have c37b0 : (t144 == 1)=false:=beq_eq_false_iff_ne.mpr c37
   have c37b1 : (t144 != 1)=true:=bne_iff_ne.mpr c37
   (first|rw [c37b0]|(simp only [i64_w,i32_w];rw [c37b0])|skip)
   have H':=Aside0.mk H
   clear H
   go_wp2
   go_meet
   case rel=>exact ⟨_,(false),(by first|rfl|(simp;done)|(simp [*];done)),(by first|exact H'|(subst_vars;exact H')),⟨by first|omega|exact Nat.le_refl _⟩,⟨by (with_reducible repeat (first|apply Kd.R_alloc|apply Kd.R_drewN|apply Kd.R_drew));exact HO124.out⟩,⟨by (with_reducible repeat (first|refine blk_drewN ?_ _|refine blk_drew ?_|refine blk_alloc ?_ _));exact BK125.out⟩,⟨by repeat (first|(with_reducible first|exact HB.out|apply below_alloc|apply pw_below_drewN|apply below_drew1|refine below_set ?_ GE125.out)|exact HB.out)⟩⟩
 case rest =>
  clear HC3
  try clear c1
  try clear c2
  try clear p2
  try clear c3
  try clear c7
  try clear c15
  try clear c37
  try clear c37b0
  try clear c37b1
  try clear c38
  try clear c38b0
  try clear c38b1
  try clear c39
  try clear c39b0
  try clear c39b1
  try clear hcz20_0
  try clear hcz20_1
  try clear hcz20_2
  try clear hcz20_3
  try clear hcz29_0
  try clear hcz29_1
  try clear hcz29_2
  try clear hcz29_3
  try clear hcz8_0
  try clear hcz8_1
  try clear hcz8_2
  try clear hcz8_3
  try clear hfz20_0
  try clear hfz20_1
  try clear hfz20_2
  try clear hfz20_3
  try clear hfz29_0
  try clear hfz29_1
  try clear hfz29_2
  try clear hfz29_3
  try clear hfz8_0
  try clear hfz8_1
  try clear hfz8_2
  try clear hfz8_3
  obtain ⟨kq,x0_2,rfl,HA,HJ2,HO_126000,BK125,HB⟩:=hcut
  cases kq with
  | zero=>exact absurd HA.out (by simp [thresherlaw12_shown.j0])
  | succ kj2 =>
   have H:=HA.out
   clear HA
   simp only [thresherlaw12_shown.j0] at H
   obtain rfl:=Option.some.inj H
   go_wp2
   go_ret
   exact ⟨by first|rfl|(simp [errW_none,errW_some] <;> rfl)|(simp [*,errW_none,errW_some] <;> rfl),by repeat (first|(with_reducible first|exact HB.out|apply below_alloc|apply pw_below_drewN|apply below_drew1|refine below_set ?_ GE125.out)|exact HB.out)⟩
def thresherref04_Made.l0 : Nat→Int→Int→Int→Int→Int→Int→Int→Int→Int→Int→List Int→Int→Int→Int→Option (List Int × Int × Int × Int)
 | 0,_,_,_,_,_,_,_,_,_,_,_,_,_,_=>none
 | k + 1,x11,x13,x155000,x155001,x155002,x155003,x155004,x155005,x155006,x155007,x157000,x157001,x157002,x157003=>if x13 < x11 then (if 0≤x13 then (if x13 < 8 then (if x157000.length < 17592186044416 then (thresherref04_Made.l0 k x11 (wrap64 (x13 + 1)) x155000 x155001 x155002 x155003 x155004 x155005 x155006 x155007 (x157000 ++ [wrap64 (1 + (Int.tmod (wrap64 (rd [x155000,x155001,x155002,x155003,x155004,x155005,x155006,x155007] x13)) 3))]) x157001 x157002 x157003) else (none)) else (none)) else (none)) else (some (x157000,x157001,x157002,x157003))
def thresherref04_Made.f (k : Nat) (a0_0 : Int) (a0_1 : Int) (a0_2 : Int) (a0_3 : Int) (a0_4 : Int) (a0_5 : Int) (a0_6 : Int) (a0_7 : Int) (a1 : Int) (a2 : Int) (a3 : Int) (a4 : Int) : Option (List Int × Int × Int × Int):=if (wrap64 (1 + (Int.tmod (wrap64 (a1)) 8)))=0 then (none) else (thresherref04_Made.l0 k (wrap64 (1 + (Int.tmod (wrap64 (a1)) 8))) 0 a0_0 a0_1 a0_2 a0_3 a0_4 a0_5 a0_6 a0_7 ([] : List Int) (wrap64 (1 + (Int.tmod (wrap64 (a2)) (wrap64 (1 + (Int.tmod (wrap64 (a1)) 8)))))) (wrap64 (1 + (Int.tmod (wrap64 (a3)) 3))) (wrap64 (1 + (Int.tmod (wrap64 (a4)) 8))))
theorem thresherref04_Made.mono_l : ∀ k,(∀ y0 y1 y2 y3 y4 y5 y6 y7 y8 y9 y10 y11 y12 y13,LeO (thresherref04_Made.l0 k y0 y1 y2 y3 y4 y5 y6 y7 y8 y9 y10 y11 y12 y13) (thresherref04_Made.l0 (k + 1) y0 y1 y2 y3 y4 y5 y6 y7 y8 y9 y10 y11 y12 y13))
 | 0=>fun _ _ _ _ _ _ _ _ _ _ _ _ _ _ r h=>by simp [thresherref04_Made.l0] at h
 | k + 1=>by
  have ih0:=thresherref04_Made.mono_l k
  ·intro y0 y1 y2 y3 y4 y5 y6 y7 y8 y9 y10 y11 y12 y13
   unfold thresherref04_Made.l0
   repeat' first
   | (with_reducible exact ih0 _ _ _ _ _ _ _ _ _ _ _ _ _ _)
   | (with_reducible exact LeO.refl _)
   | (with_reducible exact LeO.none _)
   | (with_reducible refine LeO.ite ?_ ?_)
   | (with_reducible refine LeO.bind ?_ (fun _=>?_))
   | exact ih0 _ _ _ _ _ _ _ _ _ _ _ _ _ _
   | exact LeO.none _
   | refine LeO.ite ?_ ?_
   | refine LeO.bind ?_ (fun _=>?_)
theorem thresherref04_Made.mono : ∀ a0 a1 a2 a3 a4 a5 a6 a7 a8 a9 a10 a11 k,LeO (thresherref04_Made.f k a0 a1 a2 a3 a4 a5 a6 a7 a8 a9 a10 a11) (thresherref04_Made.f (k + 1) a0 a1 a2 a3 a4 a5 a6 a7 a8 a9 a10 a11):=by
 intro a0 a1 a2 a3 a4 a5 a6 a7 a8 a9 a10 a11 k
 have ih0:=thresherref04_Made.mono_l k
 unfold thresherref04_Made.f
 repeat' first
   | (with_reducible exact ih0 _ _ _ _ _ _ _ _ _ _ _ _ _ _)
   | (with_reducible exact LeO.refl _)
   | (with_reducible exact LeO.none _)
   | (with_reducible refine LeO.ite ?_ ?_)
   | (with_reducible refine LeO.bind ?_ (fun _=>?_))
   | exact ih0 _ _ _ _ _ _ _ _ _ _ _ _ _ _
   | exact LeO.none _
   | refine LeO.ite ?_ ?_
   | refine LeO.bind ?_ (fun _=>?_)
def thresherref04_Made.T6 : Bool × List (List Nat × List Nat):=(true,[([],[]),([0],[0]),([],[]),([2],[2]),([3],[3]),([4],[4]),([5],[5]),([6],[6]),([7],[7]),([1,8],[1,8]),([0,1,2,3,4,5,6,7,8,9],[]),([10,9,9,0,1,2,3,4,5,6,7,8,9],[9,10])])
def thresherref04_Made.B6 : List Nat:=[0,1,0,4,12,28,60,124,252,511,1023,2047]
theorem thresherref04_Made.tab6 : rtab .any (opsOf Try.f21 6)=thresherref04_Made.T6:=by kernel_rfl
theorem thresherref04_Made.bits6 : waitsOk thresherref04_Made.T6.2 thresherref04_Made.B6=true:=by kernel_rfl
set_option maxHeartbeats 8000000 in
set_option maxRecDepth 100000 in
theorem thresherref04_Made.calls (k : Nat) (a0_0 : Int) (a0_1 : Int) (a0_2 : Int) (a0_3 : Int) (a0_4 : Int) (a0_5 : Int) (a0_6 : Int) (a0_7 : Int) (a1 : Int) (a2 : Int) (a3 : Int) (a4 : Int) (r1 : List Int) (r2 : Int) (r3 : Int) (r4 : Int) (w : World) (h : thresherref04_Made.f k a0_0 a0_1 a0_2 a0_3 a0_4 a0_5 a0_6 a0_7 a1 a2 a3 a4=some (r1,r2,r3,r4)) :
  Calls Try.prog 21 #[.agg #[.int .u8 a0_0,.int .u8 a0_1,.int .u8 a0_2,.int .u8 a0_3,.int .u8 a0_4,.int .u8 a0_5,.int .u8 a0_6,.int .u8 a0_7],.int .u8 a1,.int .u8 a2,.int .u8 a3,.int .u8 a4] w fun e w'=>∃ v0_ : Value,e=.returned (.agg #[v0_,.int .i64 r2,.int .i64 r3,.int .i64 r4])∧Kd.R (Kd.int .i64) 3 w' w.heap.size (fun _=>True) v0_ r1∧Below w.heap.size w w':=by
 have hu22:=Try.underlying22
 have hu33:=Try.underlying33
 have HB:=Aside0.mk (Below.refl w.heap.size w)
 have H : (if (wrap64 (1 + (Int.tmod (wrap64 (a1)) 8)))=0 then (none) else (thresherref04_Made.l0 k (wrap64 (1 + (Int.tmod (wrap64 (a1)) 8))) 0 a0_0 a0_1 a0_2 a0_3 a0_4 a0_5 a0_6 a0_7 ([] : List Int) (wrap64 (1 + (Int.tmod (wrap64 (a2)) (wrap64 (1 + (Int.tmod (wrap64 (a1)) 8)))))) (wrap64 (1 + (Int.tmod (wrap64 (a3)) 3))) (wrap64 (1 + (Int.tmod (wrap64 (a4)) 8)))))=some (r1,r2,r3,r4):=h
 clear h
 by_cases c6 : (wrap64 (1 + (Int.tmod (wrap64 (a1)) 8)))=0
 ·rw [if_pos c6] at H
  exact absurd H (by simp)
 ·rw [if_neg c6] at H
  have c6b0 : ((wrap64 (1 + (Int.tmod (wrap64 (a1)) 8))) == 0)=false:=beq_eq_false_iff_ne.mpr c6
  have c6b1 : ((wrap64 (1 + (Int.tmod (wrap64 (a1)) 8))) != 0)=true:=bne_iff_ne.mpr c6
  have H':=Aside0.mk H
  clear H
  go_enter Try.func21,Try.ntmps21
  go_wp2_with (first|((with_reducible refine gate_dst (N:=5) rfl ?_);refine box_event ?hg (N:=5) ?hd (cs:=#[.int .u8 a0_0,.int .u8 a0_1,.int .u8 a0_2,.int .u8 a0_3,.int .u8 a0_4,.int .u8 a0_5,.int .u8 a0_6,.int .u8 a0_7]) (t:=22) ?hr ?_;(case hd=>rfl);(case hg=>rfl);(case hr=>first|(go_simp;done)|(go_simp;rfl));intro gb154 hg w7 hbox hb;have n0_:=Aside0.mk (below_step (below_up HB.out) hb);have n1_:=Aside0.mk (hbox);have n2_:=Aside0.mk ((by rw [hg];exact (below_size (below_up HB.out)) : w.heap.size≤gb154));have n3_:=Aside0.mk ((by rw [hg];exact (below_size (below_up HB.out)) : w.heap.size≤gb154));clear HB;have HB:=n0_;have BK154:=n1_;have GW154:=n2_;have GE154:=n3_;clear n0_ n1_ n2_ n3_;clear hb hbox hg)|((with_reducible refine gate_dst (N:=10) rfl ?_);refine box_event ?hg (N:=10) ?hd (cs:=#[.slice none 0 0,.int .i64 0,.int .i64 0,.int .i64 0]) (t:=33) ?hr ?_;(case hd=>rfl);(case hg=>rfl);(case hr=>first|(go_simp;done)|(go_simp;rfl));intro gb155 hg w8 hbox hb;have n0_:=Aside0.mk (blk_below (g:=gb154) (o:=.cells #[.int .u8 a0_0,.int .u8 a0_1,.int .u8 a0_2,.int .u8 a0_3,.int .u8 a0_4,.int .u8 a0_5,.int .u8 a0_6,.int .u8 a0_7] 22 (0,0)) (blk_up BK154.out) hb);have n1_:=Aside0.mk (below_step (by repeat (first|(with_reducible first|exact HB.out|apply below_alloc|apply pw_below_drewN|apply below_drew1|refine below_set ?_ GE154.out)|exact HB.out)) hb);have n2_:=Aside0.mk (hbox);have n3_:=Aside0.mk ((by rw [hg];exact (below_size (by repeat (first|(with_reducible first|exact HB.out|apply below_alloc|apply pw_below_drewN|apply below_drew1|refine below_set ?_ GE154.out)|exact HB.out))) : w.heap.size≤gb155));have n4_:=Aside0.mk ((by rw [hg];exact (below_size (by repeat (first|(with_reducible first|exact HB.out|apply below_alloc|apply pw_below_drewN|apply below_drew1|refine below_set ?_ GE154.out)|exact HB.out))) : w.heap.size≤gb155));have n5_:=Aside0.mk ((by rw [hg];exact Nat.ne_of_lt (blk_lt (g:=gb154) (o:=.cells #[.int .u8 a0_0,.int .u8 a0_1,.int .u8 a0_2,.int .u8 a0_3,.int .u8 a0_4,.int .u8 a0_5,.int .u8 a0_6,.int .u8 a0_7] 22 (0,0)) (blk_up BK154.out)) : gb154≠gb155));have n6_:=Aside0.mk ((by rw [hg];exact Nat.ne_of_gt (blk_lt (g:=gb154) (o:=.cells #[.int .u8 a0_0,.int .u8 a0_1,.int .u8 a0_2,.int .u8 a0_3,.int .u8 a0_4,.int .u8 a0_5,.int .u8 a0_6,.int .u8 a0_7] 22 (0,0)) (blk_up BK154.out)) : gb155≠gb154));clear BK154;clear HB;have BK154:=n0_;have HB:=n1_;have BK155:=n2_;have GW155:=n3_;have GE155:=n4_;have NB154_155:=n5_;have NB155_154:=n6_;clear n0_ n1_ n2_ n3_ n4_ n5_ n6_;clear hb hbox hg)|((with_reducible refine gate_dst (N:=12) rfl ?_);refine box_event ?hg (N:=12) ?hd (cs:=#[.slice none 0 0,.int .i64 0,.int .i64 0,.int .i64 0]) (t:=33) ?hr ?_;(case hd=>rfl);(case hg=>rfl);(case hr=>first|(go_simp;done)|(go_simp;rfl));intro gb156 hg w9 hbox hb;have n0_:=Aside0.mk (blk_below (g:=gb154) (o:=.cells #[.int .u8 a0_0,.int .u8 a0_1,.int .u8 a0_2,.int .u8 a0_3,.int .u8 a0_4,.int .u8 a0_5,.int .u8 a0_6,.int .u8 a0_7] 22 (0,0)) (blk_up BK154.out) hb);have n1_:=Aside0.mk (blk_below (g:=gb155) (o:=.cells #[.slice none 0 0,.int .i64 0,.int .i64 0,.int .i64 0] 33 (0,0)) (blk_up BK155.out) hb);have n2_:=Aside0.mk (below_step (by repeat (first|(with_reducible first|exact HB.out|apply below_alloc|apply pw_below_drewN|apply below_drew1|refine below_set ?_ GE154.out|refine below_set ?_ GE155.out)|exact HB.out)) hb);have n3_:=Aside0.mk (hbox);have n4_:=Aside0.mk ((by rw [hg];exact (below_size (by repeat (first|(with_reducible first|exact HB.out|apply below_alloc|apply pw_below_drewN|apply below_drew1|refine below_set ?_ GE154.out|refine below_set ?_ GE155.out)|exact HB.out))) : w.heap.size≤gb156));have n5_:=Aside0.mk ((by rw [hg];exact (below_size (by repeat (first|(with_reducible first|exact HB.out|apply below_alloc|apply pw_below_drewN|apply below_drew1|refine below_set ?_ GE154.out|refine below_set ?_ GE155.out)|exact HB.out))) : w.heap.size≤gb156));have n6_:=Aside0.mk ((by rw [hg];exact Nat.ne_of_lt (blk_lt (g:=gb154) (o:=.cells #[.int .u8 a0_0,.int .u8 a0_1,.int .u8 a0_2,.int .u8 a0_3,.int .u8 a0_4,.int .u8 a0_5,.int .u8 a0_6,.int .u8 a0_7] 22 (0,0)) (blk_up BK154.out)) : gb154≠gb156));have n7_:=Aside0.mk ((by rw [hg];exact Nat.ne_of_gt (blk_lt (g:=gb154) (o:=.cells #[.int .u8 a0_0,.int .u8 a0_1,.int .u8 a0_2,.int .u8 a0_3,.int .u8 a0_4,.int .u8 a0_5,.int .u8 a0_6,.int .u8 a0_7] 22 (0,0)) (blk_up BK154.out)) : gb156≠gb154));have n8_:=Aside0.mk ((by rw [hg];exact Nat.ne_of_lt (blk_lt (g:=gb155) (o:=.cells #[.slice none 0 0,.int .i64 0,.int .i64 0,.int .i64 0] 33 (0,0)) (blk_up BK155.out)) : gb155≠gb156));have n9_:=Aside0.mk ((by rw [hg];exact Nat.ne_of_gt (blk_lt (g:=gb155) (o:=.cells #[.slice none 0 0,.int .i64 0,.int .i64 0,.int .i64 0] 33 (0,0)) (blk_up BK155.out)) : gb156≠gb155));clear BK154;clear BK155;clear HB;have BK154:=n0_;have BK155:=n1_;have HB:=n2_;have BK156:=n3_;have GW156:=n4_;have GE156:=n5_;have NB154_156:=n6_;have NB156_154:=n7_;have NB155_156:=n8_;have NB156_155:=n9_;clear n0_ n1_ n2_ n3_ n4_ n5_ n6_ n7_ n8_ n9_;clear hb hbox hg;have hnb10:=NB156_154.out;have hnc10:=NB154_156.out;have hnb11:=NB156_155.out;have hnc11:=NB155_156.out;have hcz12_0 : w9.cell? ⟨gb156,0,none⟩=some (.slice none 0 0):=(blk_cell BK156.out 0).trans rfl;have hcz12_1 : w9.cell? ⟨gb156,1,none⟩=some (.int .i64 0):=(blk_cell BK156.out 1).trans rfl;have hcz12_2 : w9.cell? ⟨gb156,2,none⟩=some (.int .i64 0):=(blk_cell BK156.out 2).trans rfl;have hcz12_3 : w9.cell? ⟨gb156,3,none⟩=some (.int .i64 0):=(blk_cell BK156.out 3).trans rfl;have hfz12_0:=blk_frozen BK156.out 0;have hfz12_1:=blk_frozen BK156.out 1;have hfz12_2:=blk_frozen BK156.out 2;have hfz12_3:=blk_frozen BK156.out 3))
  go_loopg [13] k (fun kq v13 w'=>∃ (x13_1 : Int) (x157000_1 : List Int) (u157000 : Value),v13=.int .i64 x13_1∧Aside0 (thresherref04_Made.l0 kq (wrap64 (1 + (Int.tmod (wrap64 (a1)) 8))) x13_1 a0_0 a0_1 a0_2 a0_3 a0_4 a0_5 a0_6 a0_7 x157000_1 (wrap64 (1 + (Int.tmod (wrap64 (a2)) (wrap64 (1 + (Int.tmod (wrap64 (a1)) 8)))))) (wrap64 (1 + (Int.tmod (wrap64 (a3)) 3))) (wrap64 (1 + (Int.tmod (wrap64 (a4)) 8)))=some (r1,r2,r3,r4))∧Aside0 (kq≤k)∧Aside0 (Kd.R (Kd.int .i64) 3 w' w.heap.size (fun _=>True) u157000 x157000_1)∧Aside0 (w'.heap[gb154]?=some (.cells #[.int .u8 a0_0,.int .u8 a0_1,.int .u8 a0_2,.int .u8 a0_3,.int .u8 a0_4,.int .u8 a0_5,.int .u8 a0_6,.int .u8 a0_7] 22 (0,0)))∧Aside0 (w'.heap[gb155]?=some (.cells #[(.slice none 0 0),.int .i64 0,.int .i64 0,.int .i64 0] 33 (0,0)))∧Aside0 (w'.heap[gb156]?=some (.cells #[u157000,.int .i64 (wrap64 (1 + (Int.tmod (wrap64 (a2)) (wrap64 (1 + (Int.tmod (wrap64 (a1)) 8)))))),.int .i64 (wrap64 (1 + (Int.tmod (wrap64 (a3)) 3))),.int .i64 (wrap64 (1 + (Int.tmod (wrap64 (a4)) 8)))] 33 (0,0)))∧Aside0 (Below w.heap.size w w'))
  case atStart=>exact ⟨(0),(([] : List Int)),(.slice none 0 0),(by first|rfl|(simp;done)|(simp [*];done)),H',⟨Nat.le_refl _⟩,⟨by first|exact Kd.R_nil _ _ _ _ _|exact Kd.N_nil _ _ _ _ _|exact Kd.V_nil _ _ _ _ _|exact Kd.Q_nil _ _ _ _ _|exact Kd.S_nil _ _ _ _ _⟩,⟨by (with_reducible repeat (first|refine blk_drewN ?_ _|refine blk_drew ?_|refine blk_alloc ?_ _));refine blk_far ?_ NB154_156.out _;(with_reducible repeat (first|refine blk_drewN ?_ _|refine blk_drew ?_|refine blk_alloc ?_ _));refine blk_far ?_ NB154_156.out _;(with_reducible repeat (first|refine blk_drewN ?_ _|refine blk_drew ?_|refine blk_alloc ?_ _));refine blk_far ?_ NB154_156.out _;(with_reducible repeat (first|refine blk_drewN ?_ _|refine blk_drew ?_|refine blk_alloc ?_ _));refine blk_far ?_ NB154_156.out _;(with_reducible repeat (first|refine blk_drewN ?_ _|refine blk_drew ?_|refine blk_alloc ?_ _));exact BK154.out⟩,⟨by (with_reducible repeat (first|refine blk_drewN ?_ _|refine blk_drew ?_|refine blk_alloc ?_ _));refine blk_far ?_ NB155_156.out _;(with_reducible repeat (first|refine blk_drewN ?_ _|refine blk_drew ?_|refine blk_alloc ?_ _));refine blk_far ?_ NB155_156.out _;(with_reducible repeat (first|refine blk_drewN ?_ _|refine blk_drew ?_|refine blk_alloc ?_ _));refine blk_far ?_ NB155_156.out _;(with_reducible repeat (first|refine blk_drewN ?_ _|refine blk_drew ?_|refine blk_alloc ?_ _));refine blk_far ?_ NB155_156.out _;(with_reducible repeat (first|refine blk_drewN ?_ _|refine blk_drew ?_|refine blk_alloc ?_ _));exact BK155.out⟩,⟨by (with_reducible repeat (first|refine blk_drewN ?_ _|refine blk_drew ?_|refine blk_alloc ?_ _));refine blk_put (cs:=#[.slice none 0 0,.int .i64 (wrap64 (1 + (Int.tmod (wrap64 (a2)) (wrap64 (1 + (Int.tmod (wrap64 (a1)) 8)))))),.int .i64 (wrap64 (1 + (Int.tmod (wrap64 (a3)) 3))),.int .i64 0]) ?_ 3 _ rfl;(with_reducible repeat (first|refine blk_drewN ?_ _|refine blk_drew ?_|refine blk_alloc ?_ _));refine blk_put (cs:=#[.slice none 0 0,.int .i64 (wrap64 (1 + (Int.tmod (wrap64 (a2)) (wrap64 (1 + (Int.tmod (wrap64 (a1)) 8)))))),.int .i64 0,.int .i64 0]) ?_ 2 _ rfl;(with_reducible repeat (first|refine blk_drewN ?_ _|refine blk_drew ?_|refine blk_alloc ?_ _));refine blk_put (cs:=#[.slice none 0 0,.int .i64 0,.int .i64 0,.int .i64 0]) ?_ 1 _ rfl;(with_reducible repeat (first|refine blk_drewN ?_ _|refine blk_drew ?_|refine blk_alloc ?_ _));refine blk_put (cs:=#[.slice none 0 0,.int .i64 0,.int .i64 0,.int .i64 0]) ?_ 0 _ rfl;(with_reducible repeat (first|refine blk_drewN ?_ _|refine blk_drew ?_|refine blk_alloc ?_ _));exact BK156.out⟩,⟨by repeat (first|(with_reducible first|exact HB.out|apply below_alloc|apply pw_below_drewN|apply below_drew1|refine below_set ?_ GE154.out|refine below_set ?_ GE155.out|refine below_set ?_ GE156.out)|exact HB.out)⟩⟩
  case round =>
   clear H'
   try clear c1
   try clear c2
   try clear p2
   try clear c6
   try clear c6b0
   try clear c6b1
   try clear p6
   try clear c10
   try clear c11
   try clear hcz12_0
   try clear hcz12_1
   try clear hcz12_2
   try clear hcz12_3
   try clear hfz12_0
   try clear hfz12_1
   try clear hfz12_2
   try clear hfz12_3
   obtain ⟨x13_1,x157000_1,u157000,rfl,HA,HK1,HO_157000,BK154,BK155,BK156,HB⟩:=hrel
   cases gk with
   | zero=>exact absurd HA.out (by simp [thresherref04_Made.l0])
   | succ k1 =>
    have H:=HA.out
    clear HA
    simp only [thresherref04_Made.l0] at H
    by_cases c13 : x13_1 < (wrap64 (1 + (Int.tmod (wrap64 (a1)) 8)))
    ·rw [if_pos c13] at H
     have c13b0 : decide (x13_1 < (wrap64 (1 + (Int.tmod (wrap64 (a1)) 8))))=true:=decide_eq_true c13
     clear c13
     by_cases c14 : 0≤x13_1
     ·rw [if_pos c14] at H
      have c14b0 : decide (0≤x13_1)=true:=decide_eq_true c14
      clear c14
      by_cases c15 : x13_1 < 8
      ·rw [if_pos c15] at H
       have c15b0 : decide (x13_1 < 8)=true:=decide_eq_true c15
       clear c15
       have c16b0:=eq_true (of_decide_eq_true (by first|(with_reducible assumption)|assumption) : 0≤x13_1)
       have c17b0:=eq_true (of_decide_eq_true (by first|(with_reducible assumption)|assumption) : x13_1 < 8)
       by_cases c18 : x157000_1.length < 17592186044416
       ·rw [if_pos c18] at H
        have LMc18:=Aside0.mk c18
        clear c18
        obtain ⟨y157,hy157⟩ : ∃ y_ : List Int,y_=(x157000_1 ++ [wrap64 (1 + (Int.tmod (wrap64 (rd [a0_0,a0_1,a0_2,a0_3,a0_4,a0_5,a0_6,a0_7] x13_1)) 3))]):=⟨_,rfl⟩
        replace H : (thresherref04_Made.l0 k1 (wrap64 (1 + (Int.tmod (wrap64 (a1)) 8))) (wrap64 (x13_1 + 1)) a0_0 a0_1 a0_2 a0_3 a0_4 a0_5 a0_6 a0_7 y157 (wrap64 (1 + (Int.tmod (wrap64 (a2)) (wrap64 (1 + (Int.tmod (wrap64 (a1)) 8)))))) (wrap64 (1 + (Int.tmod (wrap64 (a3)) 3))) (wrap64 (1 + (Int.tmod (wrap64 (a4)) 8))))=some (r1,r2,r3,r4):=by first|(rw [hy157];with_reducible exact H)|(have H2_:=(Option.bind_some _ _).symm.trans H;rw [hy157];with_reducible exact H2_)|(have H2_:=(Option.bind_some _ _).symm.trans H;with_reducible exact H2_)|with_reducible exact H|(rw [hy157];exact H)|exact H
        have Ny157:=Aside0.mk hy157
        clear hy157
        have H':=Aside0.mk H
        clear H
        try go_wp2
        have n0_:=Aside0.mk (Kd.R_drew HO_157000.out)
        have n1_:=Aside0.mk (blk_drew BK154.out)
        have n2_:=Aside0.mk (blk_drew BK155.out)
        have n3_:=Aside0.mk (blk_drew BK156.out)
        have n4_:=Aside0.mk (below_drew1 HB.out)
        clear HO_157000
        clear BK154
        clear BK155
        clear BK156
        clear HB
        have HO_157000:=n0_
        have BK154:=n1_
        have BK155:=n2_
        have BK156:=n3_
        have HB:=n4_
        clear n0_ n1_ n2_ n3_ n4_
        refine start_ (n:=12) (S:=fun w'=>w'.cell? ⟨gb156,0,none⟩=some (u157000)∧w'.cell? ⟨gb156,1,none⟩=some (.int .i64 (wrap64 (1 + (Int.tmod (wrap64 (a2)) (wrap64 (1 + (Int.tmod (wrap64 (a1)) 8)))))))∧w'.cell? ⟨gb156,2,none⟩=some (.int .i64 (wrap64 (1 + (Int.tmod (wrap64 (a3)) 3))))∧w'.cell? ⟨gb156,3,none⟩=some (.int .i64 (wrap64 (1 + (Int.tmod (wrap64 (a4)) 8))))∧w'.cell? ⟨gb154,0,none⟩=some (.int .u8 a0_0)∧w'.cell? ⟨gb154,1,none⟩=some (.int .u8 a0_1)∧w'.cell? ⟨gb154,2,none⟩=some (.int .u8 a0_2)∧w'.cell? ⟨gb154,3,none⟩=some (.int .u8 a0_3)∧w'.cell? ⟨gb154,4,none⟩=some (.int .u8 a0_4)∧w'.cell? ⟨gb154,5,none⟩=some (.int .u8 a0_5)∧w'.cell? ⟨gb154,6,none⟩=some (.int .u8 a0_6)∧w'.cell? ⟨gb154,7,none⟩=some (.int .u8 a0_7)∧w'.cell? ⟨gb154,x13_1.toNat,none⟩=some (.int .u8 (rd [a0_0,a0_1,a0_2,a0_3,a0_4,a0_5,a0_6,a0_7] x13_1))) (ds:=[11]) #[false,false,false,false,false,false,false,false,false,false,false,false] (by kernel_rfl) rfl rfl ⟨(blk_cell BK156.out 0).trans rfl,(blk_cell BK156.out 1).trans rfl,(blk_cell BK156.out 2).trans rfl,(blk_cell BK156.out 3).trans rfl,(blk_cell BK154.out 0).trans rfl,(blk_cell BK154.out 1).trans rfl,(blk_cell BK154.out 2).trans rfl,(blk_cell BK154.out 3).trans rfl,(blk_cell BK154.out 4).trans rfl,(blk_cell BK154.out 5).trans rfl,(blk_cell BK154.out 6).trans rfl,(blk_cell BK154.out 7).trans rfl,(blk_cell BK154.out x13_1.toNat).trans (cells_rd .u8 [a0_0,a0_1,a0_2,a0_3,a0_4,a0_5,a0_6,a0_7] x13_1 (of_decide_eq_true (by first|(with_reducible assumption)|assumption)) (of_decide_eq_true (by first|(with_reducible assumption)|assumption)))⟩ (fun hHeld=>?_);refine with_tabW thresherref04_Made.tab6 thresherref04_Made.bits6 (fun HT_ HW_=>?_)
        generalize wr.drew=w19 at HO_157000 BK154 BK155 BK156 HB hHeld ⊢
        refine pure_ (i:=0) (N:=some 37) (v:=?_) (a':=?_) #[true,false,false,false,false,false,false,false,false,false,false,false] rfl rfl (any_of HT_.out (by kernel_rfl)) (fun _ _ _ h=>h) (Or.inl ⟨by rfl,?_⟩) ?_ ?_
        rotate_left;(intro w';go_simp;with_reducible rfl);rotate_left;(simp only [Act.put,List.setIfInBounds_toArray,List.set_cons_zero,List.set_cons_succ,i64_w,i32_w];rfl)
        refine pure_ (i:=2) (N:=some 39) (v:=?_) (a':=?_) #[true,false,true,false,false,false,false,false,false,false,false,false] rfl rfl (any_of HT_.out (by kernel_rfl)) (fun _ _ _ h=>h) (Or.inl ⟨by rfl,?_⟩) ?_ ?_
        rotate_left;(intro w';go_simp;with_reducible rfl);rotate_left;(simp only [Act.put,List.setIfInBounds_toArray,List.set_cons_zero,List.set_cons_succ,i64_w,i32_w];rfl)
        refine pure_ (i:=3) (N:=some 40) (v:=?_) (a':=?_) #[true,false,true,true,false,false,false,false,false,false,false,false] rfl rfl (any_of HT_.out (by kernel_rfl)) (fun _ _ _ h=>h) (Or.inl ⟨by rfl,?_⟩) ?_ ?_
        rotate_left;(intro w';go_simp;with_reducible rfl);rotate_left;(simp only [Act.put,List.setIfInBounds_toArray,List.set_cons_zero,List.set_cons_succ,i64_w,i32_w];rfl)
        refine take_ (i:=1) (N:=some 38) (v:=?_) (a':=?_) #[true,true,true,true,false,false,false,false,false,false,false,false] rfl rfl (take_ofW HT_.out HW_.out (by kernel_rfl)) (fun _ _ _ h=>h) (Or.inl ⟨by rfl,?_⟩) hHeld ?_ ?_
        rotate_left;(rintro w' ⟨s0,s1,s2,s3,s4,s5,s6,s7,s8,s9,s10,s11,s12⟩;go_simp;with_reducible rfl);rotate_left;(simp only [Act.put,List.setIfInBounds_toArray,List.set_cons_zero,List.set_cons_succ,i64_w,i32_w];rfl)
        refine take_ (i:=4) (N:=some 41) (v:=?_) (a':=?_) #[true,true,true,true,true,false,false,false,false,false,false,false] rfl rfl (take_ofW HT_.out HW_.out (by kernel_rfl)) (fun _ _ _ h=>h) (Or.inl ⟨by rfl,?_⟩) hHeld ?_ ?_
        rotate_left;(rintro w' ⟨s0,s1,s2,s3,s4,s5,s6,s7,s8,s9,s10,s11,s12⟩;go_simp;with_reducible rfl);rotate_left;(simp only [Act.put,List.setIfInBounds_toArray,List.set_cons_zero,List.set_cons_succ,i64_w,i32_w];rfl)
        refine pure_ (i:=5) (N:=some 42) (v:=?_) (a':=?_) #[true,true,true,true,true,true,false,false,false,false,false,false] rfl rfl (any_of HT_.out (by kernel_rfl)) (fun _ _ _ h=>h) (Or.inl ⟨by rfl,?_⟩) ?_ ?_
        rotate_left;(intro w';go_simp;with_reducible rfl);rotate_left;(simp only [Act.put,List.setIfInBounds_toArray,List.set_cons_zero,List.set_cons_succ,i64_w,i32_w];rfl)
        refine pure_ (i:=6) (N:=some 43) (v:=?_) (a':=?_) #[true,true,true,true,true,true,true,false,false,false,false,false] rfl rfl (any_of HT_.out (by kernel_rfl)) (fun _ _ _ h=>h) (Or.inl ⟨by rfl,?_⟩) ?_ ?_
        rotate_left;(intro w';go_simp;with_reducible rfl);rotate_left;(simp only [Act.put,List.setIfInBounds_toArray,List.set_cons_zero,List.set_cons_succ,i64_w,i32_w];rfl)
        refine pure_ (i:=7) (N:=some 44) (v:=?_) (a':=?_) #[true,true,true,true,true,true,true,true,false,false,false,false] rfl rfl (any_of HT_.out (by kernel_rfl)) (fun _ _ _ h=>h) (Or.inl ⟨by rfl,?_⟩) ?_ ?_
        rotate_left;(intro w';go_simp;with_reducible rfl);rotate_left;(simp only [Act.put,List.setIfInBounds_toArray,List.set_cons_zero,List.set_cons_succ,i64_w,i32_w];rfl)
        refine one_ (i:=8) (N:=some 45) #[true,true,true,true,true,true,true,true,true,false,false,false] rfl rfl (one_of HT_.out (by kernel_rfl)) (by decide) (fun K hK=>?_)
        refine value_ (w1:=?_) (v:=?_) (by rfl) rfl ?_ ?_
        rotate_left 2
        ·go_simp
         constructor
         ·rfl
         ·rfl
        refine hK.out _ _ ⟨(blk_cell (blk_alloc BK156.out _) 0).trans rfl,(blk_cell (blk_alloc BK156.out _) 1).trans rfl,(blk_cell (blk_alloc BK156.out _) 2).trans rfl,(blk_cell (blk_alloc BK156.out _) 3).trans rfl,(blk_cell (blk_alloc BK154.out _) 0).trans rfl,(blk_cell (blk_alloc BK154.out _) 1).trans rfl,(blk_cell (blk_alloc BK154.out _) 2).trans rfl,(blk_cell (blk_alloc BK154.out _) 3).trans rfl,(blk_cell (blk_alloc BK154.out _) 4).trans rfl,(blk_cell (blk_alloc BK154.out _) 5).trans rfl,(blk_cell (blk_alloc BK154.out _) 6).trans rfl,(blk_cell (blk_alloc BK154.out _) 7).trans rfl,(blk_cell (blk_alloc BK154.out _) x13_1.toNat).trans (cells_rd .u8 [a0_0,a0_1,a0_2,a0_3,a0_4,a0_5,a0_6,a0_7] x13_1 (of_decide_eq_true (by first|(with_reducible assumption)|assumption)) (of_decide_eq_true (by first|(with_reducible assumption)|assumption)))⟩ (fun hHeld=>?_)
        clear hK K
        refine norm_ (a':=?_) ?_ ?_
        rotate_left
        ·show Act.put _ (some 45) _=_
         simp only [Act.put,List.setIfInBounds_toArray,List.set_cons_zero,List.set_cons_succ,i64_w,i32_w]
         rfl
        refine one_ (i:=9) (N:=some 46) #[true,true,true,true,true,true,true,true,true,true,false,false] rfl rfl (one_of HT_.out (by kernel_rfl)) (by decide) (fun K hK=>?_)
        refine Kd.R_append_step (Kd.int .i64) (w0:=w) w.heap.size (by rfl) (.tmp 38) (.tmp 45) 31 3 (.int .i64 0) 8 rfl Try.underlying31 info3 rfl (by decide) (by omega) u157000 x157000_1 (wrap64 (1 + (Int.tmod (wrap64 (rd [a0_0,a0_1,a0_2,a0_3,a0_4,a0_5,a0_6,a0_7] x13_1)) 3))) [.int .i64 (wrap64 (1 + (Int.tmod (wrap64 (rd [a0_0,a0_1,a0_2,a0_3,a0_4,a0_5,a0_6,a0_7] x13_1)) 3)))] (fun _=>True) (fun _=>False) rfl rfl ?aP (fun _ hk=>hk.elim) ?aF ?aO ?aB ?aS ?aL ?_
        (case aP=>exact rfl)
        (case aB=>exact (by repeat (first|(with_reducible first|exact HB.out|apply below_alloc|apply pw_below_drewN|apply below_drew1|refine below_set ?_ GE154.out|refine below_set ?_ GE155.out|refine below_set ?_ GE156.out)|exact HB.out)))
        (case aF=>exact (fun _ _=>trivial))
        (case aO=>exact (R_up HO_157000.out))
        (case aS=>exact (below_size (by repeat (first|(with_reducible first|exact HB.out|apply below_alloc|apply pw_below_drewN|apply below_drew1|refine below_set ?_ GE154.out|refine below_set ?_ GE155.out|refine below_set ?_ GE156.out)|exact HB.out))))
        (case aL=>have:=LMc18.out;omega)
        intro v158 w20 ho hb hg hat
        rw [← Ny157.out] at ho
        have n0_:=Aside0.mk (blk_grown (g:=gb154) (o:=.cells #[.int .u8 a0_0,.int .u8 a0_1,.int .u8 a0_2,.int .u8 a0_3,.int .u8 a0_4,.int .u8 a0_5,.int .u8 a0_6,.int .u8 a0_7] 22 (0,0)) (blk_up BK154.out) hg (Kd.R_ne HO_157000.out BK154.out (by decide)))
        have n1_:=Aside0.mk (blk_grown (g:=gb155) (o:=.cells #[.slice none 0 0,.int .i64 0,.int .i64 0,.int .i64 0] 33 (0,0)) (blk_up BK155.out) hg (Kd.R_ne HO_157000.out BK155.out (by decide)))
        have n2_:=Aside0.mk (blk_grown (g:=gb156) (o:=.cells #[u157000,.int .i64 (wrap64 (1 + (Int.tmod (wrap64 (a2)) (wrap64 (1 + (Int.tmod (wrap64 (a1)) 8)))))),.int .i64 (wrap64 (1 + (Int.tmod (wrap64 (a3)) 3))),.int .i64 (wrap64 (1 + (Int.tmod (wrap64 (a4)) 8)))] 33 (0,0)) (blk_up BK156.out) hg (Kd.R_ne HO_157000.out BK156.out (by decide)))
        have n3_:=Aside0.mk (hb)
        have n4_:=Aside0.mk (ho)
        clear BK154
        clear BK155
        clear BK156
        clear HB
        clear HO_157000
        have BK154:=n0_
        have BK155:=n1_
        have BK156:=n2_
        have HB:=n3_
        have HO159:=n4_
        clear n0_ n1_ n2_ n3_ n4_
        clear ho hb hg hat
        obtain ⟨Ao21,co21,eo21⟩:=Kd.R_slice HO159.out
        (first|subst eo21|(injection eo21 with f1_ f2_ f3_;have f4_:=f1_.symm;have f5_:=f3_.symm;clear f1_ f2_ f3_;subst f4_;subst f5_))
        refine hK.out _ _ ⟨(blk_cell BK156.out 0).trans rfl,(blk_cell BK156.out 1).trans rfl,(blk_cell BK156.out 2).trans rfl,(blk_cell BK156.out 3).trans rfl,(blk_cell BK154.out 0).trans rfl,(blk_cell BK154.out 1).trans rfl,(blk_cell BK154.out 2).trans rfl,(blk_cell BK154.out 3).trans rfl,(blk_cell BK154.out 4).trans rfl,(blk_cell BK154.out 5).trans rfl,(blk_cell BK154.out 6).trans rfl,(blk_cell BK154.out 7).trans rfl,(blk_cell BK154.out x13_1.toNat).trans (cells_rd .u8 [a0_0,a0_1,a0_2,a0_3,a0_4,a0_5,a0_6,a0_7] x13_1 (of_decide_eq_true (by first|(with_reducible assumption)|assumption)) (of_decide_eq_true (by first|(with_reducible assumption)|assumption)))⟩ (fun hHeld=>?_)
        clear hK K
        refine norm_ (a':=?_) ?_ ?_
        rotate_left
        ·show Act.put _ (some 46) _=_
         simp only [Act.put,List.setIfInBounds_toArray,List.set_cons_zero,List.set_cons_succ,i64_w,i32_w]
         rfl
        refine pure_ (i:=10) (N:=some 47) (v:=?_) (a':=?_) #[true,true,true,true,true,true,true,true,true,true,true,false] rfl rfl (any_of HT_.out (by kernel_rfl)) (fun _ _ _ h=>h) (Or.inl ⟨by rfl,?_⟩) ?_ ?_
        rotate_left;(intro w';go_simp;with_reducible rfl);rotate_left;(simp only [Act.put,List.setIfInBounds_toArray,List.set_cons_zero,List.set_cons_succ,i64_w,i32_w];rfl)
        refine last_ (i:=11) (N:=none) #[true,true,true,true,true,true,true,true,true,true,true,true] rfl rfl (one_of HT_.out (by kernel_rfl)) (by decide) (fun K hK=>?_)
        have hs22 : w20.cell? ⟨gb156,0,none⟩=some (u157000):=(blk_cell BK156.out 0).trans rfl
        have hfs22:=blk_frozen BK156.out 0
        have hns22_0:=NB154_156.out
        have hns22_1:=NB155_156.out
        have hms22_0:=NB156_154.out
        have hms22_1:=NB156_155.out
        refine skip_ (w1:=?_) (by rfl) rfl ?_ ?_
        rotate_left
        ·go_simp
         rfl
        refine hK.out _ _ ?_
        clear hK K
        refine done_ (done_of HT_.out (by kernel_rfl)) ?_
        (try clear hHeld)
        try go_wp2
        go_roundg k1
        case measure=>have:=HK1.out;omega
        case rel=>exact ⟨(wrap64 (x13_1 + 1)),(y157),(.slice Ao21 y157.length co21),(by first|rfl|(simp;done)|(simp [*];done)),(by first|exact H'|(subst_vars;exact H')),⟨by have:=HK1.out;omega⟩,⟨by (with_reducible repeat (first|apply Kd.R_alloc|apply Kd.R_drewN|apply Kd.R_drew));exact Kd.R_mono (Kd.R_far (p:=⟨gb156,0,none⟩) (Kd.R_types HO159.out BK156.out (by decide)) (fun _ hk=>hk.2) (.slice Ao21 y157.length co21)) (fun _ hk=>trivial)⟩,⟨by (with_reducible repeat (first|refine blk_drewN ?_ _|refine blk_drew ?_|refine blk_alloc ?_ _));refine blk_far ?_ NB154_156.out _;(with_reducible repeat (first|refine blk_drewN ?_ _|refine blk_drew ?_|refine blk_alloc ?_ _));exact BK154.out⟩,⟨by (with_reducible repeat (first|refine blk_drewN ?_ _|refine blk_drew ?_|refine blk_alloc ?_ _));refine blk_far ?_ NB155_156.out _;(with_reducible repeat (first|refine blk_drewN ?_ _|refine blk_drew ?_|refine blk_alloc ?_ _));exact BK155.out⟩,⟨by (with_reducible repeat (first|refine blk_drewN ?_ _|refine blk_drew ?_|refine blk_alloc ?_ _));refine blk_put (cs:=#[u157000,.int .i64 (wrap64 (1 + (Int.tmod (wrap64 (a2)) (wrap64 (1 + (Int.tmod (wrap64 (a1)) 8)))))),.int .i64 (wrap64 (1 + (Int.tmod (wrap64 (a3)) 3))),.int .i64 (wrap64 (1 + (Int.tmod (wrap64 (a4)) 8)))]) ?_ 0 _ rfl;(with_reducible repeat (first|refine blk_drewN ?_ _|refine blk_drew ?_|refine blk_alloc ?_ _));exact BK156.out⟩,⟨by repeat (first|(with_reducible first|exact HB.out|apply below_alloc|apply pw_below_drewN|apply below_drew1|refine below_set ?_ GE154.out|refine below_set ?_ GE155.out|refine below_set ?_ GE156.out)|exact HB.out)⟩⟩
       ·rw [if_neg c18] at H
        exact absurd H (by simp)
      ·rw [if_neg c15] at H
       exact absurd H (by simp)
     ·rw [if_neg c14] at H
      exact absurd H (by simp)
    ·rw [if_neg c13] at H
     have c13b0 : decide (x13_1 < (wrap64 (1 + (Int.tmod (wrap64 (a1)) 8))))=false:=decide_eq_false c13
     clear c13
     simp only [Option.some.injEq,Prod.mk.injEq] at H
     obtain ⟨rfl,rfl,rfl,rfl⟩:=H
     have hnb23:=NB156_154.out
     have hnc23:=NB154_156.out
     have hnb24:=NB156_155.out
     have hnc24:=NB155_156.out
     have hcz25_0 : wr.cell? ⟨gb156,0,none⟩=some (u157000):=(blk_cell BK156.out 0).trans rfl
     have hcz25_1 : wr.cell? ⟨gb156,1,none⟩=some (.int .i64 (wrap64 (1 + (Int.tmod (wrap64 (a2)) (wrap64 (1 + (Int.tmod (wrap64 (a1)) 8))))))):=(blk_cell BK156.out 1).trans rfl
     have hcz25_2 : wr.cell? ⟨gb156,2,none⟩=some (.int .i64 (wrap64 (1 + (Int.tmod (wrap64 (a3)) 3)))):=(blk_cell BK156.out 2).trans rfl
     have hcz25_3 : wr.cell? ⟨gb156,3,none⟩=some (.int .i64 (wrap64 (1 + (Int.tmod (wrap64 (a4)) 8)))):=(blk_cell BK156.out 3).trans rfl
     have hfz25_0:=blk_frozen BK156.out 0
     have hfz25_1:=blk_frozen BK156.out 1
     have hfz25_2:=blk_frozen BK156.out 2
     have hfz25_3:=blk_frozen BK156.out 3
     obtain ⟨Ao26,co26,eo26⟩:=Kd.R_slice HO_157000.out
     subst eo26
     have hnb27:=NB155_154.out
     have hnc27:=NB154_155.out
     have hcz28_0 : wr.cell? ⟨gb155,0,none⟩=some (.slice none 0 0):=(blk_cell BK155.out 0).trans rfl
     have hcz28_1 : wr.cell? ⟨gb155,1,none⟩=some (.int .i64 0):=(blk_cell BK155.out 1).trans rfl
     have hcz28_2 : wr.cell? ⟨gb155,2,none⟩=some (.int .i64 0):=(blk_cell BK155.out 2).trans rfl
     have hcz28_3 : wr.cell? ⟨gb155,3,none⟩=some (.int .i64 0):=(blk_cell BK155.out 3).trans rfl
     have hfz28_0:=blk_frozen BK155.out 0
     have hfz28_1:=blk_frozen BK155.out 1
     have hfz28_2:=blk_frozen BK155.out 2
     have hfz28_3:=blk_frozen BK155.out 3
     go_wp2
     refine bodyPost_ret (results_cell_row rfl _ _ gb155 33 #[.slice Ao26 x157000_1.length co26,.int .i64 (wrap64 (1 + (Int.tmod (wrap64 (a2)) (wrap64 (1 + (Int.tmod (wrap64 (a1)) 8)))))),.int .i64 (wrap64 (1 + (Int.tmod (wrap64 (a3)) 3))),.int .i64 (wrap64 (1 + (Int.tmod (wrap64 (a4)) 8)))] (0,0) _ rfl (by (with_reducible repeat (first|refine blk_drewN ?_ _|refine blk_drew ?_|refine blk_alloc ?_ _));refine blk_put (cs:=#[.slice Ao26 x157000_1.length co26,.int .i64 (wrap64 (1 + (Int.tmod (wrap64 (a2)) (wrap64 (1 + (Int.tmod (wrap64 (a1)) 8)))))),.int .i64 (wrap64 (1 + (Int.tmod (wrap64 (a3)) 3))),.int .i64 0]) ?_ 3 _ rfl;(with_reducible repeat (first|refine blk_drewN ?_ _|refine blk_drew ?_|refine blk_alloc ?_ _));refine blk_put (cs:=#[.slice Ao26 x157000_1.length co26,.int .i64 (wrap64 (1 + (Int.tmod (wrap64 (a2)) (wrap64 (1 + (Int.tmod (wrap64 (a1)) 8)))))),.int .i64 0,.int .i64 0]) ?_ 2 _ rfl;(with_reducible repeat (first|refine blk_drewN ?_ _|refine blk_drew ?_|refine blk_alloc ?_ _));refine blk_put (cs:=#[.slice Ao26 x157000_1.length co26,.int .i64 0,.int .i64 0,.int .i64 0]) ?_ 1 _ rfl;(with_reducible repeat (first|refine blk_drewN ?_ _|refine blk_drew ?_|refine blk_alloc ?_ _));refine blk_put (cs:=#[.slice none 0 0,.int .i64 0,.int .i64 0,.int .i64 0]) ?_ 0 _ rfl;(with_reducible repeat (first|refine blk_drewN ?_ _|refine blk_drew ?_|refine blk_alloc ?_ _));exact BK155.out) Try.underlying33 rfl (by kernel_rfl)) rfl ?_
     exact ⟨_,by first|rfl|(simp [errW_none,errW_some] <;> rfl)|(simp [*,errW_none,errW_some] <;> rfl),by (with_reducible repeat (first|apply Kd.R_alloc|apply Kd.R_drewN|apply Kd.R_drew));exact Kd.R_mono (Kd.R_far (p:=⟨gb155,3,none⟩) (Kd.R_far (p:=⟨gb155,2,none⟩) (Kd.R_far (p:=⟨gb155,1,none⟩) (Kd.R_far (p:=⟨gb155,0,none⟩) (Kd.R_types HO_157000.out BK155.out (by decide)) (fun _ hk=>hk.2) (.slice Ao26 x157000_1.length co26)) (fun _ hk=>hk.2) (.int .i64 (wrap64 (1 + (Int.tmod (wrap64 (a2)) (wrap64 (1 + (Int.tmod (wrap64 (a1)) 8)))))))) (fun _ hk=>hk.2) (.int .i64 (wrap64 (1 + (Int.tmod (wrap64 (a3)) 3))))) (fun _ hk=>hk.2) (.int .i64 (wrap64 (1 + (Int.tmod (wrap64 (a4)) 8))))) (fun _ hk=>trivial),by repeat (first|(with_reducible first|exact HB.out|apply below_alloc|apply pw_below_drewN|apply below_drew1|refine below_set ?_ GE154.out|refine below_set ?_ GE155.out|refine below_set ?_ GE156.out)|exact HB.out)⟩
def thresherlaw12_made.f (k : Nat) (a0_0 : Int) (a0_1 : Int) (a0_2 : Int) (a0_3 : Int) (a0_4 : Int) (a0_5 : Int) (a0_6 : Int) (a0_7 : Int) (a0_8 : Int) (a0_9 : Int) (a0_10 : Int) (a0_11 : Int) : Option (List Int × Int × Int × Int):=(thresherref04_Made.f k a0_0 a0_1 a0_2 a0_3 a0_4 a0_5 a0_6 a0_7 a0_8 a0_9 a0_10 a0_11).bind fun bt162=>(some (bt162.1,bt162.2.1,bt162.2.2.1,bt162.2.2.2))
theorem thresherlaw12_made.mono : ∀ a0 a1 a2 a3 a4 a5 a6 a7 a8 a9 a10 a11 k,LeO (thresherlaw12_made.f k a0 a1 a2 a3 a4 a5 a6 a7 a8 a9 a10 a11) (thresherlaw12_made.f (k + 1) a0 a1 a2 a3 a4 a5 a6 a7 a8 a9 a10 a11):=by
 intro a0 a1 a2 a3 a4 a5 a6 a7 a8 a9 a10 a11 k
 unfold thresherlaw12_made.f
 repeat' first
   | (with_reducible exact thresherref04_Made.mono _ _ _ _ _ _ _ _ _ _ _ _ _)
   | (with_reducible exact LeO.refl _)
   | (with_reducible exact LeO.none _)
   | (with_reducible refine LeO.ite ?_ ?_)
   | (with_reducible refine LeO.bind ?_ (fun _=>?_))
   | exact thresherref04_Made.mono _ _ _ _ _ _ _ _ _ _ _ _ _
   | exact LeO.none _
   | refine LeO.ite ?_ ?_
   | refine LeO.bind ?_ (fun _=>?_)
set_option maxHeartbeats 8000000 in
set_option maxRecDepth 100000 in
theorem thresherlaw12_made.calls (k : Nat) (a0_0 : Int) (a0_1 : Int) (a0_2 : Int) (a0_3 : Int) (a0_4 : Int) (a0_5 : Int) (a0_6 : Int) (a0_7 : Int) (a0_8 : Int) (a0_9 : Int) (a0_10 : Int) (a0_11 : Int) (r1 : List Int) (r2 : Int) (r3 : Int) (r4 : Int) (w : World) (h : thresherlaw12_made.f k a0_0 a0_1 a0_2 a0_3 a0_4 a0_5 a0_6 a0_7 a0_8 a0_9 a0_10 a0_11=some (r1,r2,r3,r4)) :
  Calls Try.prog 8 #[.agg #[.int .u8 a0_0,.int .u8 a0_1,.int .u8 a0_2,.int .u8 a0_3,.int .u8 a0_4,.int .u8 a0_5,.int .u8 a0_6,.int .u8 a0_7,.int .u8 a0_8,.int .u8 a0_9,.int .u8 a0_10,.int .u8 a0_11]] w fun e w'=>∃ v0_ : Value,e=.returned (.agg #[v0_,.int .i64 r2,.int .i64 r3,.int .i64 r4])∧Kd.R (Kd.int .i64) 3 w' w.heap.size (fun _=>True) v0_ r1∧Below w.heap.size w w':=by
 have hu24:=Try.underlying24
 have hu33:=Try.underlying33
 have hu22:=Try.underlying22
 have HB:=Aside0.mk (Below.refl w.heap.size w)
 have H : ((thresherref04_Made.f k a0_0 a0_1 a0_2 a0_3 a0_4 a0_5 a0_6 a0_7 a0_8 a0_9 a0_10 a0_11).bind fun bt162=>(some (bt162.1,bt162.2.1,bt162.2.2.1,bt162.2.2.2)))=some (r1,r2,r3,r4):=h
 clear h
 replace H:=Option.bind_eq_some_iff.mp H
 obtain ⟨⟨t162,t165,t166,t167⟩,A20,H⟩:=H
 replace H : (some (t162,t165,t166,t167))=some (r1,r2,r3,r4):=H
 have A2:=Aside0.mk A20
 clear A20
 simp only [Option.some.injEq,Prod.mk.injEq] at H
 obtain ⟨rfl,rfl,rfl,rfl⟩:=H
 go_enter Try.func8,Try.ntmps8
 go_wp2_with (first|((with_reducible refine gate_dst (N:=1) rfl ?_);refine box_event ?hg (N:=1) ?hd (cs:=#[.int .u8 a0_0,.int .u8 a0_1,.int .u8 a0_2,.int .u8 a0_3,.int .u8 a0_4,.int .u8 a0_5,.int .u8 a0_6,.int .u8 a0_7,.int .u8 a0_8,.int .u8 a0_9,.int .u8 a0_10,.int .u8 a0_11]) (t:=24) ?hr ?_;(case hd=>rfl);(case hg=>rfl);(case hr=>first|(go_simp;done)|(go_simp;rfl));intro gb160 hg w3 hbox hb;have n0_:=Aside0.mk (below_step (below_up HB.out) hb);have n1_:=Aside0.mk (hbox);have n2_:=Aside0.mk ((by rw [hg];exact (below_size (below_up HB.out)) : w.heap.size≤gb160));have n3_:=Aside0.mk ((by rw [hg];exact (below_size (below_up HB.out)) : w.heap.size≤gb160));clear HB;have HB:=n0_;have BK160:=n1_;have GW160:=n2_;have GE160:=n3_;clear n0_ n1_ n2_ n3_;clear hb hbox hg)|((with_reducible refine gate_dst (N:=2) rfl ?_);refine box_event ?hg (N:=2) ?hd (cs:=#[.slice none 0 0,.int .i64 0,.int .i64 0,.int .i64 0]) (t:=33) ?hr ?_;(case hd=>rfl);(case hg=>rfl);(case hr=>first|(go_simp;done)|(go_simp;rfl));intro gb161 hg w4 hbox hb;have n0_:=Aside0.mk (blk_below (g:=gb160) (o:=.cells #[.int .u8 a0_0,.int .u8 a0_1,.int .u8 a0_2,.int .u8 a0_3,.int .u8 a0_4,.int .u8 a0_5,.int .u8 a0_6,.int .u8 a0_7,.int .u8 a0_8,.int .u8 a0_9,.int .u8 a0_10,.int .u8 a0_11] 24 (0,0)) (blk_up BK160.out) hb);have n1_:=Aside0.mk (below_step (by repeat (first|(with_reducible first|exact HB.out|apply below_alloc|apply pw_below_drewN|apply below_drew1|refine below_set ?_ GE160.out)|exact HB.out)) hb);have n2_:=Aside0.mk (hbox);have n3_:=Aside0.mk ((by rw [hg];exact (below_size (by repeat (first|(with_reducible first|exact HB.out|apply below_alloc|apply pw_below_drewN|apply below_drew1|refine below_set ?_ GE160.out)|exact HB.out))) : w.heap.size≤gb161));have n4_:=Aside0.mk ((by rw [hg];exact (below_size (by repeat (first|(with_reducible first|exact HB.out|apply below_alloc|apply pw_below_drewN|apply below_drew1|refine below_set ?_ GE160.out)|exact HB.out))) : w.heap.size≤gb161));have n5_:=Aside0.mk ((by rw [hg];exact Nat.ne_of_lt (blk_lt (g:=gb160) (o:=.cells #[.int .u8 a0_0,.int .u8 a0_1,.int .u8 a0_2,.int .u8 a0_3,.int .u8 a0_4,.int .u8 a0_5,.int .u8 a0_6,.int .u8 a0_7,.int .u8 a0_8,.int .u8 a0_9,.int .u8 a0_10,.int .u8 a0_11] 24 (0,0)) (blk_up BK160.out)) : gb160≠gb161));have n6_:=Aside0.mk ((by rw [hg];exact Nat.ne_of_gt (blk_lt (g:=gb160) (o:=.cells #[.int .u8 a0_0,.int .u8 a0_1,.int .u8 a0_2,.int .u8 a0_3,.int .u8 a0_4,.int .u8 a0_5,.int .u8 a0_6,.int .u8 a0_7,.int .u8 a0_8,.int .u8 a0_9,.int .u8 a0_10,.int .u8 a0_11] 24 (0,0)) (blk_up BK160.out)) : gb161≠gb160));clear BK160;clear HB;have BK160:=n0_;have HB:=n1_;have BK161:=n2_;have GW161:=n3_;have GE161:=n4_;have NB160_161:=n5_;have NB161_160:=n6_;clear n0_ n1_ n2_ n3_ n4_ n5_ n6_;clear hb hbox hg;have hnb5:=NB160_161.out;have hnc5:=NB161_160.out;have hcz6_0 : w4.cell? ⟨gb160,0,none⟩=some (.int .u8 a0_0):=(blk_cell BK160.out 0).trans rfl;have hcz6_1 : w4.cell? ⟨gb160,1,none⟩=some (.int .u8 a0_1):=(blk_cell BK160.out 1).trans rfl;have hcz6_2 : w4.cell? ⟨gb160,2,none⟩=some (.int .u8 a0_2):=(blk_cell BK160.out 2).trans rfl;have hcz6_3 : w4.cell? ⟨gb160,3,none⟩=some (.int .u8 a0_3):=(blk_cell BK160.out 3).trans rfl;have hcz6_4 : w4.cell? ⟨gb160,4,none⟩=some (.int .u8 a0_4):=(blk_cell BK160.out 4).trans rfl;have hcz6_5 : w4.cell? ⟨gb160,5,none⟩=some (.int .u8 a0_5):=(blk_cell BK160.out 5).trans rfl;have hcz6_6 : w4.cell? ⟨gb160,6,none⟩=some (.int .u8 a0_6):=(blk_cell BK160.out 6).trans rfl;have hcz6_7 : w4.cell? ⟨gb160,7,none⟩=some (.int .u8 a0_7):=(blk_cell BK160.out 7).trans rfl;have hcz6_8 : w4.cell? ⟨gb160,8,none⟩=some (.int .u8 a0_8):=(blk_cell BK160.out 8).trans rfl;have hcz6_9 : w4.cell? ⟨gb160,9,none⟩=some (.int .u8 a0_9):=(blk_cell BK160.out 9).trans rfl;have hcz6_10 : w4.cell? ⟨gb160,10,none⟩=some (.int .u8 a0_10):=(blk_cell BK160.out 10).trans rfl;have hcz6_11 : w4.cell? ⟨gb160,11,none⟩=some (.int .u8 a0_11):=(blk_cell BK160.out 11).trans rfl;have hfz6_0:=blk_frozen BK160.out 0;have hfz6_1:=blk_frozen BK160.out 1;have hfz6_2:=blk_frozen BK160.out 2;have hfz6_3:=blk_frozen BK160.out 3;have hfz6_4:=blk_frozen BK160.out 4;have hfz6_5:=blk_frozen BK160.out 5;have hfz6_6:=blk_frozen BK160.out 6;have hfz6_7:=blk_frozen BK160.out 7;have hfz6_8:=blk_frozen BK160.out 8;have hfz6_9:=blk_frozen BK160.out 9;have hfz6_10:=blk_frozen BK160.out 10;have hfz6_11:=blk_frozen BK160.out 11)|((with_reducible refine gate_callee (f:=21) rfl ?_);refine goesL_ (some 13) rfl rfl Try.func21 (by kernel_rfl) rfl #[.agg #[.int .u8 a0_0,.int .u8 a0_1,.int .u8 a0_2,.int .u8 a0_3,.int .u8 a0_4,.int .u8 a0_5,.int .u8 a0_6,.int .u8 a0_7],.int .u8 a0_8,.int .u8 a0_9,.int .u8 a0_10,.int .u8 a0_11] rfl (by (try simp only [List.map_toArray,List.map_cons,List.map_nil]);first|done|rfl|(simp only [List.length_drop,List.length_take];rfl)) ?_;(with_reducible refine (thresherref04_Made.calls k a0_0 a0_1 a0_2 a0_3 a0_4 a0_5 a0_6 a0_7 a0_8 a0_9 a0_10 a0_11 t162 t165 t166 t167 _ A2.out).mono ?_);rintro e w7 ⟨v163,rfl,ho0,hb⟩;refine ⟨_,rfl,?_⟩;have n0_:=Aside0.mk (Kd.R_lower ho0 (below_size (by repeat (first|(with_reducible first|exact HB.out|apply below_alloc|apply pw_below_drewN|apply below_drew1|refine below_set ?_ GE160.out|refine below_set ?_ GE161.out)|exact HB.out))));have n1_:=Aside0.mk (blk_below (g:=gb160) (o:=.cells #[.int .u8 a0_0,.int .u8 a0_1,.int .u8 a0_2,.int .u8 a0_3,.int .u8 a0_4,.int .u8 a0_5,.int .u8 a0_6,.int .u8 a0_7,.int .u8 a0_8,.int .u8 a0_9,.int .u8 a0_10,.int .u8 a0_11] 24 (0,0)) (blk_up BK160.out) hb);have n2_:=Aside0.mk (blk_below (g:=gb161) (o:=.cells #[.slice none 0 0,.int .i64 0,.int .i64 0,.int .i64 0] 33 (0,0)) (blk_up BK161.out) hb);have n3_:=Aside0.mk (below_step (by repeat (first|(with_reducible first|exact HB.out|apply below_alloc|apply pw_below_drewN|apply below_drew1|refine below_set ?_ GE160.out|refine below_set ?_ GE161.out)|exact HB.out)) hb);clear BK160;clear BK161;clear HB;have HO164:=n0_;have BK160:=n1_;have BK161:=n2_;have HB:=n3_;clear n0_ n1_ n2_ n3_;(try clear hb);(try clear hb2);(try clear hk);(try clear hi);(try clear ho0);obtain ⟨Ao8,co8,eo8⟩:=Kd.R_slice HO164.out;subst eo8;have hcz9_0 : w7.cell? ⟨gb161,0,none⟩=some (.slice none 0 0):=(blk_cell BK161.out 0).trans rfl;have hcz9_1 : w7.cell? ⟨gb161,1,none⟩=some (.int .i64 0):=(blk_cell BK161.out 1).trans rfl;have hcz9_2 : w7.cell? ⟨gb161,2,none⟩=some (.int .i64 0):=(blk_cell BK161.out 2).trans rfl;have hcz9_3 : w7.cell? ⟨gb161,3,none⟩=some (.int .i64 0):=(blk_cell BK161.out 3).trans rfl;have hfz9_0:=blk_frozen BK161.out 0;have hfz9_1:=blk_frozen BK161.out 1;have hfz9_2:=blk_frozen BK161.out 2;have hfz9_3:=blk_frozen BK161.out 3))
 refine bodyPost_ret (results_cell_row rfl _ _ gb161 33 #[.slice Ao8 t162.length co8,.int .i64 t165,.int .i64 t166,.int .i64 t167] (0,0) _ rfl (by (with_reducible repeat (first|refine blk_drewN ?_ _|refine blk_drew ?_|refine blk_alloc ?_ _));refine blk_put (cs:=#[.slice Ao8 t162.length co8,.int .i64 t165,.int .i64 t166,.int .i64 0]) ?_ 3 _ rfl;(with_reducible repeat (first|refine blk_drewN ?_ _|refine blk_drew ?_|refine blk_alloc ?_ _));refine blk_put (cs:=#[.slice Ao8 t162.length co8,.int .i64 t165,.int .i64 0,.int .i64 0]) ?_ 2 _ rfl;(with_reducible repeat (first|refine blk_drewN ?_ _|refine blk_drew ?_|refine blk_alloc ?_ _));refine blk_put (cs:=#[.slice Ao8 t162.length co8,.int .i64 0,.int .i64 0,.int .i64 0]) ?_ 1 _ rfl;(with_reducible repeat (first|refine blk_drewN ?_ _|refine blk_drew ?_|refine blk_alloc ?_ _));refine blk_put (cs:=#[.slice none 0 0,.int .i64 0,.int .i64 0,.int .i64 0]) ?_ 0 _ rfl;(with_reducible repeat (first|refine blk_drewN ?_ _|refine blk_drew ?_|refine blk_alloc ?_ _));exact BK161.out) Try.underlying33 rfl (by kernel_rfl)) rfl ?_
 exact ⟨_,by first|rfl|(simp [errW_none,errW_some] <;> rfl)|(simp [*,errW_none,errW_some] <;> rfl),by (with_reducible repeat (first|apply Kd.R_alloc|apply Kd.R_drewN|apply Kd.R_drew));exact Kd.R_mono (Kd.R_far (p:=⟨gb161,3,none⟩) (Kd.R_far (p:=⟨gb161,2,none⟩) (Kd.R_far (p:=⟨gb161,1,none⟩) (Kd.R_far (p:=⟨gb161,0,none⟩) (Kd.R_types HO164.out BK161.out (by decide)) (fun _ hk=>hk.2) (.slice Ao8 t162.length co8)) (fun _ hk=>hk.2) (.int .i64 t165)) (fun _ hk=>hk.2) (.int .i64 t166)) (fun _ hk=>hk.2) (.int .i64 t167)) (fun _ hk=>trivial),by repeat (first|(with_reducible first|exact HB.out|apply below_alloc|apply pw_below_drewN|apply below_drew1|refine below_set ?_ GE160.out|refine below_set ?_ GE161.out)|exact HB.out)⟩
def thresherref03_Fits.j0 : Nat→Int→Bool→Int→ByteArray→Option (Bool)
 | 0,_,_,_,_=>none
 | k + 1,x5,x6,x169000,x169001=>if x6=true then (some (x169001.toList == ([] : List UInt8))) else (if x5=3 then (if x169000=0 then (some (decide ((x169001.size : Int)≤60))) else (some false)) else (some false))
def thresherref03_Fits.f (k : Nat) (a0 : Int) (a1_0 : Int) (a1_1 : ByteArray) : Option (Bool):=if a0=1 then (thresherref03_Fits.j0 k a0 (a0 == 1) a1_0 a1_1) else (thresherref03_Fits.j0 k a0 (a0 == 2) a1_0 a1_1)
theorem thresherref03_Fits.mono_l : ∀ k,(∀ y0 y1 y2 y3,LeO (thresherref03_Fits.j0 k y0 y1 y2 y3) (thresherref03_Fits.j0 (k + 1) y0 y1 y2 y3))
 | 0=>fun _ _ _ _ r h=>by simp [thresherref03_Fits.j0] at h
 | k + 1=>by
  have ih0:=thresherref03_Fits.mono_l k
  ·intro y0 y1 y2 y3
   unfold thresherref03_Fits.j0
   repeat' first
   | (with_reducible exact ih0 _ _ _ _)
   | (with_reducible exact LeO.refl _)
   | (with_reducible exact LeO.none _)
   | (with_reducible refine LeO.ite ?_ ?_)
   | (with_reducible refine LeO.bind ?_ (fun _=>?_))
   | exact ih0 _ _ _ _
   | exact LeO.none _
   | refine LeO.ite ?_ ?_
   | refine LeO.bind ?_ (fun _=>?_)
theorem thresherref03_Fits.mono : ∀ a0 a1 a2 k,LeO (thresherref03_Fits.f k a0 a1 a2) (thresherref03_Fits.f (k + 1) a0 a1 a2):=by
 intro a0 a1 a2 k
 have ih0:=thresherref03_Fits.mono_l k
 unfold thresherref03_Fits.f
 repeat' first
   | (with_reducible exact ih0 _ _ _ _)
   | (with_reducible exact LeO.refl _)
   | (with_reducible exact LeO.none _)
   | (with_reducible refine LeO.ite ?_ ?_)
   | (with_reducible refine LeO.bind ?_ (fun _=>?_))
   | exact ih0 _ _ _ _
   | exact LeO.none _
   | refine LeO.ite ?_ ?_
   | refine LeO.bind ?_ (fun _=>?_)
set_option maxHeartbeats 8000000 in
set_option maxRecDepth 100000 in
theorem thresherref03_Fits.calls (k : Nat) (a0 : Int) (a1_0 : Int) (a1_1 : ByteArray) (r : Bool) (w : World) (h : thresherref03_Fits.f k a0 a1_0 a1_1=some r) :
  Calls Try.prog 36 #[.int .i64 a0,.agg #[.int .i64 a1_0,.string a1_1]] w fun e w'=>e=.returned (.bool r)∧Below w.heap.size w w':=by
 have hu44:=Try.underlying44
 have HB:=Aside0.mk (Below.refl w.heap.size w)
 have H : (if a0=1 then (thresherref03_Fits.j0 k a0 (a0 == 1) a1_0 a1_1) else (thresherref03_Fits.j0 k a0 (a0 == 2) a1_0 a1_1))=some r:=h
 clear h
 have HC3:=Aside0.mk H
 clear H
 go_enter Try.func36,Try.ntmps36
 go_upto_if 6 with (first|((with_reducible refine gate_dst (N:=3) rfl ?_);(try (refine gate_guard (by rfl) ?_;dsimp only));refine box_event ?hg (N:=3) ?hd (cs:=#[.int .i64 a1_0,.string a1_1]) (t:=44) ?hr ?_;(case hd=>rfl);(case hg=>rfl);(case hr=>first|(go_simp;done)|(go_simp;rfl));intro gb168 hg w4 hbox hb;have n0_:=Aside0.mk (below_step (below_up HB.out) hb);have n1_:=Aside0.mk (hbox);have n2_:=Aside0.mk ((by rw [hg];exact (below_size (below_up HB.out)) : w.heap.size≤gb168));have n3_:=Aside0.mk ((by rw [hg];exact (below_size (below_up HB.out)) : w.heap.size≤gb168));clear HB;have HB:=n0_;have BK168:=n1_;have GW168:=n2_;have GE168:=n3_;clear n0_ n1_ n2_ n3_;clear hb hbox hg))
 (try simp only [Act.put,List.setIfInBounds_toArray,List.set_cons_zero,List.set_cons_succ])
 go_cut [6] (fun v6 wc=>∃ (kq : Nat) (x6_2 : Bool),v6=.bool x6_2∧Aside0 (thresherref03_Fits.j0 kq a0 x6_2 a1_0 a1_1=some r)∧Aside0 (kq≤k)∧Aside0 (wc.heap[gb168]?=some (.cells #[.int .i64 a1_0,.string a1_1] 44 (0,0)))∧Aside0 (Below w.heap.size w wc))
 case first =>
  have H:=HC3.out
  clear HC3
  by_cases c5 : a0=1
  ·rw [if_pos c5] at H
   have c5b0 : (a0 == 1)=true:=beq_iff_eq.mpr c5
   have c5b1 : (a0 != 1)=false:=bne_eq_false_iff_eq.mpr c5
   clear c5
   (first|rw [c5b0]|(simp only [i64_w,i32_w];rw [c5b0])|skip)
   have H':=Aside0.mk H
   clear H
   go_wp2
   go_meet
   case rel=>exact ⟨_,((a0 == 1)),(by first|rfl|(simp;done)|(simp [*];done)),(by first|exact H'|(subst_vars;exact H')),⟨by first|omega|exact Nat.le_refl _⟩,⟨by (with_reducible repeat (first|refine blk_drewN ?_ _|refine blk_drew ?_|refine blk_alloc ?_ _));exact BK168.out⟩,⟨by repeat (first|(with_reducible first|exact HB.out|apply below_alloc|apply pw_below_drewN|apply below_drew1|refine below_set ?_ GE168.out)|exact HB.out)⟩⟩
  ·rw [if_neg c5] at H
   have c5b0 : (a0 == 1)=false:=beq_eq_false_iff_ne.mpr c5
   have c5b1 : (a0 != 1)=true:=bne_iff_ne.mpr c5
   (first|rw [c5b0]|(simp only [i64_w,i32_w];rw [c5b0])|skip)
   have H':=Aside0.mk H
   clear H
   go_wp2
   go_meet
   case rel=>exact ⟨_,((a0 == 2)),(by first|rfl|(simp;done)|(simp [*];done)),(by first|exact H'|(subst_vars;exact H')),⟨by first|omega|exact Nat.le_refl _⟩,⟨by (with_reducible repeat (first|refine blk_drewN ?_ _|refine blk_drew ?_|refine blk_alloc ?_ _));exact BK168.out⟩,⟨by repeat (first|(with_reducible first|exact HB.out|apply below_alloc|apply pw_below_drewN|apply below_drew1|refine below_set ?_ GE168.out)|exact HB.out)⟩⟩
 case rest =>
  clear HC3
  try clear p2
  try clear c3
  try clear c5
  try clear c5b0
  try clear c5b1
  obtain ⟨kq,x6_2,rfl,HA,HJ2,BK168,HB⟩:=hcut
  cases kq with
  | zero=>exact absurd HA.out (by simp [thresherref03_Fits.j0])
  | succ kj2 =>
   have H:=HA.out
   clear HA
   simp only [thresherref03_Fits.j0] at H
   by_cases c6 : x6_2=true
   ·subst c6
    have H1 : (some (a1_1.toList == ([] : List UInt8)))=some r:=by rw [if_pos rfl] at H;exact H
    clear H
    have H:=H1
    clear H1
    obtain rfl:=Option.some.inj H
    have hcz7_0 : wc.cell? ⟨gb168,0,none⟩=some (.int .i64 a1_0):=(blk_cell BK168.out 0).trans rfl
    have hcz7_1 : wc.cell? ⟨gb168,1,none⟩=some (.string a1_1):=(blk_cell BK168.out 1).trans rfl
    have hfz7_0:=blk_frozen BK168.out 0
    have hfz7_1:=blk_frozen BK168.out 1
    go_wp2
    go_ret
    exact ⟨by first|rfl|(simp [errW_none,errW_some] <;> rfl)|(simp [*,errW_none,errW_some] <;> rfl),by repeat (first|(with_reducible first|exact HB.out|apply below_alloc|apply pw_below_drewN|apply below_drew1|refine below_set ?_ GE168.out)|exact HB.out)⟩
   ·replace c6:=Bool.eq_false_iff.mpr c6
    subst c6
    have H1 : (if a0=3 then (if a1_0=0 then (some (decide ((a1_1.size : Int)≤60))) else (some false)) else (some false))=some r:=by rw [if_neg (show ¬ (false=true) by decide)] at H;exact H
    clear H
    have H:=H1
    clear H1
    by_cases c8 : a0=3
    ·rw [if_pos c8] at H
     have c8b0 : (a0 == 3)=true:=beq_iff_eq.mpr c8
     have c8b1 : (a0 != 3)=false:=bne_eq_false_iff_eq.mpr c8
     clear c8
     by_cases c9 : a1_0=0
     ·rw [if_pos c9] at H
      have c9b0 : (a1_0 == 0)=true:=beq_iff_eq.mpr c9
      have c9b1 : (a1_0 != 0)=false:=bne_eq_false_iff_eq.mpr c9
      clear c9
      obtain rfl:=Option.some.inj H
      have hcz10_0 : wc.cell? ⟨gb168,0,none⟩=some (.int .i64 a1_0):=(blk_cell BK168.out 0).trans rfl
      have hcz10_1 : wc.cell? ⟨gb168,1,none⟩=some (.string a1_1):=(blk_cell BK168.out 1).trans rfl
      have hfz10_0:=blk_frozen BK168.out 0
      have hfz10_1:=blk_frozen BK168.out 1
      go_wp2
      go_ret
      exact ⟨by first|rfl|(simp [errW_none,errW_some] <;> rfl)|(simp [*,errW_none,errW_some] <;> rfl),by repeat (first|(with_reducible first|exact HB.out|apply below_alloc|apply pw_below_drewN|apply below_drew1|refine below_set ?_ GE168.out)|exact HB.out)⟩
     ·rw [if_neg c9] at H
      have c9b0 : (a1_0 == 0)=false:=beq_eq_false_iff_ne.mpr c9
      have c9b1 : (a1_0 != 0)=true:=bne_iff_ne.mpr c9
      obtain rfl:=Option.some.inj H
      have hcz11_0 : wc.cell? ⟨gb168,0,none⟩=some (.int .i64 a1_0):=(blk_cell BK168.out 0).trans rfl
      have hcz11_1 : wc.cell? ⟨gb168,1,none⟩=some (.string a1_1):=(blk_cell BK168.out 1).trans rfl
      have hfz11_0:=blk_frozen BK168.out 0
      have hfz11_1:=blk_frozen BK168.out 1
      go_wp2
      go_ret
      exact ⟨by first|rfl|(simp [errW_none,errW_some] <;> rfl)|(simp [*,errW_none,errW_some] <;> rfl),by repeat (first|(with_reducible first|exact HB.out|apply below_alloc|apply pw_below_drewN|apply below_drew1|refine below_set ?_ GE168.out)|exact HB.out)⟩
    ·rw [if_neg c8] at H
     have c8b0 : (a0 == 3)=false:=beq_eq_false_iff_ne.mpr c8
     have c8b1 : (a0 != 3)=true:=bne_iff_ne.mpr c8
     obtain rfl:=Option.some.inj H
     go_wp2
     go_ret
     exact ⟨by first|rfl|(simp [errW_none,errW_some] <;> rfl)|(simp [*,errW_none,errW_some] <;> rfl),by repeat (first|(with_reducible first|exact HB.out|apply below_alloc|apply pw_below_drewN|apply below_drew1|refine below_set ?_ GE168.out)|exact HB.out)⟩
def thresherref03_both.f (k : Nat) (a0 : Int) (a1_0 : Int) (a1_1 : ByteArray) (a2_0 : Int) (a2_1 : ByteArray) : Option (Bool):=(thresherref03_Fits.f k a0 a1_0 a1_1).bind fun t171=>((thresherref03_Fits.f k a0 a2_0 a2_1).bind fun t172=>(if t171=true then (some t172) else (some false)))
theorem thresherref03_both.mono : ∀ a0 a1 a2 a3 a4 k,LeO (thresherref03_both.f k a0 a1 a2 a3 a4) (thresherref03_both.f (k + 1) a0 a1 a2 a3 a4):=by
 intro a0 a1 a2 a3 a4 k
 unfold thresherref03_both.f
 repeat' first
   | (with_reducible exact thresherref03_Fits.mono _ _ _ _)
   | (with_reducible exact LeO.refl _)
   | (with_reducible exact LeO.none _)
   | (with_reducible refine LeO.ite ?_ ?_)
   | (with_reducible refine LeO.bind ?_ (fun _=>?_))
   | exact thresherref03_Fits.mono _ _ _ _
   | exact LeO.none _
   | refine LeO.ite ?_ ?_
   | refine LeO.bind ?_ (fun _=>?_)
set_option maxHeartbeats 8000000 in
set_option maxRecDepth 100000 in
theorem thresherref03_both.calls (k : Nat) (a0 : Int) (a1_0 : Int) (a1_1 : ByteArray) (a2_0 : Int) (a2_1 : ByteArray) (r : Bool) (w : World) (h : thresherref03_both.f k a0 a1_0 a1_1 a2_0 a2_1=some r) :
  Calls Try.prog 30 #[.int .i64 a0,.agg #[.int .i64 a1_0,.string a1_1],.agg #[.int .i64 a2_0,.string a2_1]] w fun e w'=>e=.returned (.bool r)∧Below w.heap.size w w':=by
 have hu44:=Try.underlying44
 have HB:=Aside0.mk (Below.refl w.heap.size w)
 have H : ((thresherref03_Fits.f k a0 a1_0 a1_1).bind fun t171=>((thresherref03_Fits.f k a0 a2_0 a2_1).bind fun t172=>(if t171=true then (some t172) else (some false))))=some r:=h
 clear h
 replace H:=Option.bind_eq_some_iff.mp H
 obtain ⟨t171,A40,H⟩:=H
 replace H : ((thresherref03_Fits.f k a0 a2_0 a2_1).bind fun t172=>(if t171=true then (some t172) else (some false)))=some r:=H
 have A4:=Aside0.mk A40
 clear A40
 replace H:=Option.bind_eq_some_iff.mp H
 obtain ⟨t172,A50,H⟩:=H
 replace H : (if t171=true then (some t172) else (some false))=some r:=H
 have A5:=Aside0.mk A50
 clear A50
 by_cases c6 : t171=true
 ·subst c6
  have H1 : (some t172)=some r:=by rw [if_pos rfl] at H;exact H
  clear H
  have H:=H1
  clear H1
  obtain rfl:=Option.some.inj H
  go_enter Try.func30,Try.ntmps30
  go_wp2_with (first|((with_reducible refine gate_dst (N:=4) rfl ?_);refine box_event ?hg (N:=4) ?hd (cs:=#[.int .i64 a1_0,.string a1_1]) (t:=44) ?hr ?_;(case hd=>rfl);(case hg=>rfl);(case hr=>first|(go_simp;done)|(go_simp;rfl));intro gb169 hg w7 hbox hb;have n0_:=Aside0.mk (below_step (below_up HB.out) hb);have n1_:=Aside0.mk (hbox);have n2_:=Aside0.mk ((by rw [hg];exact (below_size (below_up HB.out)) : w.heap.size≤gb169));have n3_:=Aside0.mk ((by rw [hg];exact (below_size (below_up HB.out)) : w.heap.size≤gb169));clear HB;have HB:=n0_;have BK169:=n1_;have GW169:=n2_;have GE169:=n3_;clear n0_ n1_ n2_ n3_;clear hb hbox hg)|((with_reducible refine gate_dst (N:=5) rfl ?_);refine box_event ?hg (N:=5) ?hd (cs:=#[.int .i64 a2_0,.string a2_1]) (t:=44) ?hr ?_;(case hd=>rfl);(case hg=>rfl);(case hr=>first|(go_simp;done)|(go_simp;rfl));intro gb170 hg w8 hbox hb;have n0_:=Aside0.mk (blk_below (g:=gb169) (o:=.cells #[.int .i64 a1_0,.string a1_1] 44 (0,0)) (blk_up BK169.out) hb);have n1_:=Aside0.mk (below_step (by repeat (first|(with_reducible first|exact HB.out|apply below_alloc|apply pw_below_drewN|apply below_drew1|refine below_set ?_ GE169.out)|exact HB.out)) hb);have n2_:=Aside0.mk (hbox);have n3_:=Aside0.mk ((by rw [hg];exact (below_size (by repeat (first|(with_reducible first|exact HB.out|apply below_alloc|apply pw_below_drewN|apply below_drew1|refine below_set ?_ GE169.out)|exact HB.out))) : w.heap.size≤gb170));have n4_:=Aside0.mk ((by rw [hg];exact (below_size (by repeat (first|(with_reducible first|exact HB.out|apply below_alloc|apply pw_below_drewN|apply below_drew1|refine below_set ?_ GE169.out)|exact HB.out))) : w.heap.size≤gb170));have n5_:=Aside0.mk ((by rw [hg];exact Nat.ne_of_lt (blk_lt (g:=gb169) (o:=.cells #[.int .i64 a1_0,.string a1_1] 44 (0,0)) (blk_up BK169.out)) : gb169≠gb170));have n6_:=Aside0.mk ((by rw [hg];exact Nat.ne_of_gt (blk_lt (g:=gb169) (o:=.cells #[.int .i64 a1_0,.string a1_1] 44 (0,0)) (blk_up BK169.out)) : gb170≠gb169));clear BK169;clear HB;have BK169:=n0_;have HB:=n1_;have BK170:=n2_;have GW170:=n3_;have GE170:=n4_;have NB169_170:=n5_;have NB170_169:=n6_;clear n0_ n1_ n2_ n3_ n4_ n5_ n6_;clear hb hbox hg;have hnb9:=NB169_170.out;have hnc9:=NB170_169.out;have hcz10_0 : w8.cell? ⟨gb169,0,none⟩=some (.int .i64 a1_0):=(blk_cell BK169.out 0).trans rfl;have hcz10_1 : w8.cell? ⟨gb169,1,none⟩=some (.string a1_1):=(blk_cell BK169.out 1).trans rfl;have hfz10_0:=blk_frozen BK169.out 0;have hfz10_1:=blk_frozen BK169.out 1)|((with_reducible refine gate_callee (f:=36) rfl ?_);refine goesL_ (some 11) rfl rfl Try.func36 (by kernel_rfl) rfl #[.int .i64 a0,.agg #[.int .i64 a1_0,.string a1_1]] rfl (by (try simp only [List.map_toArray,List.map_cons,List.map_nil]);first|done|rfl|(simp only [List.length_drop,List.length_take];rfl)) ?_;(with_reducible refine (thresherref03_Fits.calls k a0 a1_0 a1_1 true _ A4.out).mono ?_);rintro e w11 ⟨rfl,hb⟩;refine ⟨_,rfl,?_⟩;have n0_:=Aside0.mk (blk_below (g:=gb169) (o:=.cells #[.int .i64 a1_0,.string a1_1] 44 (0,0)) (blk_up BK169.out) hb);have n1_:=Aside0.mk (blk_below (g:=gb170) (o:=.cells #[.int .i64 a2_0,.string a2_1] 44 (0,0)) (blk_up BK170.out) hb);have n2_:=Aside0.mk (below_step (by repeat (first|(with_reducible first|exact HB.out|apply below_alloc|apply pw_below_drewN|apply below_drew1|refine below_set ?_ GE169.out|refine below_set ?_ GE170.out)|exact HB.out)) hb);clear BK169;clear BK170;clear HB;have BK169:=n0_;have BK170:=n1_;have HB:=n2_;clear n0_ n1_ n2_;(try clear hb);(try clear hb2);(try clear hk);(try clear hi);have hcz12_0 : w11.cell? ⟨gb170,0,none⟩=some (.int .i64 a2_0):=(blk_cell BK170.out 0).trans rfl;have hcz12_1 : w11.cell? ⟨gb170,1,none⟩=some (.string a2_1):=(blk_cell BK170.out 1).trans rfl;have hfz12_0:=blk_frozen BK170.out 0;have hfz12_1:=blk_frozen BK170.out 1)|((with_reducible refine gate_callee (f:=36) rfl ?_);refine goesL_ (some 14) rfl rfl Try.func36 (by kernel_rfl) rfl #[.int .i64 a0,.agg #[.int .i64 a2_0,.string a2_1]] rfl (by (try simp only [List.map_toArray,List.map_cons,List.map_nil]);first|done|rfl|(simp only [List.length_drop,List.length_take];rfl)) ?_;(with_reducible refine (thresherref03_Fits.calls k a0 a2_0 a2_1 t172 _ A5.out).mono ?_);rintro e w13 ⟨rfl,hb⟩;refine ⟨_,rfl,?_⟩;have n0_:=Aside0.mk (blk_below (g:=gb169) (o:=.cells #[.int .i64 a1_0,.string a1_1] 44 (0,0)) (blk_up BK169.out) hb);have n1_:=Aside0.mk (blk_below (g:=gb170) (o:=.cells #[.int .i64 a2_0,.string a2_1] 44 (0,0)) (blk_up BK170.out) hb);have n2_:=Aside0.mk (below_step (by repeat (first|(with_reducible first|exact HB.out|apply below_alloc|apply pw_below_drewN|apply below_drew1|refine below_set ?_ GE169.out|refine below_set ?_ GE170.out)|exact HB.out)) hb);clear BK169;clear BK170;clear HB;have BK169:=n0_;have BK170:=n1_;have HB:=n2_;clear n0_ n1_ n2_;(try clear hb);(try clear hb2);(try clear hk);(try clear hi)))
  go_ret
  exact ⟨by first|rfl|(simp [errW_none,errW_some] <;> rfl)|(simp [*,errW_none,errW_some] <;> rfl),by repeat (first|(with_reducible first|exact HB.out|apply below_alloc|apply pw_below_drewN|apply below_drew1|refine below_set ?_ GE169.out|refine below_set ?_ GE170.out)|exact HB.out)⟩
 ·replace c6:=Bool.eq_false_iff.mpr c6
  subst c6
  have H1 : (some false)=some r:=by rw [if_neg (show ¬ (false=true) by decide)] at H;exact H
  clear H
  have H:=H1
  clear H1
  obtain rfl:=Option.some.inj H
  go_enter Try.func30,Try.ntmps30
  go_wp2_with (first|((with_reducible refine gate_dst (N:=4) rfl ?_);refine box_event ?hg (N:=4) ?hd (cs:=#[.int .i64 a1_0,.string a1_1]) (t:=44) ?hr ?_;(case hd=>rfl);(case hg=>rfl);(case hr=>first|(go_simp;done)|(go_simp;rfl));intro gb169 hg w14 hbox hb;have n0_:=Aside0.mk (below_step (below_up HB.out) hb);have n1_:=Aside0.mk (hbox);have n2_:=Aside0.mk ((by rw [hg];exact (below_size (below_up HB.out)) : w.heap.size≤gb169));have n3_:=Aside0.mk ((by rw [hg];exact (below_size (below_up HB.out)) : w.heap.size≤gb169));clear HB;have HB:=n0_;have BK169:=n1_;have GW169:=n2_;have GE169:=n3_;clear n0_ n1_ n2_ n3_;clear hb hbox hg)|((with_reducible refine gate_dst (N:=5) rfl ?_);refine box_event ?hg (N:=5) ?hd (cs:=#[.int .i64 a2_0,.string a2_1]) (t:=44) ?hr ?_;(case hd=>rfl);(case hg=>rfl);(case hr=>first|(go_simp;done)|(go_simp;rfl));intro gb170 hg w15 hbox hb;have n0_:=Aside0.mk (blk_below (g:=gb169) (o:=.cells #[.int .i64 a1_0,.string a1_1] 44 (0,0)) (blk_up BK169.out) hb);have n1_:=Aside0.mk (below_step (by repeat (first|(with_reducible first|exact HB.out|apply below_alloc|apply pw_below_drewN|apply below_drew1|refine below_set ?_ GE169.out)|exact HB.out)) hb);have n2_:=Aside0.mk (hbox);have n3_:=Aside0.mk ((by rw [hg];exact (below_size (by repeat (first|(with_reducible first|exact HB.out|apply below_alloc|apply pw_below_drewN|apply below_drew1|refine below_set ?_ GE169.out)|exact HB.out))) : w.heap.size≤gb170));have n4_:=Aside0.mk ((by rw [hg];exact (below_size (by repeat (first|(with_reducible first|exact HB.out|apply below_alloc|apply pw_below_drewN|apply below_drew1|refine below_set ?_ GE169.out)|exact HB.out))) : w.heap.size≤gb170));have n5_:=Aside0.mk ((by rw [hg];exact Nat.ne_of_lt (blk_lt (g:=gb169) (o:=.cells #[.int .i64 a1_0,.string a1_1] 44 (0,0)) (blk_up BK169.out)) : gb169≠gb170));have n6_:=Aside0.mk ((by rw [hg];exact Nat.ne_of_gt (blk_lt (g:=gb169) (o:=.cells #[.int .i64 a1_0,.string a1_1] 44 (0,0)) (blk_up BK169.out)) : gb170≠gb169));clear BK169;clear HB;have BK169:=n0_;have HB:=n1_;have BK170:=n2_;have GW170:=n3_;have GE170:=n4_;have NB169_170:=n5_;have NB170_169:=n6_;clear n0_ n1_ n2_ n3_ n4_ n5_ n6_;clear hb hbox hg;have hnb16:=NB169_170.out;have hnc16:=NB170_169.out;have hcz17_0 : w15.cell? ⟨gb169,0,none⟩=some (.int .i64 a1_0):=(blk_cell BK169.out 0).trans rfl;have hcz17_1 : w15.cell? ⟨gb169,1,none⟩=some (.string a1_1):=(blk_cell BK169.out 1).trans rfl;have hfz17_0:=blk_frozen BK169.out 0;have hfz17_1:=blk_frozen BK169.out 1)|((with_reducible refine gate_callee (f:=36) rfl ?_);refine goesL_ (some 11) rfl rfl Try.func36 (by kernel_rfl) rfl #[.int .i64 a0,.agg #[.int .i64 a1_0,.string a1_1]] rfl (by (try simp only [List.map_toArray,List.map_cons,List.map_nil]);first|done|rfl|(simp only [List.length_drop,List.length_take];rfl)) ?_;(with_reducible refine (thresherref03_Fits.calls k a0 a1_0 a1_1 false _ A4.out).mono ?_);rintro e w18 ⟨rfl,hb⟩;refine ⟨_,rfl,?_⟩;have n0_:=Aside0.mk (blk_below (g:=gb169) (o:=.cells #[.int .i64 a1_0,.string a1_1] 44 (0,0)) (blk_up BK169.out) hb);have n1_:=Aside0.mk (blk_below (g:=gb170) (o:=.cells #[.int .i64 a2_0,.string a2_1] 44 (0,0)) (blk_up BK170.out) hb);have n2_:=Aside0.mk (below_step (by repeat (first|(with_reducible first|exact HB.out|apply below_alloc|apply pw_below_drewN|apply below_drew1|refine below_set ?_ GE169.out|refine below_set ?_ GE170.out)|exact HB.out)) hb);clear BK169;clear BK170;clear HB;have BK169:=n0_;have BK170:=n1_;have HB:=n2_;clear n0_ n1_ n2_;(try clear hb);(try clear hb2);(try clear hk);(try clear hi);have hcz19_0 : w18.cell? ⟨gb170,0,none⟩=some (.int .i64 a2_0):=(blk_cell BK170.out 0).trans rfl;have hcz19_1 : w18.cell? ⟨gb170,1,none⟩=some (.string a2_1):=(blk_cell BK170.out 1).trans rfl;have hfz19_0:=blk_frozen BK170.out 0;have hfz19_1:=blk_frozen BK170.out 1)|((with_reducible refine gate_callee (f:=36) rfl ?_);refine goesL_ (some 14) rfl rfl Try.func36 (by kernel_rfl) rfl #[.int .i64 a0,.agg #[.int .i64 a2_0,.string a2_1]] rfl (by (try simp only [List.map_toArray,List.map_cons,List.map_nil]);first|done|rfl|(simp only [List.length_drop,List.length_take];rfl)) ?_;(with_reducible refine (thresherref03_Fits.calls k a0 a2_0 a2_1 t172 _ A5.out).mono ?_);rintro e w20 ⟨rfl,hb⟩;refine ⟨_,rfl,?_⟩;have n0_:=Aside0.mk (blk_below (g:=gb169) (o:=.cells #[.int .i64 a1_0,.string a1_1] 44 (0,0)) (blk_up BK169.out) hb);have n1_:=Aside0.mk (blk_below (g:=gb170) (o:=.cells #[.int .i64 a2_0,.string a2_1] 44 (0,0)) (blk_up BK170.out) hb);have n2_:=Aside0.mk (below_step (by repeat (first|(with_reducible first|exact HB.out|apply below_alloc|apply pw_below_drewN|apply below_drew1|refine below_set ?_ GE169.out|refine below_set ?_ GE170.out)|exact HB.out)) hb);clear BK169;clear BK170;clear HB;have BK169:=n0_;have BK170:=n1_;have HB:=n2_;clear n0_ n1_ n2_;(try clear hb);(try clear hb2);(try clear hk);(try clear hi)))
  go_ret
  exact ⟨by first|rfl|(simp [errW_none,errW_some] <;> rfl)|(simp [*,errW_none,errW_some] <;> rfl),by repeat (first|(with_reducible first|exact HB.out|apply below_alloc|apply pw_below_drewN|apply below_drew1|refine below_set ?_ GE169.out|refine below_set ?_ GE170.out)|exact HB.out)⟩
end Go.Proofs.Ytfccebnoflhkcaa.P

