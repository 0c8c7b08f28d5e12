/- Texts of FilterMay. Merged: HMayL. -/
import Derived.Test.YtbkpifcjgedjaaaQFilterMayHMay
import Derived.Test.YtbkpifcjgedjaaaQFilterMayPx5
import Derived.Test.YtbkpifcjgedjaaaQFilterMayPx4
import Derived.Test.YtbkpifcjgedjaaaQFilterMayPx6
import Derived.Test.YtbkpifcjgedjaaaQFilterMayPx7
/- FilterMay, by hand: its walk. -/
namespace Go.Proofs.YtbkpifcjgedjaaaW.PrintLast
open Go.RowKit Go.Proofs.YtbkpifcjgedjaaaW.PrintWords
theorem goesVC_ {P : Program} {ops : Array Oper} {Q : Exit→Act→World→Prop} {oi : Oper} {N : Option Tmp} {a : Act} {w : World} {K : Act→World→Prop} {f : FuncId} {fn : Func} {x : Operand} {xs : Array Operand} {ts : Array TypeId} {caps : Array Value} (hf : P.funcs[f]?=some fn) (hname : (fn.name == "runtime.NumGoroutine")=false) (hb : fn.body.isSome=true) (args : Array Value)
  (hw : Region.wanted oi (yielded ops a.tmps)=true) (hN : oi.dst=N) (hop : oi.op=.call { callee:=.value x,args:=xs,argTypes:=ts }) (hx : a.eval x=.func (.func f) #[] caps) (hargs : xs.map a.eval=args)
  (h : Calls P f (args ++ caps) w fun e w'=>∃ v,e=.returned v∧K (a.put N v) w') : if Region.wanted oi (yielded ops a.tmps)=true then Oper.wp P oi a w K Q else K (a.put N undef) w:=by
 refine call_ f (args ++ caps) hw hN ?_ h
 have he:=enters_ hf hname hb (args ++ caps) w
 unfold execOp
 simp [hop,resolve,Deferred.ofValue,invoke,hargs,he,hx]
theorem all_one {l : List Value} (h : l.all (·.oneCell')=true) : ∀ q ∈ l,q.oneCell'=true:=fun q hq=>List.all_eq_true.mp h q hq
structure Stand (p : Prop) : Prop where
 out : p
theorem stand_ {P : Program} {ops : Array Oper} {rest : List Oper} {a : Act} {Q : Exit→Act→World→Prop} {W : World} (h : Stand (wpList P ops Q rest a W)) : wpList P ops Q rest a W:=h.out
theorem store_boxU {P : Program} {ops : Array Oper} {rest : List Oper} {o : Oper} {a : Act} {Q : Exit→Act→World→Prop} {W : World} {t : TypeId} {p x : Operand} {g : Nat} {u : Value} {vs cs : Array Value}
  (hN : o.dst=none) (hgd : o.guard=none) (ho : o.op=.store t p x) (haddr : a.eval p=.pointer (some ⟨g,0,none⟩)) (hx : a.eval x=u) (hu : u.cells.toList=vs.toList) (hh : W.heap[g]?=some (.cells cs t (0,0))) (ht : (P.info? t).map (·.size)=some vs.toList.length) (hsz : vs.toList.length=cs.size) (h1 : ∀ q ∈ vs.toList,q.oneCell'=true)
  (h : ∀ w1 : World,w1.heap[g]?=some (.cells vs t (0,0))→(∀ k,k≠g→w1.heap[k]?=W.heap[k]?)→w1.heap.size=W.heap.size→(∀ (base : Nat) (w0 : World),base≤g→Below base w0 W→Below base w0 w1)→wpList P ops Q rest a w1) : wpList P ops Q (o :: rest) a W:=by
 have hrun : (Instr.storeAt t (.pointer (some ⟨g,0,none⟩)) u).run P W=.ok () (W.setCells g 0 vs.toList):=run_store_run t u vs.toList hh hu ht (by rw [hsz];omega) h1
 obtain ⟨cur',h3,h4,h5⟩:=setCells_row vs.toList 0 W cs hh (by omega)
 have e : cur'=vs:=by
  apply Array.toList_inj.mp
  rw [h5,List.take_zero,List.nil_append,List.drop_of_length_le (by rw [Array.length_toList];omega),List.append_nil]
 rw [e] at h3
 obtain ⟨s1,s2,s3,s4⟩:=setCells_same g vs.toList 0 W
 have hfar:=fun k (hk : k≠g)=>setCells_far (g:=g) vs.toList 0 (w:=W) k hk
 refine wpList_plain hgd fun K hK=>?_
 unfold Oper.wp execOp
 simp only [ho,haddr,hx,Sem.run_bind,Sem.run_pure,Result.andThen_ok,hrun]
 show K (a.put o.dst undef) _
 rw [hN]
 exact hK a _ (h _ h3 hfar s4 (fun base w0 hb hB=>hB.trans ⟨s1,s2,s3,by omega,fun k hk=>hfar k (by omega)⟩))
end Go.Proofs.YtbkpifcjgedjaaaW.PrintLast
namespace Go.Proofs.Ytbkpifcjgedjaaa.P
open Go.RowKit Go.Proofs.YtbkpifcjgedjaaaW.PrintWords Go.Proofs.YtbkpifcjgedjaaaW.PrintLast Go.Proofs.YtbkpifcjgedjaaaW.PrintMore
set_option linter.unusedVariables false
set_option linter.unusedSimpArgs false
def mk39 (a b : Int) (v : S37) : S39:=⟨a,b,v⟩
def fineB (n : Int) (T : List Int) : Bool:=(decide (n ≥ 1) && decide (n≤6)) || (decide (n=7) && decide (rd T 0=3))
structure MayH (k : Nat) (x0 x1 x2 x3 x4 x5 x6 x7 x8 x9 x10 x11 : Int) (l : List (S39)) (n : Int) (T : List Int) (a b d : Int) (fit : List (S39)) (vs : List (S37)) (col op two : Bool) : Prop where
 h_shown : thresherlaw19_shown.f k=some true
 h_made : thresherlaw19_made.f k x0 x1 x2 x3 x4 x5 x6 x7 x8 x9 x10 x11=some (T,a,b,d)
 h_fit : thresherref19_Fit.f k T a b d l 15=some fit
 h_vals : thresherref04_Fit.f k T a b d []=some vs
 h_vlen : 0 < vs.length
 h_tlen : 0 < T.length
 h_flen : fit.length≤100
 h_col : filter_May.f k T a b d (fit ++ [mk39 n 1 (rd_T37 vs 0)])=some col
 h_op : filter_May.f k T a b d (fit ++ [mk39 0 n (rd_T37 vs 0)])=some op
 h_two : filter_May.f k T a b d (fit ++ [mk39 0 2 (rd_T37 vs 0)] ++ [mk39 0 1 (rd_T37 vs 0)])=some two
 h_wrong : filter_May.f k T a b d (fit ++ [mk39 0 1 ⟨1,⟨#[120]⟩⟩])=some false
 h_none : filter_May.f k T a b d []=some true
 c1 : col=true→0≤n∧n < T.length
 c2 : col=false→n≠0
 e1 : op=fineB n T
 e2 : two=decide ((fit.length : Int) < 15)
set_option maxHeartbeats 8000000 in
set_option maxRecDepth 100000 in
theorem FilterMay_walk (k : Nat) (x0 x1 x2 x3 x4 x5 x6 x7 x8 x9 x10 x11 : Int) (A : Option Addr) (c : Nat) (l : List (S39)) (n : Int) (T : List Int) (ta tb td : Int) (fit : List (S39)) (vs : List (S37)) (col op two : Bool) (w : World) (hr : Kd.C k39 w A l.length l) (hc : l.length≤c) (h : MayH k x0 x1 x2 x3 x4 x5 x6 x7 x8 x9 x10 x11 l n T ta tb td fit vs col op two) :
  Calls Try.prog 5 #[.agg #[.int .u8 x0,.int .u8 x1,.int .u8 x2,.int .u8 x3,.int .u8 x4,.int .u8 x5,.int .u8 x6,.int .u8 x7,.int .u8 x8,.int .u8 x9,.int .u8 x10,.int .u8 x11],.slice A l.length c,.int .i64 n] w fun e w'=>e=.returned (.bool true)∧Below w.heap.size w w':=by
 have hu24:=Try.underlying24
 have hu32:=Try.underlying32
 have hu37:=Try.underlying37
 have hu39:=Try.underlying39
 have hu25:=Try.underlying25
 have H:=Aside0.mk h
 have CL:=Aside0.mk hr
 have HCL:=Aside0.mk hc
 have HB:=Aside0.mk (Below.refl w.heap.size w)
 clear hr hc h
 go_enter Try.func5,Try.ntmps5
 go_wp2_with (first|((with_reducible refine gate_dst (N:=3) rfl ?_);refine box_event ?hg (N:=3) ?hd (cs:=#[.int .u8 x0,.int .u8 x1,.int .u8 x2,.int .u8 x3,.int .u8 x4,.int .u8 x5,.int .u8 x6,.int .u8 x7,.int .u8 x8,.int .u8 x9,.int .u8 x10,.int .u8 x11]) (t:=24) ?hr ?_;(case hd=>rfl);(case hg=>rfl);(case hr=>first|(go_simp;done)|(go_simp;rfl));intro gx hg w1 hbox hb;have GEgx:=Aside0.mk ((by rw [hg];exact below_size HB.out) : w.heap.size≤gx);have n0_:=Aside0.mk (below_step HB.out hb);clear HB;have HB:=n0_;clear n0_;have BKgx:=Aside0.mk hbox;clear hb hbox hg)|(go_at_call 8;fail))
 refine (thresherlaw19_shown.calls k true _ H.out.h_shown).mono ?_
 rintro e w2 ⟨rfl,hb⟩
 have n0_:=Aside0.mk (blk_below BKgx.out hb);have n1_:=Aside0.mk (below_step HB.out hb);clear BKgx HB;have BKgx:=n0_;have HB:=n1_;clear n0_ n1_
 clear hb
 have hx0:=((blk_cell BKgx.out 0).trans rfl);have hx1:=((blk_cell BKgx.out 1).trans rfl);have hx2:=((blk_cell BKgx.out 2).trans rfl);have hx3:=((blk_cell BKgx.out 3).trans rfl);have hx4:=((blk_cell BKgx.out 4).trans rfl);have hx5:=((blk_cell BKgx.out 5).trans rfl);have hx6:=((blk_cell BKgx.out 6).trans rfl);have hx7:=((blk_cell BKgx.out 7).trans rfl);have hx8:=((blk_cell BKgx.out 8).trans rfl);have hx9:=((blk_cell BKgx.out 9).trans rfl);have hx10:=((blk_cell BKgx.out 10).trans rfl);have hx11:=((blk_cell BKgx.out 11).trans rfl)
 go_wp2_with (go_at_call 9;fail)
 refine (thresherlaw19_made.calls k x0 x1 x2 x3 x4 x5 x6 x7 x8 x9 x10 x11 T ta tb td _ H.out.h_made).mono ?_
 rintro e w3 ⟨v0,rfl,hR,hb⟩
 obtain ⟨AT,cT,eT⟩:=Kd.R_slice hR
 subst eT
 have HOT:=Aside0.mk hR
 clear hR hx0 hx1 hx2 hx3 hx4 hx5 hx6 hx7 hx8 hx9 hx10 hx11
 have n0_:=Aside0.mk (Kd.R_lower HOT.out (below_size HB.out))
 clear HOT
 have HOT:=n0_
 clear n0_
 have n0_:=Aside0.mk (blk_below BKgx.out hb);have n1_:=Aside0.mk (below_step HB.out hb);clear BKgx HB;have BKgx:=n0_;have HB:=n1_;clear n0_ n1_
 clear hb
 go_wp2_with (first|((with_reducible refine gate_dst (N:=8) rfl ?_);refine box_event ?hg (N:=8) ?hd (cs:=#[.slice none 0 0,.int .i64 0,.int .i64 0,.int .i64 0]) (t:=32) ?hr ?_;(case hd=>rfl);(case hg=>rfl);(case hr=>first|(go_simp;done)|(go_simp;rfl));intro gs hg w4 hbox hb;have GEgs:=Aside0.mk ((by rw [hg];exact below_size HB.out) : w.heap.size≤gs);have n0_:=Aside0.mk (blk_below BKgx.out hb);have n1_:=Aside0.mk (Kd.R_below HOT.out hb);have n2_:=Aside0.mk (below_step HB.out hb);clear BKgx HOT HB;have BKgx:=n0_;have HOT:=n1_;have HB:=n2_;clear n0_ n1_ n2_;have BKgs:=Aside0.mk hbox;clear hb hbox hg)|((with_reducible refine gate_ (.store 32 (.tmp 8) (.tmp 19)) rfl ?_);refine stand_ ?_))
 refine ⟨?_⟩
 (with_reducible refine gate_ (.store 32 (.tmp 8) (.tmp 19)) rfl ?_)
 refine store_boxU (g:=gs) (vs:=#[.slice AT T.length cT,.int .i64 ta,.int .i64 tb,.int .i64 td]) rfl rfl rfl ?ha rfl rfl BKgs.out ?ht ?hsz ?h1 ?_
 (case ha=>rfl)
 (case ht=>kernel_rfl)
 (case hsz=>rfl)
 (case h1=>(apply all_one;rfl))
 intro w4s hs_ hf_ hz_ hb_
 have n0_:=Aside0.mk ((hf_ _ (blk_ne BKgx.out BKgs.out (by decide))).trans BKgx.out)
 have n1_:=Aside0.mk (Kd.R_mono (Kd.R_step (Kd.R_types HOT.out BKgs.out (by decide)) (fun k_ ho_ _=>hf_ k_ ho_.2)) (fun _ h_=>h_.1))
 have n2_:=Aside0.mk (hb_ _ _ GEgs.out HB.out)
 have n3_:=Aside0.mk (hs_)
 clear BKgx HOT HB BKgs
 have BKgx:=n0_
 have HOT:=n1_
 have HB:=n2_
 have BKgs:=n3_
 clear n0_ n1_ n2_ n3_
 clear hs_ hf_ hz_ hb_
 have hgs0:=((blk_cell BKgs.out 0).trans rfl)
 have hgs1:=((blk_cell BKgs.out 1).trans rfl)
 have hgs2:=((blk_cell BKgs.out 2).trans rfl)
 have hgs3:=((blk_cell BKgs.out 3).trans rfl)
 go_wp2_with (go_at_call 10;fail)
 refine (thresherref19_Fit.calls k AT cT T ta tb td A c l 15 fit _ (Kd.R_reads' HOT.out).2.2 (Kd.R_reads' HOT.out).2.1 (Kd.C_below CL.out HB.out) HCL.out H.out.h_fit).mono ?_
 rintro e w5 ⟨vF,rfl,hF,hb⟩
 obtain ⟨AF,cF,eF⟩:=Kd.R_slice hF
 subst eF
 have HOF:=Aside0.mk (Kd.R_lower hF (below_size HB.out))
 clear hF hgs0 hgs1 hgs2 hgs3
 have n0_:=Aside0.mk (blk_below BKgx.out hb);have n1_:=Aside0.mk (blk_below BKgs.out hb);have n2_:=Aside0.mk (Kd.R_below HOT.out hb);have n3_:=Aside0.mk (below_step HB.out hb);clear BKgx BKgs HOT HB;have BKgx:=n0_;have BKgs:=n1_;have HOT:=n2_;have HB:=n3_;clear n0_ n1_ n2_ n3_
 clear hb
 go_wp2_with (first|((with_reducible refine gate_dst (N:=9) rfl ?_);refine box_event ?hg (N:=9) ?hd (cs:=#[.slice none 0 0]) (t:=25) ?hr ?_;(case hd=>rfl);(case hg=>rfl);(case hr=>first|(go_simp;done)|(go_simp;rfl));intro gf hg w5b hbox hb;have GEgf:=Aside0.mk ((by rw [hg];exact below_size HB.out) : w.heap.size≤gf);have n0_:=Aside0.mk (blk_below BKgx.out hb);have n1_:=Aside0.mk (blk_below BKgs.out hb);have n2_:=Aside0.mk (Kd.R_below HOT.out hb);have n3_:=Aside0.mk (Kd.R_below HOF.out hb);have n4_:=Aside0.mk (below_step HB.out hb);clear BKgx BKgs HOT HOF HB;have BKgx:=n0_;have BKgs:=n1_;have HOT:=n2_;have HOF:=n3_;have HB:=n4_;clear n0_ n1_ n2_ n3_ n4_;have BKgf:=Aside0.mk hbox;clear hb hbox hg)|((with_reducible refine gate_ (.store 25 (.tmp 9) (.tmp 22)) rfl ?_);refine stand_ ?_))
 refine ⟨?_⟩
 (with_reducible refine gate_ (.store 25 (.tmp 9) (.tmp 22)) rfl ?_)
 refine store_boxU (g:=gf) (vs:=#[.slice AF fit.length cF]) rfl rfl rfl ?ha rfl rfl BKgf.out ?ht ?hsz ?h1 ?_
 (case ha=>rfl)
 (case ht=>kernel_rfl)
 (case hsz=>rfl)
 (case h1=>(apply all_one;rfl))
 intro w5s hs_ hf_ hz_ hb_
 have n0_:=Aside0.mk ((hf_ _ (blk_ne BKgx.out BKgf.out (by decide))).trans BKgx.out)
 have n1_:=Aside0.mk ((hf_ _ (blk_ne BKgs.out BKgf.out (by decide))).trans BKgs.out)
 have n2_:=Aside0.mk (Kd.R_mono (Kd.R_step (Kd.R_types HOT.out BKgf.out (by decide)) (fun k_ ho_ _=>hf_ k_ ho_.2)) (fun _ h_=>h_.1))
 have n3_:=Aside0.mk (Kd.R_mono (Kd.R_step (Kd.R_types HOF.out BKgf.out (by decide)) (fun k_ ho_ _=>hf_ k_ ho_.2)) (fun _ h_=>h_.1))
 have n4_:=Aside0.mk (hb_ _ _ GEgf.out HB.out)
 have n5_:=Aside0.mk (hs_)
 clear BKgx BKgs HOT HOF HB BKgf
 have BKgx:=n0_
 have BKgs:=n1_
 have HOT:=n2_
 have HOF:=n3_
 have HB:=n4_
 have BKgf:=n5_
 clear n0_ n1_ n2_ n3_ n4_ n5_
 clear hs_ hf_ hz_ hb_
 have hgs0:=((blk_cell BKgs.out 0).trans rfl)
 have hgs1:=((blk_cell BKgs.out 1).trans rfl)
 have hgs2:=((blk_cell BKgs.out 2).trans rfl)
 have hgs3:=((blk_cell BKgs.out 3).trans rfl)
 go_wp2_with (go_at_call 18;fail)
 refine (thresherref04_Fit.calls k AT cT T ta tb td none 0 [] vs _ (Kd.R_reads' HOT.out).2.2 (Kd.R_reads' HOT.out).2.1 (Kd.C_nil _ _) (by simp) H.out.h_vals).mono ?_
 rintro e w6 ⟨vV,rfl,hV,hb⟩
 obtain ⟨AV,cV,eV⟩:=Kd.R_slice hV
 subst eV
 have HOV:=Aside0.mk hV
 clear hV hgs0 hgs1 hgs2 hgs3
 have n0_:=Aside0.mk (blk_below BKgx.out hb);have n1_:=Aside0.mk (blk_below BKgs.out hb);have n2_:=Aside0.mk (blk_below BKgf.out hb);have n3_:=Aside0.mk (Kd.R_below HOT.out hb);have n4_:=Aside0.mk (Kd.R_below HOF.out hb);have n5_:=Aside0.mk (below_step HB.out hb);clear BKgx BKgs BKgf HOT HOF HB;have BKgx:=n0_;have BKgs:=n1_;have BKgf:=n2_;have HOT:=n3_;have HOF:=n4_;have HB:=n5_;clear n0_ n1_ n2_ n3_ n4_ n5_
 clear hb
 obtain ⟨adv,ev,hv0,hv1⟩:=at_T37 (Kd.R_reads' HOV.out).2.2 0 (by omega) (by have:=H.out.h_vlen;omega)
 cases ev
 have q0 : ((0 : Int) < (vs.length : Int))=True:=eq_true (by have:=H.out.h_vlen;omega)
 have q1 : (0 < vs.length)=True:=eq_true H.out.h_vlen
 obtain ⟨v,hv⟩ : ∃ v,v=rd_T37 vs 0:=⟨_,rfl⟩
 rw [← hv] at hv0 hv1
 have HV:=Aside0.mk hv
 clear hv
 rw [show Int.toNat 0 * 2=0 from rfl,Addr.add_zero'] at hv0 hv1
 go_wp2_with (first|((with_reducible refine gate_dst (N:=10) rfl ?_);refine box_event ?hg (N:=10) ?hd (cs:=#[.int .i64 0,.string (⟨#[]⟩ : ByteArray)]) (t:=37) ?hr ?_;(case hd=>rfl);(case hg=>rfl);(case hr=>first|(go_simp;done)|(go_simp;rfl));intro gv hg w6b hbox hb;have GEgv:=Aside0.mk ((by rw [hg];exact below_size HB.out) : w.heap.size≤gv);have n0_:=Aside0.mk (blk_below BKgx.out hb);have n1_:=Aside0.mk (blk_below BKgs.out hb);have n2_:=Aside0.mk (blk_below BKgf.out hb);have n3_:=Aside0.mk (Kd.R_below HOT.out hb);have n4_:=Aside0.mk (Kd.R_below HOF.out hb);have n5_:=Aside0.mk (below_step HB.out hb);clear BKgx BKgs BKgf HOT HOF HB;have BKgx:=n0_;have BKgs:=n1_;have BKgf:=n2_;have HOT:=n3_;have HOF:=n4_;have HB:=n5_;clear n0_ n1_ n2_ n3_ n4_ n5_;have BKgv:=Aside0.mk hbox;clear hb hbox hg)|((with_reducible refine gate_ (.store 37 (.tmp 10) (.tmp 26)) rfl ?_);refine stand_ ?_))
 refine ⟨?_⟩
 clear hv0 hv1 HOV
 (with_reducible refine gate_ (.store 37 (.tmp 10) (.tmp 26)) rfl ?_)
 refine store_boxU (g:=gv) (vs:=#[.int .i64 v.f0,.string v.f1]) rfl rfl rfl ?ha rfl rfl BKgv.out ?ht ?hsz ?h1 ?_
 (case ha=>rfl)
 (case ht=>kernel_rfl)
 (case hsz=>rfl)
 (case h1=>(apply all_one;rfl))
 intro w7 hs_ hf_ hz_ hb_
 have n0_:=Aside0.mk ((hf_ _ (blk_ne BKgx.out BKgv.out (by decide))).trans BKgx.out)
 have n1_:=Aside0.mk ((hf_ _ (blk_ne BKgs.out BKgv.out (by decide))).trans BKgs.out)
 have n2_:=Aside0.mk ((hf_ _ (blk_ne BKgf.out BKgv.out (by decide))).trans BKgf.out)
 have n3_:=Aside0.mk (Kd.R_mono (Kd.R_step (Kd.R_types HOT.out BKgv.out (by decide)) (fun k_ ho_ _=>hf_ k_ ho_.2)) (fun _ h_=>h_.1))
 have n4_:=Aside0.mk (Kd.R_mono (Kd.R_step (Kd.R_types HOF.out BKgv.out (by decide)) (fun k_ ho_ _=>hf_ k_ ho_.2)) (fun _ h_=>h_.1))
 have n5_:=Aside0.mk (hb_ _ _ GEgv.out HB.out)
 have n6_:=Aside0.mk (hs_)
 clear BKgx BKgs BKgf HOT HOF HB BKgv
 have BKgx:=n0_
 have BKgs:=n1_
 have BKgf:=n2_
 have HOT:=n3_
 have HOF:=n4_
 have HB:=n5_
 have BKgv:=n6_
 clear n0_ n1_ n2_ n3_ n4_ n5_ n6_
 clear hs_ hf_ hz_ hb_
 have hgs0:=((blk_cell BKgs.out 0).trans rfl)
 have hgs1:=((blk_cell BKgs.out 1).trans rfl)
 have hgs2:=((blk_cell BKgs.out 2).trans rfl)
 have hgs3:=((blk_cell BKgs.out 3).trans rfl)
 clear q0 q1
 have CT7:=Aside0.mk (Kd.R_reads' HOT.out).2.2
 have CF7:=Aside0.mk (Kd.R_reads' HOF.out).2.2
 have HCT:=Aside0.mk (Kd.R_reads' HOT.out).2.1
 have HCOL:=Aside0.mk (show filter_May.f k T ta tb td (fit ++ [(⟨n,1,(⟨v.f0,v.f1⟩ : S37)⟩ : S39)])=some col by rw [HV.out];exact H.out.h_col)
 have HOP:=Aside0.mk (show filter_May.f k T ta tb td (fit ++ [(⟨0,n,(⟨v.f0,v.f1⟩ : S37)⟩ : S39)])=some op by rw [HV.out];exact H.out.h_op)
 have HTWO:=Aside0.mk (show filter_May.f k T ta tb td (fit ++ [(⟨0,2,(⟨v.f0,v.f1⟩ : S37)⟩ : S39)] ++ [(⟨0,1,(⟨v.f0,v.f1⟩ : S37)⟩ : S39)])=some two by rw [HV.out];exact H.out.h_two)
 have HWR:=Aside0.mk (show filter_May.f k T ta tb td (fit ++ [(⟨0,1,(⟨1,⟨#[120]⟩⟩ : S37)⟩ : S39)])=some false from H.out.h_wrong)
 have HB7:=Aside0.mk (Below.refl w7.heap.size w7)
 have LS:=Aside0.mk (blk_lt BKgs.out)
 have LV:=Aside0.mk (blk_lt BKgv.out)
 have LF:=Aside0.mk (blk_lt BKgf.out)
 have hf0:=Aside0.mk ((blk_cell BKgf.out 0).trans rfl : w7.cell? ⟨gf,0,none⟩=some (.slice AF fit.length cF))
 have hs0:=Aside0.mk hgs0
 have hs1:=Aside0.mk hgs1
 have hs2:=Aside0.mk hgs2
 have hs3:=Aside0.mk hgs3
 have hv0:=Aside0.mk ((blk_cell BKgv.out 0).trans rfl : w7.cell? ⟨gv,0,none⟩=some (.int .i64 v.f0))
 have hv1:=Aside0.mk ((blk_cell BKgv.out 1).trans rfl : w7.cell? ⟨gv,1,none⟩=some (.string v.f1))
 obtain ⟨adT,eT,hT0⟩:=Kd.at_int CT7.out 0 (by omega) (by have:=H.out.h_tlen;omega)
 rw [show Int.toNat 0=0 from rfl,Addr.add_zero'] at hT0
 have HT0:=Aside0.mk hT0
 clear hgs0 hgs1 hgs2 hgs3 HOT HOF BKgx hT0
 cases eT
 go_wp2
 have HB7:=Aside0.mk (HB7.out.drew)
 refine start_ (n:=8) (S:=fun w'=>w'.cell? ⟨gs,0,none⟩=some (.slice (some adT) T.length cT)∧w'.cell? ⟨gs,1,none⟩=some (.int .i64 ta)∧w'.cell? ⟨gs,2,none⟩=some (.int .i64 tb)∧w'.cell? ⟨gs,3,none⟩=some (.int .i64 td)∧w'.cell? ⟨gv,0,none⟩=some (.int .i64 v.f0)∧w'.cell? ⟨gv,1,none⟩=some (.string v.f1)) (ds:=[]) #[false,false,false,false,false,false,false,false] (by kernel_rfl) rfl rfl ⟨(HB7.out.cell LS.out).trans hs0.out,(HB7.out.cell LS.out).trans hs1.out,(HB7.out.cell LS.out).trans hs2.out,(HB7.out.cell LS.out).trans hs3.out,(HB7.out.cell LV.out).trans hv0.out,(HB7.out.cell LV.out).trans hv1.out⟩ (fun hHeld=>?_)
 refine pure_ (i:=1) (N:=some 29) (v:=?_) (a':=?_) #[false,true,false,false,false,false,false,false] rfl rfl (by kernel_rfl) (fun _ _ _ h=>h) (Or.inl ⟨by rfl,?_⟩) ?_ ?_
 rotate_left;(intro w';go_simp;with_reducible rfl);rotate_left;(simp only [Act.put,List.setIfInBounds_toArray,List.set_cons_zero,List.set_cons_succ,i64_w,i32_w];rfl)
 refine pure_ (i:=2) (N:=some 30) (v:=?_) (a':=?_) #[false,true,true,false,false,false,false,false] rfl rfl (by kernel_rfl) (fun _ _ _ h=>h) (Or.inl ⟨by rfl,?_⟩) ?_ ?_
 rotate_left;(intro w';go_simp;with_reducible rfl);rotate_left;(simp only [Act.put,List.setIfInBounds_toArray,List.set_cons_zero,List.set_cons_succ,i64_w,i32_w];rfl)
 refine take_ (i:=0) (N:=some 28) (v:=?_) (a':=?_) #[true,true,true,false,false,false,false,false] rfl rfl (by kernel_rfl) (fun _ _ _ h=>h) (Or.inl ⟨by rfl,?_⟩) hHeld ?_ ?_
 rotate_left;(rintro w' ⟨s0,s1,s2,s3,s4,s5⟩;go_simp;with_reducible rfl);rotate_left;(simp only [Act.put,List.setIfInBounds_toArray,List.set_cons_zero,List.set_cons_succ,i64_w,i32_w];rfl)
 refine take_ (i:=3) (N:=some 31) (v:=?_) (a':=?_) #[true,true,true,true,false,false,false,false] rfl rfl (by kernel_rfl) (fun _ _ _ h=>h) (Or.inl ⟨by rfl,?_⟩) hHeld ?_ ?_
 rotate_left;(rintro w' ⟨s0,s1,s2,s3,s4,s5⟩;go_simp;with_reducible rfl);rotate_left;(simp only [Act.put,List.setIfInBounds_toArray,List.set_cons_zero,List.set_cons_succ,i64_w,i32_w];rfl)
 refine pure_ (i:=4) (N:=some 32) (v:=?_) (a':=?_) #[true,true,true,true,true,false,false,false] rfl rfl (by kernel_rfl) (fun _ _ _ h=>h) (Or.inl ⟨by rfl,?_⟩) ?_ ?_
 rotate_left;(intro w';go_simp;with_reducible rfl);rotate_left;(simp only [Act.put,List.setIfInBounds_toArray,List.set_cons_zero,List.set_cons_succ,i64_w,i32_w];rfl)
 refine one_ (i:=5) (N:=some 33) #[true,true,true,true,true,true,false,false] rfl rfl (by kernel_rfl) (by decide) (fun K hK=>?_)
 refine goesVC_ Try.func19 (by kernel_rfl) rfl #[.agg #[.int .i64 n,.int .i64 1,.int .i64 v.f0,.string v.f1]] (by rfl) rfl rfl rfl (by simp only [List.map_toArray,List.map_cons,List.map_nil];rfl) ?_
 refine (with_any ⟨n,1,v⟩ gf AF fit.length cF fit _ (blk_below BKgf.out HB7.out) (Kd.C_below CF7.out HB7.out) H.out.h_flen).mono ?_
 rintro e wc ⟨u33,rfl,hU,hb⟩
 refine ⟨_,rfl,?_⟩
 have n0_:=Aside0.mk (Kd.R_lower hU (below_size HB7.out))
 have n1_:=Aside0.mk (below_step HB7.out hb)
 clear HB7
 have HU:=n0_
 have HB7:=n1_
 clear n0_ n1_
 clear hU hb
 refine hK.out _ _ ⟨(HB7.out.cell LS.out).trans hs0.out,(HB7.out.cell LS.out).trans hs1.out,(HB7.out.cell LS.out).trans hs2.out,(HB7.out.cell LS.out).trans hs3.out,(HB7.out.cell LV.out).trans hv0.out,(HB7.out.cell LV.out).trans hv1.out⟩ (fun hHeld=>?_)
 clear hK K
 refine norm_ (a':=?_) ?_ ?_
 rotate_left
 ·show Act.put _ (some 33) _=_
  simp only [Act.put,List.setIfInBounds_toArray,List.set_cons_zero,List.set_cons_succ,i64_w,i32_w]
  rfl
 refine one_ (i:=6) (N:=some 34) #[true,true,true,true,true,true,true,false] rfl rfl (by kernel_rfl) (by decide) (fun K hK=>?_)
 obtain ⟨AU,cU,eU⟩:=Kd.R_slice HU.out
 subst eU
 refine goes_ Try.func20 (by kernel_rfl) rfl #[.agg #[.slice (some adT) T.length cT,.int .i64 ta,.int .i64 tb,.int .i64 td],.slice AU (fit ++ [(⟨n,1,(⟨v.f0,v.f1⟩ : S37)⟩ : S39)]).length cU] (by rfl) rfl rfl (by simp only [List.map_toArray,List.map_cons,List.map_nil];rfl) ?_
 with_reducible refine (filter_May.calls k (some adT) cT T ta tb td AU cU (fit ++ [(⟨n,1,(⟨v.f0,v.f1⟩ : S37)⟩ : S39)]) col _ (Kd.C_below CT7.out HB7.out) HCT.out (Kd.R_reads' HU.out).2.2 (Kd.R_reads' HU.out).2.1 HCOL.out).mono ?_
 rintro e wc ⟨rfl,hb⟩
 refine ⟨_,rfl,?_⟩
 have n0_:=Aside0.mk (below_step HB7.out hb)
 clear HB7
 have HB7:=n0_
 clear n0_
 clear hb HU
 refine hK.out _ _ ⟨(HB7.out.cell LS.out).trans hs0.out,(HB7.out.cell LS.out).trans hs1.out,(HB7.out.cell LS.out).trans hs2.out,(HB7.out.cell LS.out).trans hs3.out,(HB7.out.cell LV.out).trans hv0.out,(HB7.out.cell LV.out).trans hv1.out⟩ (fun hHeld=>?_)
 clear hK K
 refine norm_ (a':=?_) ?_ ?_
 rotate_left
 ·show Act.put _ (some 34) _=_
  simp only [Act.put,List.setIfInBounds_toArray,List.set_cons_zero,List.set_cons_succ,i64_w,i32_w]
  rfl
 refine pure_ (i:=7) (N:=some 12) (v:=?_) (a':=?_) #[true,true,true,true,true,true,true,true] rfl rfl (by kernel_rfl) (fun _ _ _ h=>h) (Or.inl ⟨by rfl,?_⟩) ?_ ?_
 rotate_left;(intro w';go_simp;with_reducible rfl);rotate_left;(simp only [Act.put,List.setIfInBounds_toArray,List.set_cons_zero,List.set_cons_succ,i64_w,i32_w];rfl)
 refine done_ (by kernel_rfl) ?_
 (try clear hHeld)
 go_wp2
 have n0_:=Aside0.mk (HB7.out.drew)
 clear HB7
 have HB7:=n0_
 clear n0_
 refine start_ (n:=8) (S:=fun w'=>w'.cell? ⟨gs,0,none⟩=some (.slice (some adT) T.length cT)∧w'.cell? ⟨gs,1,none⟩=some (.int .i64 ta)∧w'.cell? ⟨gs,2,none⟩=some (.int .i64 tb)∧w'.cell? ⟨gs,3,none⟩=some (.int .i64 td)∧w'.cell? ⟨gv,0,none⟩=some (.int .i64 v.f0)∧w'.cell? ⟨gv,1,none⟩=some (.string v.f1)) (ds:=[]) #[false,false,false,false,false,false,false,false] (by kernel_rfl) rfl rfl ⟨(HB7.out.cell LS.out).trans hs0.out,(HB7.out.cell LS.out).trans hs1.out,(HB7.out.cell LS.out).trans hs2.out,(HB7.out.cell LS.out).trans hs3.out,(HB7.out.cell LV.out).trans hv0.out,(HB7.out.cell LV.out).trans hv1.out⟩ (fun hHeld=>?_)
 refine pure_ (i:=1) (N:=some 36) (v:=?_) (a':=?_) #[false,true,false,false,false,false,false,false] rfl rfl (by kernel_rfl) (fun _ _ _ h=>h) (Or.inl ⟨by rfl,?_⟩) ?_ ?_
 rotate_left;(intro w';go_simp;with_reducible rfl);rotate_left;(simp only [Act.put,List.setIfInBounds_toArray,List.set_cons_zero,List.set_cons_succ,i64_w,i32_w];rfl)
 refine pure_ (i:=2) (N:=some 37) (v:=?_) (a':=?_) #[false,true,true,false,false,false,false,false] rfl rfl (by kernel_rfl) (fun _ _ _ h=>h) (Or.inl ⟨by rfl,?_⟩) ?_ ?_
 rotate_left;(intro w';go_simp;with_reducible rfl);rotate_left;(simp only [Act.put,List.setIfInBounds_toArray,List.set_cons_zero,List.set_cons_succ,i64_w,i32_w];rfl)
 refine take_ (i:=0) (N:=some 35) (v:=?_) (a':=?_) #[true,true,true,false,false,false,false,false] rfl rfl (by kernel_rfl) (fun _ _ _ h=>h) (Or.inl ⟨by rfl,?_⟩) hHeld ?_ ?_
 rotate_left;(rintro w' ⟨s0,s1,s2,s3,s4,s5⟩;go_simp;with_reducible rfl);rotate_left;(simp only [Act.put,List.setIfInBounds_toArray,List.set_cons_zero,List.set_cons_succ,i64_w,i32_w];rfl)
 refine take_ (i:=3) (N:=some 38) (v:=?_) (a':=?_) #[true,true,true,true,false,false,false,false] rfl rfl (by kernel_rfl) (fun _ _ _ h=>h) (Or.inl ⟨by rfl,?_⟩) hHeld ?_ ?_
 rotate_left;(rintro w' ⟨s0,s1,s2,s3,s4,s5⟩;go_simp;with_reducible rfl);rotate_left;(simp only [Act.put,List.setIfInBounds_toArray,List.set_cons_zero,List.set_cons_succ,i64_w,i32_w];rfl)
 refine pure_ (i:=4) (N:=some 39) (v:=?_) (a':=?_) #[true,true,true,true,true,false,false,false] rfl rfl (by kernel_rfl) (fun _ _ _ h=>h) (Or.inl ⟨by rfl,?_⟩) ?_ ?_
 rotate_left;(intro w';go_simp;with_reducible rfl);rotate_left;(simp only [Act.put,List.setIfInBounds_toArray,List.set_cons_zero,List.set_cons_succ,i64_w,i32_w];rfl)
 refine one_ (i:=5) (N:=some 40) #[true,true,true,true,true,true,false,false] rfl rfl (by kernel_rfl) (by decide) (fun K hK=>?_)
 refine goesVC_ Try.func19 (by kernel_rfl) rfl #[.agg #[.int .i64 0,.int .i64 n,.int .i64 v.f0,.string v.f1]] (by rfl) rfl rfl rfl (by simp only [List.map_toArray,List.map_cons,List.map_nil];rfl) ?_
 refine (with_any ⟨0,n,v⟩ gf AF fit.length cF fit _ (blk_below BKgf.out HB7.out) (Kd.C_below CF7.out HB7.out) H.out.h_flen).mono ?_
 rintro e wc ⟨u40,rfl,hU,hb⟩
 refine ⟨_,rfl,?_⟩
 have n0_:=Aside0.mk (Kd.R_lower hU (below_size HB7.out))
 have n1_:=Aside0.mk (below_step HB7.out hb)
 clear HB7
 have HU:=n0_
 have HB7:=n1_
 clear n0_ n1_
 clear hU hb
 refine hK.out _ _ ⟨(HB7.out.cell LS.out).trans hs0.out,(HB7.out.cell LS.out).trans hs1.out,(HB7.out.cell LS.out).trans hs2.out,(HB7.out.cell LS.out).trans hs3.out,(HB7.out.cell LV.out).trans hv0.out,(HB7.out.cell LV.out).trans hv1.out⟩ (fun hHeld=>?_)
 clear hK K
 refine norm_ (a':=?_) ?_ ?_
 rotate_left
 ·show Act.put _ (some 40) _=_
  simp only [Act.put,List.setIfInBounds_toArray,List.set_cons_zero,List.set_cons_succ,i64_w,i32_w]
  rfl
 refine one_ (i:=6) (N:=some 41) #[true,true,true,true,true,true,true,false] rfl rfl (by kernel_rfl) (by decide) (fun K hK=>?_)
 obtain ⟨AU,cU,eU⟩:=Kd.R_slice HU.out
 subst eU
 refine goes_ Try.func20 (by kernel_rfl) rfl #[.agg #[.slice (some adT) T.length cT,.int .i64 ta,.int .i64 tb,.int .i64 td],.slice AU (fit ++ [(⟨0,n,(⟨v.f0,v.f1⟩ : S37)⟩ : S39)]).length cU] (by rfl) rfl rfl (by simp only [List.map_toArray,List.map_cons,List.map_nil];rfl) ?_
 with_reducible refine (filter_May.calls k (some adT) cT T ta tb td AU cU (fit ++ [(⟨0,n,(⟨v.f0,v.f1⟩ : S37)⟩ : S39)]) op _ (Kd.C_below CT7.out HB7.out) HCT.out (Kd.R_reads' HU.out).2.2 (Kd.R_reads' HU.out).2.1 HOP.out).mono ?_
 rintro e wc ⟨rfl,hb⟩
 refine ⟨_,rfl,?_⟩
 have n0_:=Aside0.mk (below_step HB7.out hb)
 clear HB7
 have HB7:=n0_
 clear n0_
 clear hb HU
 refine hK.out _ _ ⟨(HB7.out.cell LS.out).trans hs0.out,(HB7.out.cell LS.out).trans hs1.out,(HB7.out.cell LS.out).trans hs2.out,(HB7.out.cell LS.out).trans hs3.out,(HB7.out.cell LV.out).trans hv0.out,(HB7.out.cell LV.out).trans hv1.out⟩ (fun hHeld=>?_)
 clear hK K
 refine norm_ (a':=?_) ?_ ?_
 rotate_left
 ·show Act.put _ (some 41) _=_
  simp only [Act.put,List.setIfInBounds_toArray,List.set_cons_zero,List.set_cons_succ,i64_w,i32_w]
  rfl
 refine pure_ (i:=7) (N:=some 13) (v:=?_) (a':=?_) #[true,true,true,true,true,true,true,true] rfl rfl (by kernel_rfl) (fun _ _ _ h=>h) (Or.inl ⟨by rfl,?_⟩) ?_ ?_
 rotate_left;(intro w';go_simp;with_reducible rfl);rotate_left;(simp only [Act.put,List.setIfInBounds_toArray,List.set_cons_zero,List.set_cons_succ,i64_w,i32_w];rfl)
 refine done_ (by kernel_rfl) ?_
 (try clear hHeld)
 have hT0:=(HB7.out.cell (World.block_lt_of_cell? _ _ HT0.out)).trans HT0.out
 have hc0:=(HB7.out.cell LS.out).trans hs0.out
 have q0 : ((0 : Int) < (T.length : Int))=True:=eq_true (by have:=H.out.h_tlen;omega)
 have q1 : (0 < T.length)=True:=eq_true H.out.h_tlen
 obtain ⟨t0,ht0⟩ : ∃ t,t=rd T 0:=⟨_,rfl⟩
 rw [← ht0] at hT0
 have HFI:=Aside0.mk (show op=((decide (n ≥ 1) && decide (n≤6)) || (decide (n=7) && decide (t0=3))) by rw [ht0];exact H.out.e1)
 clear ht0
 by_cases n1 : n ≥ 1
 ·have d1 : decide (n ≥ 1)=true:=decide_eq_true n1
  by_cases n6 : n≤6
  ·have d2 : decide (n≤6)=true:=decide_eq_true n6
   obtain rfl : op=true:=by rw [HFI.out,d1,d2];rfl
   clear HFI
   go_wp2
   have n0_:=Aside0.mk (HB7.out.drew)
   clear HB7 hT0 hc0
   have HB7:=n0_
   clear n0_
   refine start_ (n:=11) (S:=fun w'=>w'.cell? ⟨gs,0,none⟩=some (.slice (some adT) T.length cT)∧w'.cell? ⟨gs,1,none⟩=some (.int .i64 ta)∧w'.cell? ⟨gs,2,none⟩=some (.int .i64 tb)∧w'.cell? ⟨gs,3,none⟩=some (.int .i64 td)∧w'.cell? ⟨gv,0,none⟩=some (.int .i64 v.f0)∧w'.cell? ⟨gv,1,none⟩=some (.string v.f1)) (ds:=[]) #[false,false,false,false,false,false,false,false,false,false,false] (by kernel_rfl) rfl rfl ⟨(HB7.out.cell LS.out).trans hs0.out,(HB7.out.cell LS.out).trans hs1.out,(HB7.out.cell LS.out).trans hs2.out,(HB7.out.cell LS.out).trans hs3.out,(HB7.out.cell LV.out).trans hv0.out,(HB7.out.cell LV.out).trans hv1.out⟩ (fun hHeld=>?_)
   refine pure_ (i:=1) (N:=some 60) (v:=?_) (a':=?_) #[false,true,false,false,false,false,false,false,false,false,false] rfl rfl (by kernel_rfl) (fun _ _ _ h=>h) (Or.inl ⟨by rfl,?_⟩) ?_ ?_
   rotate_left;(intro w';go_simp;with_reducible rfl);rotate_left;(simp only [Act.put,List.setIfInBounds_toArray,List.set_cons_zero,List.set_cons_succ,i64_w,i32_w];rfl)
   refine take_ (i:=0) (N:=some 59) (v:=?_) (a':=?_) #[true,true,false,false,false,false,false,false,false,false,false] rfl rfl (by kernel_rfl) (fun _ _ _ h=>h) (Or.inl ⟨by rfl,?_⟩) hHeld ?_ ?_
   rotate_left;(rintro w' ⟨s0,s1,s2,s3,s4,s5⟩;go_simp;with_reducible rfl);rotate_left;(simp only [Act.put,List.setIfInBounds_toArray,List.set_cons_zero,List.set_cons_succ,i64_w,i32_w];rfl)
   refine take_ (i:=2) (N:=some 61) (v:=?_) (a':=?_) #[true,true,true,false,false,false,false,false,false,false,false] rfl rfl (by kernel_rfl) (fun _ _ _ h=>h) (Or.inl ⟨by rfl,?_⟩) hHeld ?_ ?_
   rotate_left;(rintro w' ⟨s0,s1,s2,s3,s4,s5⟩;go_simp;with_reducible rfl);rotate_left;(simp only [Act.put,List.setIfInBounds_toArray,List.set_cons_zero,List.set_cons_succ,i64_w,i32_w];rfl)
   refine pure_ (i:=3) (N:=some 62) (v:=?_) (a':=?_) #[true,true,true,true,false,false,false,false,false,false,false] rfl rfl (by kernel_rfl) (fun _ _ _ h=>h) (Or.inl ⟨by rfl,?_⟩) ?_ ?_
   rotate_left;(intro w';go_simp;with_reducible rfl);rotate_left;(simp only [Act.put,List.setIfInBounds_toArray,List.set_cons_zero,List.set_cons_succ,i64_w,i32_w];rfl)
   refine take_ (i:=5) (N:=some 64) (v:=?_) (a':=?_) #[true,true,true,true,false,true,false,false,false,false,false] rfl rfl (by kernel_rfl) (fun _ _ _ h=>h) (Or.inl ⟨by rfl,?_⟩) hHeld ?_ ?_
   rotate_left;(rintro w' ⟨s0,s1,s2,s3,s4,s5⟩;go_simp;with_reducible rfl);rotate_left;(simp only [Act.put,List.setIfInBounds_toArray,List.set_cons_zero,List.set_cons_succ,i64_w,i32_w];rfl)
   refine pure_ (i:=6) (N:=some 65) (v:=?_) (a':=?_) #[true,true,true,true,false,true,true,false,false,false,false] rfl rfl (by kernel_rfl) (fun _ _ _ h=>h) (Or.inl ⟨by rfl,?_⟩) ?_ ?_
   rotate_left;(intro w';go_simp;with_reducible rfl);rotate_left;(simp only [Act.put,List.setIfInBounds_toArray,List.set_cons_zero,List.set_cons_succ,i64_w,i32_w];rfl)
   refine join_ (σ:=Value × Value) 3 #[true,true,true,true,true,true,true,true,false,false,false] (fun s=>[(63,s.1),(66,s.2)]) (fun s w'=>Aside0 (Kd.R k39 39 w' w7.heap.size (fun _=>True) s.1 (fit ++ [(⟨0,2,(⟨v.f0,v.f1⟩ : S37)⟩ : S39)]))∧Aside0 (Kd.R k39 39 w' w7.heap.size (fun _=>True) s.2 [(⟨0,1,(⟨v.f0,v.f1⟩ : S37)⟩ : S39)])∧Aside0 (Below w7.heap.size w7 w')) ?_ ?_
   rotate_left
   ·intro hCont
    refine two_ (i:=4) (j:=7) (Ni:=some 63) (Nj:=some 66) #[true,true,true,true,true,true,true,false,false,false,false] #[true,true,true,true,false,true,true,true,false,false,false] rfl rfl rfl rfl (by kernel_rfl) (by decide) (by decide) (fun K hK=>?_) (fun K hK=>?_)
    ·skip
     refine goesVC_ Try.func19 (by kernel_rfl) rfl #[.agg #[.int .i64 0,.int .i64 2,.int .i64 v.f0,.string v.f1]] (by rfl) rfl rfl rfl (by simp only [List.map_toArray,List.map_cons,List.map_nil];rfl) ?_
     refine (with_any ⟨0,2,v⟩ gf AF fit.length cF fit _ (blk_below BKgf.out HB7.out) (Kd.C_below CF7.out HB7.out) H.out.h_flen).mono ?_
     rintro e wc ⟨u63,rfl,hU,hb⟩
     refine ⟨_,rfl,?_⟩
     have n0_:=Aside0.mk (Kd.R_lower hU (below_size HB7.out))
     have n1_:=Aside0.mk (below_step HB7.out hb)
     clear HB7
     have HU:=n0_
     have HB7:=n1_
     clear n0_ n1_
     clear hU hb
     refine hK.out _ _ ⟨(HB7.out.cell LS.out).trans hs0.out,(HB7.out.cell LS.out).trans hs1.out,(HB7.out.cell LS.out).trans hs2.out,(HB7.out.cell LS.out).trans hs3.out,(HB7.out.cell LV.out).trans hv0.out,(HB7.out.cell LV.out).trans hv1.out⟩ (fun hHeld=>?_)
     clear hK K
     refine norm_ (a':=?_) ?_ ?_
     rotate_left
     ·show Act.put _ (some 63) _=_
      simp only [Act.put,List.setIfInBounds_toArray,List.set_cons_zero,List.set_cons_succ,i64_w,i32_w]
      rfl
     refine one_ (i:=7) (N:=some 66) #[true,true,true,true,true,true,true,true,false,false,false] rfl rfl (by kernel_rfl) (by decide) (fun K hK=>?_)
     refine Kd.R_lit_step k39 _ 39 ?hg (N:=66) ?hd (xs:=([(⟨0,1,(⟨v.f0,v.f1⟩ : S37)⟩ : S39)] : List (S39))) (inner:=[.int .i64 0,.int .i64 1,.int .i64 v.f0,.string v.f1]) (ok:=fun _=>True) (okp:=fun _=>True) ?hr ?hp (fun _ hk=>hk) trivial (Below.refl _ _) (Nat.le_refl _) (by simp) ?_
     (case hd=>rfl)
     (case hg=>rfl)
     (case hr=>first|(go_simp;done)|(go_simp;rfl))
     (case hp=>exact (Reps.c4 (k39_mkM _ _ _ (⟨0,1,(⟨v.f0,v.f1⟩ : S37)⟩ : S39)) (Reps.none _ _)))
     intro u66 wa ho hb hg_ hnew_
     clear hg_ hnew_
     have n0_:=Aside0.mk (Kd.R_elder' HU.out (Kd.R_base ho) hb)
     have n1_:=Aside0.mk (Kd.R_lower (Kd.R_new' ho (Kd.R_lt HU.out)) (below_size HB7.out))
     have n2_:=Aside0.mk (below_step HB7.out hb)
     clear HU HB7
     have HU:=n0_
     have HL:=n1_
     have HB7:=n2_
     clear n0_ n1_ n2_
     clear hb ho
     refine hK.out _ _ ⟨(HB7.out.cell LS.out).trans hs0.out,(HB7.out.cell LS.out).trans hs1.out,(HB7.out.cell LS.out).trans hs2.out,(HB7.out.cell LS.out).trans hs3.out,(HB7.out.cell LV.out).trans hv0.out,(HB7.out.cell LV.out).trans hv1.out⟩ (fun hHeld=>?_)
     clear hK K
     refine norm_ (a':=?_) ?_ ?_
     rotate_left
     ·show Act.put _ (some 66) _=_
      simp only [Act.put,List.setIfInBounds_toArray,List.set_cons_zero,List.set_cons_succ,i64_w,i32_w]
      rfl
     exact norm_ (by simp only [putAll,Act.put,List.setIfInBounds_toArray,List.set_cons_zero,List.set_cons_succ]) (hCont (u63,u66) _ ⟨⟨Kd.R_mono HU.out (fun _ _=>trivial)⟩,⟨Kd.R_mono HL.out (fun _ _=>trivial)⟩,HB7⟩)
    ·skip
     refine Kd.R_lit_step k39 _ 39 ?hg (N:=66) ?hd (xs:=([(⟨0,1,(⟨v.f0,v.f1⟩ : S37)⟩ : S39)] : List (S39))) (inner:=[.int .i64 0,.int .i64 1,.int .i64 v.f0,.string v.f1]) (ok:=fun _=>True) (okp:=fun _=>True) ?hr ?hp (fun _ hk=>hk) trivial (Below.refl _ _) (Nat.le_refl _) (by simp) ?_
     (case hd=>rfl)
     (case hg=>rfl)
     (case hr=>first|(go_simp;done)|(go_simp;rfl))
     (case hp=>exact (Reps.c4 (k39_mkM _ _ _ (⟨0,1,(⟨v.f0,v.f1⟩ : S37)⟩ : S39)) (Reps.none _ _)))
     intro u66 wa ho hb hg_ hnew_
     clear hg_ hnew_
     have n0_:=Aside0.mk (Kd.R_lower ho (below_size HB7.out))
     have n1_:=Aside0.mk (below_step HB7.out hb)
     clear HB7
     have HL:=n0_
     have HB7:=n1_
     clear n0_ n1_
     clear hb ho
     refine hK.out _ _ ⟨(HB7.out.cell LS.out).trans hs0.out,(HB7.out.cell LS.out).trans hs1.out,(HB7.out.cell LS.out).trans hs2.out,(HB7.out.cell LS.out).trans hs3.out,(HB7.out.cell LV.out).trans hv0.out,(HB7.out.cell LV.out).trans hv1.out⟩ (fun hHeld=>?_)
     clear hK K
     refine norm_ (a':=?_) ?_ ?_
     rotate_left
     ·show Act.put _ (some 66) _=_
      simp only [Act.put,List.setIfInBounds_toArray,List.set_cons_zero,List.set_cons_succ,i64_w,i32_w]
      rfl
     refine one_ (i:=4) (N:=some 63) #[true,true,true,true,true,true,true,true,false,false,false] rfl rfl (by kernel_rfl) (by decide) (fun K hK=>?_)
     refine goesVC_ Try.func19 (by kernel_rfl) rfl #[.agg #[.int .i64 0,.int .i64 2,.int .i64 v.f0,.string v.f1]] (by rfl) rfl rfl rfl (by simp only [List.map_toArray,List.map_cons,List.map_nil];rfl) ?_
     refine (with_any ⟨0,2,v⟩ gf AF fit.length cF fit _ (blk_below BKgf.out HB7.out) (Kd.C_below CF7.out HB7.out) H.out.h_flen).mono ?_
     rintro e wc ⟨u63,rfl,hU,hb⟩
     refine ⟨_,rfl,?_⟩
     have n0_:=Aside0.mk (Kd.R_elder' HL.out (Kd.R_base hU) hb)
     have n1_:=Aside0.mk (Kd.R_lower (Kd.R_new' hU (Kd.R_lt HL.out)) (below_size HB7.out))
     have n2_:=Aside0.mk (below_step HB7.out hb)
     clear HL HB7
     have HL:=n0_
     have HU:=n1_
     have HB7:=n2_
     clear n0_ n1_ n2_
     clear hU hb
     refine hK.out _ _ ⟨(HB7.out.cell LS.out).trans hs0.out,(HB7.out.cell LS.out).trans hs1.out,(HB7.out.cell LS.out).trans hs2.out,(HB7.out.cell LS.out).trans hs3.out,(HB7.out.cell LV.out).trans hv0.out,(HB7.out.cell LV.out).trans hv1.out⟩ (fun hHeld=>?_)
     clear hK K
     refine norm_ (a':=?_) ?_ ?_
     rotate_left
     ·show Act.put _ (some 63) _=_
      simp only [Act.put,List.setIfInBounds_toArray,List.set_cons_zero,List.set_cons_succ,i64_w,i32_w]
      rfl
     exact norm_ (by simp only [putAll,Act.put,List.setIfInBounds_toArray,List.set_cons_zero,List.set_cons_succ]) (hCont (u63,u66) _ ⟨⟨Kd.R_mono HU.out (fun _ _=>trivial)⟩,⟨Kd.R_mono HL.out (fun _ _=>trivial)⟩,HB7⟩)
   clear HB7 hHeld
   rintro ⟨u63,u66⟩ w9 ⟨HU,HL,HB7⟩
   have hHeld : (fun w' : World=>w'.cell? ⟨gs,0,none⟩=some (.slice (some adT) T.length cT)∧w'.cell? ⟨gs,1,none⟩=some (.int .i64 ta)∧w'.cell? ⟨gs,2,none⟩=some (.int .i64 tb)∧w'.cell? ⟨gs,3,none⟩=some (.int .i64 td)∧w'.cell? ⟨gv,0,none⟩=some (.int .i64 v.f0)∧w'.cell? ⟨gv,1,none⟩=some (.string v.f1)) w9:=⟨(HB7.out.cell LS.out).trans hs0.out,(HB7.out.cell LS.out).trans hs1.out,(HB7.out.cell LS.out).trans hs2.out,(HB7.out.cell LS.out).trans hs3.out,(HB7.out.cell LV.out).trans hv0.out,(HB7.out.cell LV.out).trans hv1.out⟩
   refine norm_ (a':=?_) ?_ ?_
   rotate_left
   ·simp only [putAll,Act.put,List.setIfInBounds_toArray,List.set_cons_zero,List.set_cons_succ]
    rfl
   refine one_ (i:=8) (N:=some 67) #[true,true,true,true,true,true,true,true,true,false,false] rfl rfl (by kernel_rfl) (by decide) (fun K hK=>?_)
   obtain ⟨A8,c8,e8⟩:=Kd.R_slice HL.out
   subst e8
   refine Kd.R_append_rows_step k39 (w0:=w7) w7.heap.size (by rfl) (.tmp 63) (.tmp 66) 25 39 (.agg #[(.int .i64 0),(.int .i64 0),(.int .i64 0),(.string ⟨#[]⟩)]) 40 rfl Try.underlying25 info39 rfl (by decide) (by omega) u63 (fit ++ [(⟨0,2,(⟨v.f0,v.f1⟩ : S37)⟩ : S39)]) [(⟨0,1,(⟨v.f0,v.f1⟩ : S37)⟩ : S39)] _ _ _ (fun _=>True) (fun _=>False) rfl rfl ?aO ?aR (fun _ _ h=>h) (fun _ h=>h.elim) ?aF HB7.out (below_size HB7.out) ?aL ?_
   (case aR=>exact (Kd.R_reads' HL.out).2.2)
   (case aO=>exact HU.out)
   (case aF=>exact (fun _ _=>trivial))
   (case aL=>have:=H.out.h_flen;simp only [List.length_append,List.length_cons,List.length_nil];omega)
   intro u67 wa ho hb hg hat
   have n0_:=Aside0.mk (ho)
   have n1_:=Aside0.mk (hb)
   clear HU HB7
   have HU:=n0_
   have HB7:=n1_
   clear n0_ n1_
   clear ho hb hg hat HL
   refine hK.out _ _ ⟨(HB7.out.cell LS.out).trans hs0.out,(HB7.out.cell LS.out).trans hs1.out,(HB7.out.cell LS.out).trans hs2.out,(HB7.out.cell LS.out).trans hs3.out,(HB7.out.cell LV.out).trans hv0.out,(HB7.out.cell LV.out).trans hv1.out⟩ (fun hHeld=>?_)
   clear hK K
   refine norm_ (a':=?_) ?_ ?_
   rotate_left
   ·show Act.put _ (some 67) _=_
    simp only [Act.put,List.setIfInBounds_toArray,List.set_cons_zero,List.set_cons_succ,i64_w,i32_w]
    rfl
   refine one_ (i:=9) (N:=some 68) #[true,true,true,true,true,true,true,true,true,true,false] rfl rfl (by kernel_rfl) (by decide) (fun K hK=>?_)
   obtain ⟨AU,cU,eU⟩:=Kd.R_slice HU.out
   subst eU
   refine goes_ Try.func20 (by kernel_rfl) rfl #[.agg #[.slice (some adT) T.length cT,.int .i64 ta,.int .i64 tb,.int .i64 td],.slice AU (fit ++ [(⟨0,2,(⟨v.f0,v.f1⟩ : S37)⟩ : S39)] ++ [(⟨0,1,(⟨v.f0,v.f1⟩ : S37)⟩ : S39)]).length cU] (by rfl) rfl rfl (by simp only [List.map_toArray,List.map_cons,List.map_nil];rfl) ?_
   with_reducible refine (filter_May.calls k (some adT) cT T ta tb td AU cU (fit ++ [(⟨0,2,(⟨v.f0,v.f1⟩ : S37)⟩ : S39)] ++ [(⟨0,1,(⟨v.f0,v.f1⟩ : S37)⟩ : S39)]) two _ (Kd.C_below CT7.out HB7.out) HCT.out (Kd.R_reads' HU.out).2.2 (Kd.R_reads' HU.out).2.1 HTWO.out).mono ?_
   rintro e wc ⟨rfl,hb⟩
   refine ⟨_,rfl,?_⟩
   have n0_:=Aside0.mk (below_step HB7.out hb)
   clear HB7
   have HB7:=n0_
   clear n0_
   clear hb HU
   refine hK.out _ _ ⟨(HB7.out.cell LS.out).trans hs0.out,(HB7.out.cell LS.out).trans hs1.out,(HB7.out.cell LS.out).trans hs2.out,(HB7.out.cell LS.out).trans hs3.out,(HB7.out.cell LV.out).trans hv0.out,(HB7.out.cell LV.out).trans hv1.out⟩ (fun hHeld=>?_)
   clear hK K
   refine norm_ (a':=?_) ?_ ?_
   rotate_left
   ·show Act.put _ (some 68) _=_
    simp only [Act.put,List.setIfInBounds_toArray,List.set_cons_zero,List.set_cons_succ,i64_w,i32_w]
    rfl
   refine pure_ (i:=10) (N:=some 15) (v:=?_) (a':=?_) #[true,true,true,true,true,true,true,true,true,true,true] rfl rfl (by kernel_rfl) (fun _ _ _ h=>h) (Or.inl ⟨by rfl,?_⟩) ?_ ?_
   rotate_left;(intro w';go_simp;with_reducible rfl);rotate_left;(simp only [Act.put,List.setIfInBounds_toArray,List.set_cons_zero,List.set_cons_succ,i64_w,i32_w];rfl)
   refine done_ (by kernel_rfl) ?_
   (try clear hHeld)
   go_wp2
   have n0_:=Aside0.mk (HB7.out.drew)
   clear HB7
   have HB7:=n0_
   clear n0_
   refine start_ (n:=7) (S:=fun w'=>w'.cell? ⟨gs,0,none⟩=some (.slice (some adT) T.length cT)∧w'.cell? ⟨gs,1,none⟩=some (.int .i64 ta)∧w'.cell? ⟨gs,2,none⟩=some (.int .i64 tb)∧w'.cell? ⟨gs,3,none⟩=some (.int .i64 td)) (ds:=[]) #[false,false,false,false,false,false,false] (by kernel_rfl) rfl rfl ⟨(HB7.out.cell LS.out).trans hs0.out,(HB7.out.cell LS.out).trans hs1.out,(HB7.out.cell LS.out).trans hs2.out,(HB7.out.cell LS.out).trans hs3.out⟩ (fun hHeld=>?_)
   refine pure_ (i:=1) (N:=some 70) (v:=?_) (a':=?_) #[false,true,false,false,false,false,false] rfl rfl (by kernel_rfl) (fun _ _ _ h=>h) (Or.inl ⟨by rfl,?_⟩) ?_ ?_
   rotate_left;(intro w';go_simp;with_reducible rfl);rotate_left;(simp only [Act.put,List.setIfInBounds_toArray,List.set_cons_zero,List.set_cons_succ,i64_w,i32_w];rfl)
   refine pure_ (i:=2) (N:=some 71) (v:=?_) (a':=?_) #[false,true,true,false,false,false,false] rfl rfl (by kernel_rfl) (fun _ _ _ h=>h) (Or.inl ⟨by rfl,?_⟩) ?_ ?_
   rotate_left;(intro w';go_simp;with_reducible rfl);rotate_left;(simp only [Act.put,List.setIfInBounds_toArray,List.set_cons_zero,List.set_cons_succ,i64_w,i32_w];rfl)
   refine pure_ (i:=3) (N:=some 72) (v:=?_) (a':=?_) #[false,true,true,true,false,false,false] rfl rfl (by kernel_rfl) (fun _ _ _ h=>h) (Or.inl ⟨by rfl,?_⟩) ?_ ?_
   rotate_left;(intro w';go_simp;with_reducible rfl);rotate_left;(simp only [Act.put,List.setIfInBounds_toArray,List.set_cons_zero,List.set_cons_succ,i64_w,i32_w];rfl)
   refine take_ (i:=0) (N:=some 69) (v:=?_) (a':=?_) #[true,true,true,true,false,false,false] rfl rfl (by kernel_rfl) (fun _ _ _ h=>h) (Or.inl ⟨by rfl,?_⟩) hHeld ?_ ?_
   rotate_left;(rintro w' ⟨s0,s1,s2,s3⟩;go_simp;with_reducible rfl);rotate_left;(simp only [Act.put,List.setIfInBounds_toArray,List.set_cons_zero,List.set_cons_succ,i64_w,i32_w];rfl)
   refine one_ (i:=4) (N:=some 73) #[true,true,true,true,true,false,false] rfl rfl (by kernel_rfl) (by decide) (fun K hK=>?_)
   refine goesVC_ Try.func19 (by kernel_rfl) rfl #[.agg #[.int .i64 0,.int .i64 1,.int .i64 1,.string ⟨#[120]⟩]] (by rfl) rfl rfl rfl (by simp only [List.map_toArray,List.map_cons,List.map_nil];rfl) ?_
   refine (with_any ⟨0,1,⟨1,⟨#[120]⟩⟩⟩ gf AF fit.length cF fit _ (blk_below BKgf.out HB7.out) (Kd.C_below CF7.out HB7.out) H.out.h_flen).mono ?_
   rintro e wc ⟨u73,rfl,hU,hb⟩
   refine ⟨_,rfl,?_⟩
   have n0_:=Aside0.mk (Kd.R_lower hU (below_size HB7.out))
   have n1_:=Aside0.mk (below_step HB7.out hb)
   clear HB7
   have HU:=n0_
   have HB7:=n1_
   clear n0_ n1_
   clear hU hb
   refine hK.out _ _ ⟨(HB7.out.cell LS.out).trans hs0.out,(HB7.out.cell LS.out).trans hs1.out,(HB7.out.cell LS.out).trans hs2.out,(HB7.out.cell LS.out).trans hs3.out⟩ (fun hHeld=>?_)
   clear hK K
   refine norm_ (a':=?_) ?_ ?_
   rotate_left
   ·show Act.put _ (some 73) _=_
    simp only [Act.put,List.setIfInBounds_toArray,List.set_cons_zero,List.set_cons_succ,i64_w,i32_w]
    rfl
   refine one_ (i:=5) (N:=some 74) #[true,true,true,true,true,true,false] rfl rfl (by kernel_rfl) (by decide) (fun K hK=>?_)
   obtain ⟨AU,cU,eU⟩:=Kd.R_slice HU.out
   subst eU
   refine goes_ Try.func20 (by kernel_rfl) rfl #[.agg #[.slice (some adT) T.length cT,.int .i64 ta,.int .i64 tb,.int .i64 td],.slice AU (fit ++ [(⟨0,1,(⟨1,⟨#[120]⟩⟩ : S37)⟩ : S39)]).length cU] (by rfl) rfl rfl (by simp only [List.map_toArray,List.map_cons,List.map_nil];rfl) ?_
   with_reducible refine (filter_May.calls k (some adT) cT T ta tb td AU cU (fit ++ [(⟨0,1,(⟨1,⟨#[120]⟩⟩ : S37)⟩ : S39)]) false _ (Kd.C_below CT7.out HB7.out) HCT.out (Kd.R_reads' HU.out).2.2 (Kd.R_reads' HU.out).2.1 HWR.out).mono ?_
   rintro e wc ⟨rfl,hb⟩
   refine ⟨_,rfl,?_⟩
   have n0_:=Aside0.mk (below_step HB7.out hb)
   clear HB7
   have HB7:=n0_
   clear n0_
   clear hb HU
   refine hK.out _ _ ⟨(HB7.out.cell LS.out).trans hs0.out,(HB7.out.cell LS.out).trans hs1.out,(HB7.out.cell LS.out).trans hs2.out,(HB7.out.cell LS.out).trans hs3.out⟩ (fun hHeld=>?_)
   clear hK K
   refine norm_ (a':=?_) ?_ ?_
   rotate_left
   ·show Act.put _ (some 74) _=_
    simp only [Act.put,List.setIfInBounds_toArray,List.set_cons_zero,List.set_cons_succ,i64_w,i32_w]
    rfl
   refine pure_ (i:=6) (N:=some 16) (v:=?_) (a':=?_) #[true,true,true,true,true,true,true] rfl rfl (by kernel_rfl) (fun _ _ _ h=>h) (Or.inl ⟨by rfl,?_⟩) ?_ ?_
   rotate_left;(intro w';go_simp;with_reducible rfl);rotate_left;(simp only [Act.put,List.setIfInBounds_toArray,List.set_cons_zero,List.set_cons_succ,i64_w,i32_w];rfl)
   refine done_ (by kernel_rfl) ?_
   (try clear hHeld)
   have hc0:=(HB7.out.cell LS.out).trans hs0.out
   have hc1:=(HB7.out.cell LS.out).trans hs1.out
   have hc2:=(HB7.out.cell LS.out).trans hs2.out
   have hc3:=(HB7.out.cell LS.out).trans hs3.out
   have hcf:=(HB7.out.cell LF.out).trans hf0.out
   cases col
   ·have e0:=H.out.c2 rfl
    have en : (n == 0)=false:=by rw [beq_eq_false_iff_ne];exact e0
    have en2 : (n != 0)=true:=by rw [bne_iff_ne];exact e0
    clear e0
    obtain rfl : two=decide ((fit.length : Int) < 15):=H.out.e2
    by_cases h15 : (fit.length : Int) < 15
    ·have d15 : decide ((fit.length : Int) < 15)=true:=decide_eq_true h15
     clear h15
     go_wp2_with (go_at_call 20;fail)
     refine (filter_May.calls k (some adT) cT T ta tb td none 0 [] true _ (Kd.C_below CT7.out HB7.out) HCT.out (Kd.C_nil _ _) (by simp) H.out.h_none).mono ?_
     rintro e wz ⟨rfl,hb⟩
     go_wp2
     go_ret
     exact ⟨rfl,HB.out.trans ((HB7.out.trans (hb.mono HB7.out.size)).mono HB.out.size)⟩
    ·have d15 : decide ((fit.length : Int) < 15)=false:=decide_eq_false h15
     clear h15
     go_wp2_with (go_at_call 20;fail)
     refine (filter_May.calls k (some adT) cT T ta tb td none 0 [] true _ (Kd.C_below CT7.out HB7.out) HCT.out (Kd.C_nil _ _) (by simp) H.out.h_none).mono ?_
     rintro e wz ⟨rfl,hb⟩
     go_wp2
     go_ret
     exact ⟨rfl,HB.out.trans ((HB7.out.trans (hb.mono HB7.out.size)).mono HB.out.size)⟩
   ·obtain ⟨e0,e1⟩:=H.out.c1 rfl
    have en0 : decide (n ≥ 0)=true:=decide_eq_true e0
    have en1 : decide (n < (T.length : Int))=true:=decide_eq_true e1
    clear e0 e1
    obtain rfl : two=decide ((fit.length : Int) < 15):=H.out.e2
    by_cases h15 : (fit.length : Int) < 15
    ·have d15 : decide ((fit.length : Int) < 15)=true:=decide_eq_true h15
     clear h15
     go_wp2_with (go_at_call 20;fail)
     refine (filter_May.calls k (some adT) cT T ta tb td none 0 [] true _ (Kd.C_below CT7.out HB7.out) HCT.out (Kd.C_nil _ _) (by simp) H.out.h_none).mono ?_
     rintro e wz ⟨rfl,hb⟩
     go_wp2
     go_ret
     exact ⟨rfl,HB.out.trans ((HB7.out.trans (hb.mono HB7.out.size)).mono HB.out.size)⟩
    ·have d15 : decide ((fit.length : Int) < 15)=false:=decide_eq_false h15
     clear h15
     go_wp2_with (go_at_call 20;fail)
     refine (filter_May.calls k (some adT) cT T ta tb td none 0 [] true _ (Kd.C_below CT7.out HB7.out) HCT.out (Kd.C_nil _ _) (by simp) H.out.h_none).mono ?_
     rintro e wz ⟨rfl,hb⟩
     go_wp2
     go_ret
     exact ⟨rfl,HB.out.trans ((HB7.out.trans (hb.mono HB7.out.size)).mono HB.out.size)⟩
  ·have d2 : decide (n≤6)=false:=decide_eq_false n6
   by_cases n7 : n=7
   ·subst n7
    have d3 : decide ((7 : Int)=7)=true:=rfl
    by_cases t3 : t0=3
    ·have d4 : decide (t0=3)=true:=decide_eq_true t3
     have d4b : (t0 == 3)=true:=by rw [beq_iff_eq];exact t3
     obtain rfl : op=true:=by rw [HFI.out,d3,d4,Bool.true_and,Bool.or_true]
     clear HFI n6 d3 d4 t3
     go_wp2
     have n0_:=Aside0.mk (HB7.out.drew)
     clear HB7 hT0 hc0
     have HB7:=n0_
     clear n0_
     refine start_ (n:=11) (S:=fun w'=>w'.cell? ⟨gs,0,none⟩=some (.slice (some adT) T.length cT)∧w'.cell? ⟨gs,1,none⟩=some (.int .i64 ta)∧w'.cell? ⟨gs,2,none⟩=some (.int .i64 tb)∧w'.cell? ⟨gs,3,none⟩=some (.int .i64 td)∧w'.cell? ⟨gv,0,none⟩=some (.int .i64 v.f0)∧w'.cell? ⟨gv,1,none⟩=some (.string v.f1)) (ds:=[]) #[false,false,false,false,false,false,false,false,false,false,false] (by kernel_rfl) rfl rfl ⟨(HB7.out.cell LS.out).trans hs0.out,(HB7.out.cell LS.out).trans hs1.out,(HB7.out.cell LS.out).trans hs2.out,(HB7.out.cell LS.out).trans hs3.out,(HB7.out.cell LV.out).trans hv0.out,(HB7.out.cell LV.out).trans hv1.out⟩ (fun hHeld=>?_)
     refine pure_ (i:=1) (N:=some 60) (v:=?_) (a':=?_) #[false,true,false,false,false,false,false,false,false,false,false] rfl rfl (by kernel_rfl) (fun _ _ _ h=>h) (Or.inl ⟨by rfl,?_⟩) ?_ ?_
     rotate_left;(intro w';go_simp;with_reducible rfl);rotate_left;(simp only [Act.put,List.setIfInBounds_toArray,List.set_cons_zero,List.set_cons_succ,i64_w,i32_w];rfl)
     refine take_ (i:=0) (N:=some 59) (v:=?_) (a':=?_) #[true,true,false,false,false,false,false,false,false,false,false] rfl rfl (by kernel_rfl) (fun _ _ _ h=>h) (Or.inl ⟨by rfl,?_⟩) hHeld ?_ ?_
     rotate_left;(rintro w' ⟨s0,s1,s2,s3,s4,s5⟩;go_simp;with_reducible rfl);rotate_left;(simp only [Act.put,List.setIfInBounds_toArray,List.set_cons_zero,List.set_cons_succ,i64_w,i32_w];rfl)
     refine take_ (i:=2) (N:=some 61) (v:=?_) (a':=?_) #[true,true,true,false,false,false,false,false,false,false,false] rfl rfl (by kernel_rfl) (fun _ _ _ h=>h) (Or.inl ⟨by rfl,?_⟩) hHeld ?_ ?_
     rotate_left;(rintro w' ⟨s0,s1,s2,s3,s4,s5⟩;go_simp;with_reducible rfl);rotate_left;(simp only [Act.put,List.setIfInBounds_toArray,List.set_cons_zero,List.set_cons_succ,i64_w,i32_w];rfl)
     refine pure_ (i:=3) (N:=some 62) (v:=?_) (a':=?_) #[true,true,true,true,false,false,false,false,false,false,false] rfl rfl (by kernel_rfl) (fun _ _ _ h=>h) (Or.inl ⟨by rfl,?_⟩) ?_ ?_
     rotate_left;(intro w';go_simp;with_reducible rfl);rotate_left;(simp only [Act.put,List.setIfInBounds_toArray,List.set_cons_zero,List.set_cons_succ,i64_w,i32_w];rfl)
     refine take_ (i:=5) (N:=some 64) (v:=?_) (a':=?_) #[true,true,true,true,false,true,false,false,false,false,false] rfl rfl (by kernel_rfl) (fun _ _ _ h=>h) (Or.inl ⟨by rfl,?_⟩) hHeld ?_ ?_
     rotate_left;(rintro w' ⟨s0,s1,s2,s3,s4,s5⟩;go_simp;with_reducible rfl);rotate_left;(simp only [Act.put,List.setIfInBounds_toArray,List.set_cons_zero,List.set_cons_succ,i64_w,i32_w];rfl)
     refine pure_ (i:=6) (N:=some 65) (v:=?_) (a':=?_) #[true,true,true,true,false,true,true,false,false,false,false] rfl rfl (by kernel_rfl) (fun _ _ _ h=>h) (Or.inl ⟨by rfl,?_⟩) ?_ ?_
     rotate_left;(intro w';go_simp;with_reducible rfl);rotate_left;(simp only [Act.put,List.setIfInBounds_toArray,List.set_cons_zero,List.set_cons_succ,i64_w,i32_w];rfl)
     refine join_ (σ:=Value × Value) 3 #[true,true,true,true,true,true,true,true,false,false,false] (fun s=>[(63,s.1),(66,s.2)]) (fun s w'=>Aside0 (Kd.R k39 39 w' w7.heap.size (fun _=>True) s.1 (fit ++ [(⟨0,2,(⟨v.f0,v.f1⟩ : S37)⟩ : S39)]))∧Aside0 (Kd.R k39 39 w' w7.heap.size (fun _=>True) s.2 [(⟨0,1,(⟨v.f0,v.f1⟩ : S37)⟩ : S39)])∧Aside0 (Below w7.heap.size w7 w')) ?_ ?_
     rotate_left
     ·intro hCont
      refine two_ (i:=4) (j:=7) (Ni:=some 63) (Nj:=some 66) #[true,true,true,true,true,true,true,false,false,false,false] #[true,true,true,true,false,true,true,true,false,false,false] rfl rfl rfl rfl (by kernel_rfl) (by decide) (by decide) (fun K hK=>?_) (fun K hK=>?_)
      ·skip
       refine goesVC_ Try.func19 (by kernel_rfl) rfl #[.agg #[.int .i64 0,.int .i64 2,.int .i64 v.f0,.string v.f1]] (by rfl) rfl rfl rfl (by simp only [List.map_toArray,List.map_cons,List.map_nil];rfl) ?_
       refine (with_any ⟨0,2,v⟩ gf AF fit.length cF fit _ (blk_below BKgf.out HB7.out) (Kd.C_below CF7.out HB7.out) H.out.h_flen).mono ?_
       rintro e wc ⟨u63,rfl,hU,hb⟩
       refine ⟨_,rfl,?_⟩
       have n0_:=Aside0.mk (Kd.R_lower hU (below_size HB7.out))
       have n1_:=Aside0.mk (below_step HB7.out hb)
       clear HB7
       have HU:=n0_
       have HB7:=n1_
       clear n0_ n1_
       clear hU hb
       refine hK.out _ _ ⟨(HB7.out.cell LS.out).trans hs0.out,(HB7.out.cell LS.out).trans hs1.out,(HB7.out.cell LS.out).trans hs2.out,(HB7.out.cell LS.out).trans hs3.out,(HB7.out.cell LV.out).trans hv0.out,(HB7.out.cell LV.out).trans hv1.out⟩ (fun hHeld=>?_)
       clear hK K
       refine norm_ (a':=?_) ?_ ?_
       rotate_left
       ·show Act.put _ (some 63) _=_
        simp only [Act.put,List.setIfInBounds_toArray,List.set_cons_zero,List.set_cons_succ,i64_w,i32_w]
        rfl
       refine one_ (i:=7) (N:=some 66) #[true,true,true,true,true,true,true,true,false,false,false] rfl rfl (by kernel_rfl) (by decide) (fun K hK=>?_)
       refine Kd.R_lit_step k39 _ 39 ?hg (N:=66) ?hd (xs:=([(⟨0,1,(⟨v.f0,v.f1⟩ : S37)⟩ : S39)] : List (S39))) (inner:=[.int .i64 0,.int .i64 1,.int .i64 v.f0,.string v.f1]) (ok:=fun _=>True) (okp:=fun _=>True) ?hr ?hp (fun _ hk=>hk) trivial (Below.refl _ _) (Nat.le_refl _) (by simp) ?_
       (case hd=>rfl)
       (case hg=>rfl)
       (case hr=>first|(go_simp;done)|(go_simp;rfl))
       (case hp=>exact (Reps.c4 (k39_mkM _ _ _ (⟨0,1,(⟨v.f0,v.f1⟩ : S37)⟩ : S39)) (Reps.none _ _)))
       intro u66 wa ho hb hg_ hnew_
       clear hg_ hnew_
       have n0_:=Aside0.mk (Kd.R_elder' HU.out (Kd.R_base ho) hb)
       have n1_:=Aside0.mk (Kd.R_lower (Kd.R_new' ho (Kd.R_lt HU.out)) (below_size HB7.out))
       have n2_:=Aside0.mk (below_step HB7.out hb)
       clear HU HB7
       have HU:=n0_
       have HL:=n1_
       have HB7:=n2_
       clear n0_ n1_ n2_
       clear hb ho
       refine hK.out _ _ ⟨(HB7.out.cell LS.out).trans hs0.out,(HB7.out.cell LS.out).trans hs1.out,(HB7.out.cell LS.out).trans hs2.out,(HB7.out.cell LS.out).trans hs3.out,(HB7.out.cell LV.out).trans hv0.out,(HB7.out.cell LV.out).trans hv1.out⟩ (fun hHeld=>?_)
       clear hK K
       refine norm_ (a':=?_) ?_ ?_
       rotate_left
       ·show Act.put _ (some 66) _=_
        simp only [Act.put,List.setIfInBounds_toArray,List.set_cons_zero,List.set_cons_succ,i64_w,i32_w]
        rfl
       exact norm_ (by simp only [putAll,Act.put,List.setIfInBounds_toArray,List.set_cons_zero,List.set_cons_succ]) (hCont (u63,u66) _ ⟨⟨Kd.R_mono HU.out (fun _ _=>trivial)⟩,⟨Kd.R_mono HL.out (fun _ _=>trivial)⟩,HB7⟩)
      ·skip
       refine Kd.R_lit_step k39 _ 39 ?hg (N:=66) ?hd (xs:=([(⟨0,1,(⟨v.f0,v.f1⟩ : S37)⟩ : S39)] : List (S39))) (inner:=[.int .i64 0,.int .i64 1,.int .i64 v.f0,.string v.f1]) (ok:=fun _=>True) (okp:=fun _=>True) ?hr ?hp (fun _ hk=>hk) trivial (Below.refl _ _) (Nat.le_refl _) (by simp) ?_
       (case hd=>rfl)
       (case hg=>rfl)
       (case hr=>first|(go_simp;done)|(go_simp;rfl))
       (case hp=>exact (Reps.c4 (k39_mkM _ _ _ (⟨0,1,(⟨v.f0,v.f1⟩ : S37)⟩ : S39)) (Reps.none _ _)))
       intro u66 wa ho hb hg_ hnew_
       clear hg_ hnew_
       have n0_:=Aside0.mk (Kd.R_lower ho (below_size HB7.out))
       have n1_:=Aside0.mk (below_step HB7.out hb)
       clear HB7
       have HL:=n0_
       have HB7:=n1_
       clear n0_ n1_
       clear hb ho
       refine hK.out _ _ ⟨(HB7.out.cell LS.out).trans hs0.out,(HB7.out.cell LS.out).trans hs1.out,(HB7.out.cell LS.out).trans hs2.out,(HB7.out.cell LS.out).trans hs3.out,(HB7.out.cell LV.out).trans hv0.out,(HB7.out.cell LV.out).trans hv1.out⟩ (fun hHeld=>?_)
       clear hK K
       refine norm_ (a':=?_) ?_ ?_
       rotate_left
       ·show Act.put _ (some 66) _=_
        simp only [Act.put,List.setIfInBounds_toArray,List.set_cons_zero,List.set_cons_succ,i64_w,i32_w]
        rfl
       refine one_ (i:=4) (N:=some 63) #[true,true,true,true,true,true,true,true,false,false,false] rfl rfl (by kernel_rfl) (by decide) (fun K hK=>?_)
       refine goesVC_ Try.func19 (by kernel_rfl) rfl #[.agg #[.int .i64 0,.int .i64 2,.int .i64 v.f0,.string v.f1]] (by rfl) rfl rfl rfl (by simp only [List.map_toArray,List.map_cons,List.map_nil];rfl) ?_
       refine (with_any ⟨0,2,v⟩ gf AF fit.length cF fit _ (blk_below BKgf.out HB7.out) (Kd.C_below CF7.out HB7.out) H.out.h_flen).mono ?_
       rintro e wc ⟨u63,rfl,hU,hb⟩
       refine ⟨_,rfl,?_⟩
       have n0_:=Aside0.mk (Kd.R_elder' HL.out (Kd.R_base hU) hb)
       have n1_:=Aside0.mk (Kd.R_lower (Kd.R_new' hU (Kd.R_lt HL.out)) (below_size HB7.out))
       have n2_:=Aside0.mk (below_step HB7.out hb)
       clear HL HB7
       have HL:=n0_
       have HU:=n1_
       have HB7:=n2_
       clear n0_ n1_ n2_
       clear hU hb
       refine hK.out _ _ ⟨(HB7.out.cell LS.out).trans hs0.out,(HB7.out.cell LS.out).trans hs1.out,(HB7.out.cell LS.out).trans hs2.out,(HB7.out.cell LS.out).trans hs3.out,(HB7.out.cell LV.out).trans hv0.out,(HB7.out.cell LV.out).trans hv1.out⟩ (fun hHeld=>?_)
       clear hK K
       refine norm_ (a':=?_) ?_ ?_
       rotate_left
       ·show Act.put _ (some 63) _=_
        simp only [Act.put,List.setIfInBounds_toArray,List.set_cons_zero,List.set_cons_succ,i64_w,i32_w]
        rfl
       exact norm_ (by simp only [putAll,Act.put,List.setIfInBounds_toArray,List.set_cons_zero,List.set_cons_succ]) (hCont (u63,u66) _ ⟨⟨Kd.R_mono HU.out (fun _ _=>trivial)⟩,⟨Kd.R_mono HL.out (fun _ _=>trivial)⟩,HB7⟩)
     clear HB7 hHeld
     rintro ⟨u63,u66⟩ w9 ⟨HU,HL,HB7⟩
     have hHeld : (fun w' : World=>w'.cell? ⟨gs,0,none⟩=some (.slice (some adT) T.length cT)∧w'.cell? ⟨gs,1,none⟩=some (.int .i64 ta)∧w'.cell? ⟨gs,2,none⟩=some (.int .i64 tb)∧w'.cell? ⟨gs,3,none⟩=some (.int .i64 td)∧w'.cell? ⟨gv,0,none⟩=some (.int .i64 v.f0)∧w'.cell? ⟨gv,1,none⟩=some (.string v.f1)) w9:=⟨(HB7.out.cell LS.out).trans hs0.out,(HB7.out.cell LS.out).trans hs1.out,(HB7.out.cell LS.out).trans hs2.out,(HB7.out.cell LS.out).trans hs3.out,(HB7.out.cell LV.out).trans hv0.out,(HB7.out.cell LV.out).trans hv1.out⟩
     refine norm_ (a':=?_) ?_ ?_
     rotate_left
     ·simp only [putAll,Act.put,List.setIfInBounds_toArray,List.set_cons_zero,List.set_cons_succ]
      rfl
     refine one_ (i:=8) (N:=some 67) #[true,true,true,true,true,true,true,true,true,false,false] rfl rfl (by kernel_rfl) (by decide) (fun K hK=>?_)
     obtain ⟨A8,c8,e8⟩:=Kd.R_slice HL.out
     subst e8
     refine Kd.R_append_rows_step k39 (w0:=w7) w7.heap.size (by rfl) (.tmp 63) (.tmp 66) 25 39 (.agg #[(.int .i64 0),(.int .i64 0),(.int .i64 0),(.string ⟨#[]⟩)]) 40 rfl Try.underlying25 info39 rfl (by decide) (by omega) u63 (fit ++ [(⟨0,2,(⟨v.f0,v.f1⟩ : S37)⟩ : S39)]) [(⟨0,1,(⟨v.f0,v.f1⟩ : S37)⟩ : S39)] _ _ _ (fun _=>True) (fun _=>False) rfl rfl ?aO ?aR (fun _ _ h=>h) (fun _ h=>h.elim) ?aF HB7.out (below_size HB7.out) ?aL ?_
     (case aR=>exact (Kd.R_reads' HL.out).2.2)
     (case aO=>exact HU.out)
     (case aF=>exact (fun _ _=>trivial))
     (case aL=>have:=H.out.h_flen;simp only [List.length_append,List.length_cons,List.length_nil];omega)
     intro u67 wa ho hb hg hat
     have n0_:=Aside0.mk (ho)
     have n1_:=Aside0.mk (hb)
     clear HU HB7
     have HU:=n0_
     have HB7:=n1_
     clear n0_ n1_
     clear ho hb hg hat HL
     refine hK.out _ _ ⟨(HB7.out.cell LS.out).trans hs0.out,(HB7.out.cell LS.out).trans hs1.out,(HB7.out.cell LS.out).trans hs2.out,(HB7.out.cell LS.out).trans hs3.out,(HB7.out.cell LV.out).trans hv0.out,(HB7.out.cell LV.out).trans hv1.out⟩ (fun hHeld=>?_)
     clear hK K
     refine norm_ (a':=?_) ?_ ?_
     rotate_left
     ·show Act.put _ (some 67) _=_
      simp only [Act.put,List.setIfInBounds_toArray,List.set_cons_zero,List.set_cons_succ,i64_w,i32_w]
      rfl
     refine one_ (i:=9) (N:=some 68) #[true,true,true,true,true,true,true,true,true,true,false] rfl rfl (by kernel_rfl) (by decide) (fun K hK=>?_)
     obtain ⟨AU,cU,eU⟩:=Kd.R_slice HU.out
     subst eU
     refine goes_ Try.func20 (by kernel_rfl) rfl #[.agg #[.slice (some adT) T.length cT,.int .i64 ta,.int .i64 tb,.int .i64 td],.slice AU (fit ++ [(⟨0,2,(⟨v.f0,v.f1⟩ : S37)⟩ : S39)] ++ [(⟨0,1,(⟨v.f0,v.f1⟩ : S37)⟩ : S39)]).length cU] (by rfl) rfl rfl (by simp only [List.map_toArray,List.map_cons,List.map_nil];rfl) ?_
     with_reducible refine (filter_May.calls k (some adT) cT T ta tb td AU cU (fit ++ [(⟨0,2,(⟨v.f0,v.f1⟩ : S37)⟩ : S39)] ++ [(⟨0,1,(⟨v.f0,v.f1⟩ : S37)⟩ : S39)]) two _ (Kd.C_below CT7.out HB7.out) HCT.out (Kd.R_reads' HU.out).2.2 (Kd.R_reads' HU.out).2.1 HTWO.out).mono ?_
     rintro e wc ⟨rfl,hb⟩
     refine ⟨_,rfl,?_⟩
     have n0_:=Aside0.mk (below_step HB7.out hb)
     clear HB7
     have HB7:=n0_
     clear n0_
     clear hb HU
     refine hK.out _ _ ⟨(HB7.out.cell LS.out).trans hs0.out,(HB7.out.cell LS.out).trans hs1.out,(HB7.out.cell LS.out).trans hs2.out,(HB7.out.cell LS.out).trans hs3.out,(HB7.out.cell LV.out).trans hv0.out,(HB7.out.cell LV.out).trans hv1.out⟩ (fun hHeld=>?_)
     clear hK K
     refine norm_ (a':=?_) ?_ ?_
     rotate_left
     ·show Act.put _ (some 68) _=_
      simp only [Act.put,List.setIfInBounds_toArray,List.set_cons_zero,List.set_cons_succ,i64_w,i32_w]
      rfl
     refine pure_ (i:=10) (N:=some 15) (v:=?_) (a':=?_) #[true,true,true,true,true,true,true,true,true,true,true] rfl rfl (by kernel_rfl) (fun _ _ _ h=>h) (Or.inl ⟨by rfl,?_⟩) ?_ ?_
     rotate_left;(intro w';go_simp;with_reducible rfl);rotate_left;(simp only [Act.put,List.setIfInBounds_toArray,List.set_cons_zero,List.set_cons_succ,i64_w,i32_w];rfl)
     refine done_ (by kernel_rfl) ?_
     (try clear hHeld)
     go_wp2
     have n0_:=Aside0.mk (HB7.out.drew)
     clear HB7
     have HB7:=n0_
     clear n0_
     refine start_ (n:=7) (S:=fun w'=>w'.cell? ⟨gs,0,none⟩=some (.slice (some adT) T.length cT)∧w'.cell? ⟨gs,1,none⟩=some (.int .i64 ta)∧w'.cell? ⟨gs,2,none⟩=some (.int .i64 tb)∧w'.cell? ⟨gs,3,none⟩=some (.int .i64 td)) (ds:=[]) #[false,false,false,false,false,false,false] (by kernel_rfl) rfl rfl ⟨(HB7.out.cell LS.out).trans hs0.out,(HB7.out.cell LS.out).trans hs1.out,(HB7.out.cell LS.out).trans hs2.out,(HB7.out.cell LS.out).trans hs3.out⟩ (fun hHeld=>?_)
     refine pure_ (i:=1) (N:=some 70) (v:=?_) (a':=?_) #[false,true,false,false,false,false,false] rfl rfl (by kernel_rfl) (fun _ _ _ h=>h) (Or.inl ⟨by rfl,?_⟩) ?_ ?_
     rotate_left;(intro w';go_simp;with_reducible rfl);rotate_left;(simp only [Act.put,List.setIfInBounds_toArray,List.set_cons_zero,List.set_cons_succ,i64_w,i32_w];rfl)
     refine pure_ (i:=2) (N:=some 71) (v:=?_) (a':=?_) #[false,true,true,false,false,false,false] rfl rfl (by kernel_rfl) (fun _ _ _ h=>h) (Or.inl ⟨by rfl,?_⟩) ?_ ?_
     rotate_left;(intro w';go_simp;with_reducible rfl);rotate_left;(simp only [Act.put,List.setIfInBounds_toArray,List.set_cons_zero,List.set_cons_succ,i64_w,i32_w];rfl)
     refine pure_ (i:=3) (N:=some 72) (v:=?_) (a':=?_) #[false,true,true,true,false,false,false] rfl rfl (by kernel_rfl) (fun _ _ _ h=>h) (Or.inl ⟨by rfl,?_⟩) ?_ ?_
     rotate_left;(intro w';go_simp;with_reducible rfl);rotate_left;(simp only [Act.put,List.setIfInBounds_toArray,List.set_cons_zero,List.set_cons_succ,i64_w,i32_w];rfl)
     refine take_ (i:=0) (N:=some 69) (v:=?_) (a':=?_) #[true,true,true,true,false,false,false] rfl rfl (by kernel_rfl) (fun _ _ _ h=>h) (Or.inl ⟨by rfl,?_⟩) hHeld ?_ ?_
     rotate_left;(rintro w' ⟨s0,s1,s2,s3⟩;go_simp;with_reducible rfl);rotate_left;(simp only [Act.put,List.setIfInBounds_toArray,List.set_cons_zero,List.set_cons_succ,i64_w,i32_w];rfl)
     refine one_ (i:=4) (N:=some 73) #[true,true,true,true,true,false,false] rfl rfl (by kernel_rfl) (by decide) (fun K hK=>?_)
     refine goesVC_ Try.func19 (by kernel_rfl) rfl #[.agg #[.int .i64 0,.int .i64 1,.int .i64 1,.string ⟨#[120]⟩]] (by rfl) rfl rfl rfl (by simp only [List.map_toArray,List.map_cons,List.map_nil];rfl) ?_
     refine (with_any ⟨0,1,⟨1,⟨#[120]⟩⟩⟩ gf AF fit.length cF fit _ (blk_below BKgf.out HB7.out) (Kd.C_below CF7.out HB7.out) H.out.h_flen).mono ?_
     rintro e wc ⟨u73,rfl,hU,hb⟩
     refine ⟨_,rfl,?_⟩
     have n0_:=Aside0.mk (Kd.R_lower hU (below_size HB7.out))
     have n1_:=Aside0.mk (below_step HB7.out hb)
     clear HB7
     have HU:=n0_
     have HB7:=n1_
     clear n0_ n1_
     clear hU hb
     refine hK.out _ _ ⟨(HB7.out.cell LS.out).trans hs0.out,(HB7.out.cell LS.out).trans hs1.out,(HB7.out.cell LS.out).trans hs2.out,(HB7.out.cell LS.out).trans hs3.out⟩ (fun hHeld=>?_)
     clear hK K
     refine norm_ (a':=?_) ?_ ?_
     rotate_left
     ·show Act.put _ (some 73) _=_
      simp only [Act.put,List.setIfInBounds_toArray,List.set_cons_zero,List.set_cons_succ,i64_w,i32_w]
      rfl
     refine one_ (i:=5) (N:=some 74) #[true,true,true,true,true,true,false] rfl rfl (by kernel_rfl) (by decide) (fun K hK=>?_)
     obtain ⟨AU,cU,eU⟩:=Kd.R_slice HU.out
     subst eU
     refine goes_ Try.func20 (by kernel_rfl) rfl #[.agg #[.slice (some adT) T.length cT,.int .i64 ta,.int .i64 tb,.int .i64 td],.slice AU (fit ++ [(⟨0,1,(⟨1,⟨#[120]⟩⟩ : S37)⟩ : S39)]).length cU] (by rfl) rfl rfl (by simp only [List.map_toArray,List.map_cons,List.map_nil];rfl) ?_
     with_reducible refine (filter_May.calls k (some adT) cT T ta tb td AU cU (fit ++ [(⟨0,1,(⟨1,⟨#[120]⟩⟩ : S37)⟩ : S39)]) false _ (Kd.C_below CT7.out HB7.out) HCT.out (Kd.R_reads' HU.out).2.2 (Kd.R_reads' HU.out).2.1 HWR.out).mono ?_
     rintro e wc ⟨rfl,hb⟩
     refine ⟨_,rfl,?_⟩
     have n0_:=Aside0.mk (below_step HB7.out hb)
     clear HB7
     have HB7:=n0_
     clear n0_
     clear hb HU
     refine hK.out _ _ ⟨(HB7.out.cell LS.out).trans hs0.out,(HB7.out.cell LS.out).trans hs1.out,(HB7.out.cell LS.out).trans hs2.out,(HB7.out.cell LS.out).trans hs3.out⟩ (fun hHeld=>?_)
     clear hK K
     refine norm_ (a':=?_) ?_ ?_
     rotate_left
     ·show Act.put _ (some 74) _=_
      simp only [Act.put,List.setIfInBounds_toArray,List.set_cons_zero,List.set_cons_succ,i64_w,i32_w]
      rfl
     refine pure_ (i:=6) (N:=some 16) (v:=?_) (a':=?_) #[true,true,true,true,true,true,true] rfl rfl (by kernel_rfl) (fun _ _ _ h=>h) (Or.inl ⟨by rfl,?_⟩) ?_ ?_
     rotate_left;(intro w';go_simp;with_reducible rfl);rotate_left;(simp only [Act.put,List.setIfInBounds_toArray,List.set_cons_zero,List.set_cons_succ,i64_w,i32_w];rfl)
     refine done_ (by kernel_rfl) ?_
     (try clear hHeld)
     have hc0:=(HB7.out.cell LS.out).trans hs0.out
     have hc1:=(HB7.out.cell LS.out).trans hs1.out
     have hc2:=(HB7.out.cell LS.out).trans hs2.out
     have hc3:=(HB7.out.cell LS.out).trans hs3.out
     have hcf:=(HB7.out.cell LF.out).trans hf0.out
     cases col
     ·have e0:=H.out.c2 rfl
      have en : ((7 : Int) == 0)=false:=by rw [beq_eq_false_iff_ne];exact e0
      have en2 : ((7 : Int) != 0)=true:=by rw [bne_iff_ne];exact e0
      clear e0
      obtain rfl : two=decide ((fit.length : Int) < 15):=H.out.e2
      by_cases h15 : (fit.length : Int) < 15
      ·have d15 : decide ((fit.length : Int) < 15)=true:=decide_eq_true h15
       clear h15
       go_wp2_with (go_at_call 20;fail)
       refine (filter_May.calls k (some adT) cT T ta tb td none 0 [] true _ (Kd.C_below CT7.out HB7.out) HCT.out (Kd.C_nil _ _) (by simp) H.out.h_none).mono ?_
       rintro e wz ⟨rfl,hb⟩
       go_wp2
       go_ret
       exact ⟨rfl,HB.out.trans ((HB7.out.trans (hb.mono HB7.out.size)).mono HB.out.size)⟩
      ·have d15 : decide ((fit.length : Int) < 15)=false:=decide_eq_false h15
       clear h15
       go_wp2_with (go_at_call 20;fail)
       refine (filter_May.calls k (some adT) cT T ta tb td none 0 [] true _ (Kd.C_below CT7.out HB7.out) HCT.out (Kd.C_nil _ _) (by simp) H.out.h_none).mono ?_
       rintro e wz ⟨rfl,hb⟩
       go_wp2
       go_ret
       exact ⟨rfl,HB.out.trans ((HB7.out.trans (hb.mono HB7.out.size)).mono HB.out.size)⟩
     ·obtain ⟨e0,e1⟩:=H.out.c1 rfl
      have en0 : decide ((7 : Int) ≥ 0)=true:=decide_eq_true e0
      have en1 : decide ((7 : Int) < (T.length : Int))=true:=decide_eq_true e1
      clear e0 e1
      obtain rfl : two=decide ((fit.length : Int) < 15):=H.out.e2
      by_cases h15 : (fit.length : Int) < 15
      ·have d15 : decide ((fit.length : Int) < 15)=true:=decide_eq_true h15
       clear h15
       go_wp2_with (go_at_call 20;fail)
       refine (filter_May.calls k (some adT) cT T ta tb td none 0 [] true _ (Kd.C_below CT7.out HB7.out) HCT.out (Kd.C_nil _ _) (by simp) H.out.h_none).mono ?_
       rintro e wz ⟨rfl,hb⟩
       go_wp2
       go_ret
       exact ⟨rfl,HB.out.trans ((HB7.out.trans (hb.mono HB7.out.size)).mono HB.out.size)⟩
      ·have d15 : decide ((fit.length : Int) < 15)=false:=decide_eq_false h15
       clear h15
       go_wp2_with (go_at_call 20;fail)
       refine (filter_May.calls k (some adT) cT T ta tb td none 0 [] true _ (Kd.C_below CT7.out HB7.out) HCT.out (Kd.C_nil _ _) (by simp) H.out.h_none).mono ?_
       rintro e wz ⟨rfl,hb⟩
       go_wp2
       go_ret
       exact ⟨rfl,HB.out.trans ((HB7.out.trans (hb.mono HB7.out.size)).mono HB.out.size)⟩
    ·have d4 : decide (t0=3)=false:=decide_eq_false t3
     have d4b : (t0 == 3)=false:=by rw [beq_eq_false_iff_ne];exact t3
     obtain rfl : op=false:=by rw [HFI.out,d2,d4];simp
     clear HFI n6 d3 d4 t3
     go_wp2
     have n0_:=Aside0.mk (HB7.out.drew)
     clear HB7 hT0 hc0
     have HB7:=n0_
     clear n0_
     refine start_ (n:=11) (S:=fun w'=>w'.cell? ⟨gs,0,none⟩=some (.slice (some adT) T.length cT)∧w'.cell? ⟨gs,1,none⟩=some (.int .i64 ta)∧w'.cell? ⟨gs,2,none⟩=some (.int .i64 tb)∧w'.cell? ⟨gs,3,none⟩=some (.int .i64 td)∧w'.cell? ⟨gv,0,none⟩=some (.int .i64 v.f0)∧w'.cell? ⟨gv,1,none⟩=some (.string v.f1)) (ds:=[]) #[false,false,false,false,false,false,false,false,false,false,false] (by kernel_rfl) rfl rfl ⟨(HB7.out.cell LS.out).trans hs0.out,(HB7.out.cell LS.out).trans hs1.out,(HB7.out.cell LS.out).trans hs2.out,(HB7.out.cell LS.out).trans hs3.out,(HB7.out.cell LV.out).trans hv0.out,(HB7.out.cell LV.out).trans hv1.out⟩ (fun hHeld=>?_)
     refine pure_ (i:=1) (N:=some 60) (v:=?_) (a':=?_) #[false,true,false,false,false,false,false,false,false,false,false] rfl rfl (by kernel_rfl) (fun _ _ _ h=>h) (Or.inl ⟨by rfl,?_⟩) ?_ ?_
     rotate_left;(intro w';go_simp;with_reducible rfl);rotate_left;(simp only [Act.put,List.setIfInBounds_toArray,List.set_cons_zero,List.set_cons_succ,i64_w,i32_w];rfl)
     refine take_ (i:=0) (N:=some 59) (v:=?_) (a':=?_) #[true,true,false,false,false,false,false,false,false,false,false] rfl rfl (by kernel_rfl) (fun _ _ _ h=>h) (Or.inl ⟨by rfl,?_⟩) hHeld ?_ ?_
     rotate_left;(rintro w' ⟨s0,s1,s2,s3,s4,s5⟩;go_simp;with_reducible rfl);rotate_left;(simp only [Act.put,List.setIfInBounds_toArray,List.set_cons_zero,List.set_cons_succ,i64_w,i32_w];rfl)
     refine take_ (i:=2) (N:=some 61) (v:=?_) (a':=?_) #[true,true,true,false,false,false,false,false,false,false,false] rfl rfl (by kernel_rfl) (fun _ _ _ h=>h) (Or.inl ⟨by rfl,?_⟩) hHeld ?_ ?_
     rotate_left;(rintro w' ⟨s0,s1,s2,s3,s4,s5⟩;go_simp;with_reducible rfl);rotate_left;(simp only [Act.put,List.setIfInBounds_toArray,List.set_cons_zero,List.set_cons_succ,i64_w,i32_w];rfl)
     refine pure_ (i:=3) (N:=some 62) (v:=?_) (a':=?_) #[true,true,true,true,false,false,false,false,false,false,false] rfl rfl (by kernel_rfl) (fun _ _ _ h=>h) (Or.inl ⟨by rfl,?_⟩) ?_ ?_
     rotate_left;(intro w';go_simp;with_reducible rfl);rotate_left;(simp only [Act.put,List.setIfInBounds_toArray,List.set_cons_zero,List.set_cons_succ,i64_w,i32_w];rfl)
     refine take_ (i:=5) (N:=some 64) (v:=?_) (a':=?_) #[true,true,true,true,false,true,false,false,false,false,false] rfl rfl (by kernel_rfl) (fun _ _ _ h=>h) (Or.inl ⟨by rfl,?_⟩) hHeld ?_ ?_
     rotate_left;(rintro w' ⟨s0,s1,s2,s3,s4,s5⟩;go_simp;with_reducible rfl);rotate_left;(simp only [Act.put,List.setIfInBounds_toArray,List.set_cons_zero,List.set_cons_succ,i64_w,i32_w];rfl)
     refine pure_ (i:=6) (N:=some 65) (v:=?_) (a':=?_) #[true,true,true,true,false,true,true,false,false,false,false] rfl rfl (by kernel_rfl) (fun _ _ _ h=>h) (Or.inl ⟨by rfl,?_⟩) ?_ ?_
     rotate_left;(intro w';go_simp;with_reducible rfl);rotate_left;(simp only [Act.put,List.setIfInBounds_toArray,List.set_cons_zero,List.set_cons_succ,i64_w,i32_w];rfl)
     refine join_ (σ:=Value × Value) 3 #[true,true,true,true,true,true,true,true,false,false,false] (fun s=>[(63,s.1),(66,s.2)]) (fun s w'=>Aside0 (Kd.R k39 39 w' w7.heap.size (fun _=>True) s.1 (fit ++ [(⟨0,2,(⟨v.f0,v.f1⟩ : S37)⟩ : S39)]))∧Aside0 (Kd.R k39 39 w' w7.heap.size (fun _=>True) s.2 [(⟨0,1,(⟨v.f0,v.f1⟩ : S37)⟩ : S39)])∧Aside0 (Below w7.heap.size w7 w')) ?_ ?_
     rotate_left
     ·intro hCont
      refine two_ (i:=4) (j:=7) (Ni:=some 63) (Nj:=some 66) #[true,true,true,true,true,true,true,false,false,false,false] #[true,true,true,true,false,true,true,true,false,false,false] rfl rfl rfl rfl (by kernel_rfl) (by decide) (by decide) (fun K hK=>?_) (fun K hK=>?_)
      ·skip
       refine goesVC_ Try.func19 (by kernel_rfl) rfl #[.agg #[.int .i64 0,.int .i64 2,.int .i64 v.f0,.string v.f1]] (by rfl) rfl rfl rfl (by simp only [List.map_toArray,List.map_cons,List.map_nil];rfl) ?_
       refine (with_any ⟨0,2,v⟩ gf AF fit.length cF fit _ (blk_below BKgf.out HB7.out) (Kd.C_below CF7.out HB7.out) H.out.h_flen).mono ?_
       rintro e wc ⟨u63,rfl,hU,hb⟩
       refine ⟨_,rfl,?_⟩
       have n0_:=Aside0.mk (Kd.R_lower hU (below_size HB7.out))
       have n1_:=Aside0.mk (below_step HB7.out hb)
       clear HB7
       have HU:=n0_
       have HB7:=n1_
       clear n0_ n1_
       clear hU hb
       refine hK.out _ _ ⟨(HB7.out.cell LS.out).trans hs0.out,(HB7.out.cell LS.out).trans hs1.out,(HB7.out.cell LS.out).trans hs2.out,(HB7.out.cell LS.out).trans hs3.out,(HB7.out.cell LV.out).trans hv0.out,(HB7.out.cell LV.out).trans hv1.out⟩ (fun hHeld=>?_)
       clear hK K
       refine norm_ (a':=?_) ?_ ?_
       rotate_left
       ·show Act.put _ (some 63) _=_
        simp only [Act.put,List.setIfInBounds_toArray,List.set_cons_zero,List.set_cons_succ,i64_w,i32_w]
        rfl
       refine one_ (i:=7) (N:=some 66) #[true,true,true,true,true,true,true,true,false,false,false] rfl rfl (by kernel_rfl) (by decide) (fun K hK=>?_)
       refine Kd.R_lit_step k39 _ 39 ?hg (N:=66) ?hd (xs:=([(⟨0,1,(⟨v.f0,v.f1⟩ : S37)⟩ : S39)] : List (S39))) (inner:=[.int .i64 0,.int .i64 1,.int .i64 v.f0,.string v.f1]) (ok:=fun _=>True) (okp:=fun _=>True) ?hr ?hp (fun _ hk=>hk) trivial (Below.refl _ _) (Nat.le_refl _) (by simp) ?_
       (case hd=>rfl)
       (case hg=>rfl)
       (case hr=>first|(go_simp;done)|(go_simp;rfl))
       (case hp=>exact (Reps.c4 (k39_mkM _ _ _ (⟨0,1,(⟨v.f0,v.f1⟩ : S37)⟩ : S39)) (Reps.none _ _)))
       intro u66 wa ho hb hg_ hnew_
       clear hg_ hnew_
       have n0_:=Aside0.mk (Kd.R_elder' HU.out (Kd.R_base ho) hb)
       have n1_:=Aside0.mk (Kd.R_lower (Kd.R_new' ho (Kd.R_lt HU.out)) (below_size HB7.out))
       have n2_:=Aside0.mk (below_step HB7.out hb)
       clear HU HB7
       have HU:=n0_
       have HL:=n1_
       have HB7:=n2_
       clear n0_ n1_ n2_
       clear hb ho
       refine hK.out _ _ ⟨(HB7.out.cell LS.out).trans hs0.out,(HB7.out.cell LS.out).trans hs1.out,(HB7.out.cell LS.out).trans hs2.out,(HB7.out.cell LS.out).trans hs3.out,(HB7.out.cell LV.out).trans hv0.out,(HB7.out.cell LV.out).trans hv1.out⟩ (fun hHeld=>?_)
       clear hK K
       refine norm_ (a':=?_) ?_ ?_
       rotate_left
       ·show Act.put _ (some 66) _=_
        simp only [Act.put,List.setIfInBounds_toArray,List.set_cons_zero,List.set_cons_succ,i64_w,i32_w]
        rfl
       exact norm_ (by simp only [putAll,Act.put,List.setIfInBounds_toArray,List.set_cons_zero,List.set_cons_succ]) (hCont (u63,u66) _ ⟨⟨Kd.R_mono HU.out (fun _ _=>trivial)⟩,⟨Kd.R_mono HL.out (fun _ _=>trivial)⟩,HB7⟩)
      ·skip
       refine Kd.R_lit_step k39 _ 39 ?hg (N:=66) ?hd (xs:=([(⟨0,1,(⟨v.f0,v.f1⟩ : S37)⟩ : S39)] : List (S39))) (inner:=[.int .i64 0,.int .i64 1,.int .i64 v.f0,.string v.f1]) (ok:=fun _=>True) (okp:=fun _=>True) ?hr ?hp (fun _ hk=>hk) trivial (Below.refl _ _) (Nat.le_refl _) (by simp) ?_
       (case hd=>rfl)
       (case hg=>rfl)
       (case hr=>first|(go_simp;done)|(go_simp;rfl))
       (case hp=>exact (Reps.c4 (k39_mkM _ _ _ (⟨0,1,(⟨v.f0,v.f1⟩ : S37)⟩ : S39)) (Reps.none _ _)))
       intro u66 wa ho hb hg_ hnew_
       clear hg_ hnew_
       have n0_:=Aside0.mk (Kd.R_lower ho (below_size HB7.out))
       have n1_:=Aside0.mk (below_step HB7.out hb)
       clear HB7
       have HL:=n0_
       have HB7:=n1_
       clear n0_ n1_
       clear hb ho
       refine hK.out _ _ ⟨(HB7.out.cell LS.out).trans hs0.out,(HB7.out.cell LS.out).trans hs1.out,(HB7.out.cell LS.out).trans hs2.out,(HB7.out.cell LS.out).trans hs3.out,(HB7.out.cell LV.out).trans hv0.out,(HB7.out.cell LV.out).trans hv1.out⟩ (fun hHeld=>?_)
       clear hK K
       refine norm_ (a':=?_) ?_ ?_
       rotate_left
       ·show Act.put _ (some 66) _=_
        simp only [Act.put,List.setIfInBounds_toArray,List.set_cons_zero,List.set_cons_succ,i64_w,i32_w]
        rfl
       refine one_ (i:=4) (N:=some 63) #[true,true,true,true,true,true,true,true,false,false,false] rfl rfl (by kernel_rfl) (by decide) (fun K hK=>?_)
       refine goesVC_ Try.func19 (by kernel_rfl) rfl #[.agg #[.int .i64 0,.int .i64 2,.int .i64 v.f0,.string v.f1]] (by rfl) rfl rfl rfl (by simp only [List.map_toArray,List.map_cons,List.map_nil];rfl) ?_
       refine (with_any ⟨0,2,v⟩ gf AF fit.length cF fit _ (blk_below BKgf.out HB7.out) (Kd.C_below CF7.out HB7.out) H.out.h_flen).mono ?_
       rintro e wc ⟨u63,rfl,hU,hb⟩
       refine ⟨_,rfl,?_⟩
       have n0_:=Aside0.mk (Kd.R_elder' HL.out (Kd.R_base hU) hb)
       have n1_:=Aside0.mk (Kd.R_lower (Kd.R_new' hU (Kd.R_lt HL.out)) (below_size HB7.out))
       have n2_:=Aside0.mk (below_step HB7.out hb)
       clear HL HB7
       have HL:=n0_
       have HU:=n1_
       have HB7:=n2_
       clear n0_ n1_ n2_
       clear hU hb
       refine hK.out _ _ ⟨(HB7.out.cell LS.out).trans hs0.out,(HB7.out.cell LS.out).trans hs1.out,(HB7.out.cell LS.out).trans hs2.out,(HB7.out.cell LS.out).trans hs3.out,(HB7.out.cell LV.out).trans hv0.out,(HB7.out.cell LV.out).trans hv1.out⟩ (fun hHeld=>?_)
       clear hK K
       refine norm_ (a':=?_) ?_ ?_
       rotate_left
       ·show Act.put _ (some 63) _=_
        simp only [Act.put,List.setIfInBounds_toArray,List.set_cons_zero,List.set_cons_succ,i64_w,i32_w]
        rfl
       exact norm_ (by simp only [putAll,Act.put,List.setIfInBounds_toArray,List.set_cons_zero,List.set_cons_succ]) (hCont (u63,u66) _ ⟨⟨Kd.R_mono HU.out (fun _ _=>trivial)⟩,⟨Kd.R_mono HL.out (fun _ _=>trivial)⟩,HB7⟩)
     clear HB7 hHeld
     rintro ⟨u63,u66⟩ w9 ⟨HU,HL,HB7⟩
     have hHeld : (fun w' : World=>w'.cell? ⟨gs,0,none⟩=some (.slice (some adT) T.length cT)∧w'.cell? ⟨gs,1,none⟩=some (.int .i64 ta)∧w'.cell? ⟨gs,2,none⟩=some (.int .i64 tb)∧w'.cell? ⟨gs,3,none⟩=some (.int .i64 td)∧w'.cell? ⟨gv,0,none⟩=some (.int .i64 v.f0)∧w'.cell? ⟨gv,1,none⟩=some (.string v.f1)) w9:=⟨(HB7.out.cell LS.out).trans hs0.out,(HB7.out.cell LS.out).trans hs1.out,(HB7.out.cell LS.out).trans hs2.out,(HB7.out.cell LS.out).trans hs3.out,(HB7.out.cell LV.out).trans hv0.out,(HB7.out.cell LV.out).trans hv1.out⟩
     refine norm_ (a':=?_) ?_ ?_
     rotate_left
     ·simp only [putAll,Act.put,List.setIfInBounds_toArray,List.set_cons_zero,List.set_cons_succ]
      rfl
     refine one_ (i:=8) (N:=some 67) #[true,true,true,true,true,true,true,true,true,false,false] rfl rfl (by kernel_rfl) (by decide) (fun K hK=>?_)
     obtain ⟨A8,c8,e8⟩:=Kd.R_slice HL.out
     subst e8
     refine Kd.R_append_rows_step k39 (w0:=w7) w7.heap.size (by rfl) (.tmp 63) (.tmp 66) 25 39 (.agg #[(.int .i64 0),(.int .i64 0),(.int .i64 0),(.string ⟨#[]⟩)]) 40 rfl Try.underlying25 info39 rfl (by decide) (by omega) u63 (fit ++ [(⟨0,2,(⟨v.f0,v.f1⟩ : S37)⟩ : S39)]) [(⟨0,1,(⟨v.f0,v.f1⟩ : S37)⟩ : S39)] _ _ _ (fun _=>True) (fun _=>False) rfl rfl ?aO ?aR (fun _ _ h=>h) (fun _ h=>h.elim) ?aF HB7.out (below_size HB7.out) ?aL ?_
     (case aR=>exact (Kd.R_reads' HL.out).2.2)
     (case aO=>exact HU.out)
     (case aF=>exact (fun _ _=>trivial))
     (case aL=>have:=H.out.h_flen;simp only [List.length_append,List.length_cons,List.length_nil];omega)
     intro u67 wa ho hb hg hat
     have n0_:=Aside0.mk (ho)
     have n1_:=Aside0.mk (hb)
     clear HU HB7
     have HU:=n0_
     have HB7:=n1_
     clear n0_ n1_
     clear ho hb hg hat HL
     refine hK.out _ _ ⟨(HB7.out.cell LS.out).trans hs0.out,(HB7.out.cell LS.out).trans hs1.out,(HB7.out.cell LS.out).trans hs2.out,(HB7.out.cell LS.out).trans hs3.out,(HB7.out.cell LV.out).trans hv0.out,(HB7.out.cell LV.out).trans hv1.out⟩ (fun hHeld=>?_)
     clear hK K
     refine norm_ (a':=?_) ?_ ?_
     rotate_left
     ·show Act.put _ (some 67) _=_
      simp only [Act.put,List.setIfInBounds_toArray,List.set_cons_zero,List.set_cons_succ,i64_w,i32_w]
      rfl
     refine one_ (i:=9) (N:=some 68) #[true,true,true,true,true,true,true,true,true,true,false] rfl rfl (by kernel_rfl) (by decide) (fun K hK=>?_)
     obtain ⟨AU,cU,eU⟩:=Kd.R_slice HU.out
     subst eU
     refine goes_ Try.func20 (by kernel_rfl) rfl #[.agg #[.slice (some adT) T.length cT,.int .i64 ta,.int .i64 tb,.int .i64 td],.slice AU (fit ++ [(⟨0,2,(⟨v.f0,v.f1⟩ : S37)⟩ : S39)] ++ [(⟨0,1,(⟨v.f0,v.f1⟩ : S37)⟩ : S39)]).length cU] (by rfl) rfl rfl (by simp only [List.map_toArray,List.map_cons,List.map_nil];rfl) ?_
     with_reducible refine (filter_May.calls k (some adT) cT T ta tb td AU cU (fit ++ [(⟨0,2,(⟨v.f0,v.f1⟩ : S37)⟩ : S39)] ++ [(⟨0,1,(⟨v.f0,v.f1⟩ : S37)⟩ : S39)]) two _ (Kd.C_below CT7.out HB7.out) HCT.out (Kd.R_reads' HU.out).2.2 (Kd.R_reads' HU.out).2.1 HTWO.out).mono ?_
     rintro e wc ⟨rfl,hb⟩
     refine ⟨_,rfl,?_⟩
     have n0_:=Aside0.mk (below_step HB7.out hb)
     clear HB7
     have HB7:=n0_
     clear n0_
     clear hb HU
     refine hK.out _ _ ⟨(HB7.out.cell LS.out).trans hs0.out,(HB7.out.cell LS.out).trans hs1.out,(HB7.out.cell LS.out).trans hs2.out,(HB7.out.cell LS.out).trans hs3.out,(HB7.out.cell LV.out).trans hv0.out,(HB7.out.cell LV.out).trans hv1.out⟩ (fun hHeld=>?_)
     clear hK K
     refine norm_ (a':=?_) ?_ ?_
     rotate_left
     ·show Act.put _ (some 68) _=_
      simp only [Act.put,List.setIfInBounds_toArray,List.set_cons_zero,List.set_cons_succ,i64_w,i32_w]
      rfl
     refine pure_ (i:=10) (N:=some 15) (v:=?_) (a':=?_) #[true,true,true,true,true,true,true,true,true,true,true] rfl rfl (by kernel_rfl) (fun _ _ _ h=>h) (Or.inl ⟨by rfl,?_⟩) ?_ ?_
     rotate_left;(intro w';go_simp;with_reducible rfl);rotate_left;(simp only [Act.put,List.setIfInBounds_toArray,List.set_cons_zero,List.set_cons_succ,i64_w,i32_w];rfl)
     refine done_ (by kernel_rfl) ?_
     (try clear hHeld)
     go_wp2
     have n0_:=Aside0.mk (HB7.out.drew)
     clear HB7
     have HB7:=n0_
     clear n0_
     refine start_ (n:=7) (S:=fun w'=>w'.cell? ⟨gs,0,none⟩=some (.slice (some adT) T.length cT)∧w'.cell? ⟨gs,1,none⟩=some (.int .i64 ta)∧w'.cell? ⟨gs,2,none⟩=some (.int .i64 tb)∧w'.cell? ⟨gs,3,none⟩=some (.int .i64 td)) (ds:=[]) #[false,false,false,false,false,false,false] (by kernel_rfl) rfl rfl ⟨(HB7.out.cell LS.out).trans hs0.out,(HB7.out.cell LS.out).trans hs1.out,(HB7.out.cell LS.out).trans hs2.out,(HB7.out.cell LS.out).trans hs3.out⟩ (fun hHeld=>?_)
     refine pure_ (i:=1) (N:=some 70) (v:=?_) (a':=?_) #[false,true,false,false,false,false,false] rfl rfl (by kernel_rfl) (fun _ _ _ h=>h) (Or.inl ⟨by rfl,?_⟩) ?_ ?_
     rotate_left;(intro w';go_simp;with_reducible rfl);rotate_left;(simp only [Act.put,List.setIfInBounds_toArray,List.set_cons_zero,List.set_cons_succ,i64_w,i32_w];rfl)
     refine pure_ (i:=2) (N:=some 71) (v:=?_) (a':=?_) #[false,true,true,false,false,false,false] rfl rfl (by kernel_rfl) (fun _ _ _ h=>h) (Or.inl ⟨by rfl,?_⟩) ?_ ?_
     rotate_left;(intro w';go_simp;with_reducible rfl);rotate_left;(simp only [Act.put,List.setIfInBounds_toArray,List.set_cons_zero,List.set_cons_succ,i64_w,i32_w];rfl)
     refine pure_ (i:=3) (N:=some 72) (v:=?_) (a':=?_) #[false,true,true,true,false,false,false] rfl rfl (by kernel_rfl) (fun _ _ _ h=>h) (Or.inl ⟨by rfl,?_⟩) ?_ ?_
     rotate_left;(intro w';go_simp;with_reducible rfl);rotate_left;(simp only [Act.put,List.setIfInBounds_toArray,List.set_cons_zero,List.set_cons_succ,i64_w,i32_w];rfl)
     refine take_ (i:=0) (N:=some 69) (v:=?_) (a':=?_) #[true,true,true,true,false,false,false] rfl rfl (by kernel_rfl) (fun _ _ _ h=>h) (Or.inl ⟨by rfl,?_⟩) hHeld ?_ ?_
     rotate_left;(rintro w' ⟨s0,s1,s2,s3⟩;go_simp;with_reducible rfl);rotate_left;(simp only [Act.put,List.setIfInBounds_toArray,List.set_cons_zero,List.set_cons_succ,i64_w,i32_w];rfl)
     refine one_ (i:=4) (N:=some 73) #[true,true,true,true,true,false,false] rfl rfl (by kernel_rfl) (by decide) (fun K hK=>?_)
     refine goesVC_ Try.func19 (by kernel_rfl) rfl #[.agg #[.int .i64 0,.int .i64 1,.int .i64 1,.string ⟨#[120]⟩]] (by rfl) rfl rfl rfl (by simp only [List.map_toArray,List.map_cons,List.map_nil];rfl) ?_
     refine (with_any ⟨0,1,⟨1,⟨#[120]⟩⟩⟩ gf AF fit.length cF fit _ (blk_below BKgf.out HB7.out) (Kd.C_below CF7.out HB7.out) H.out.h_flen).mono ?_
     rintro e wc ⟨u73,rfl,hU,hb⟩
     refine ⟨_,rfl,?_⟩
     have n0_:=Aside0.mk (Kd.R_lower hU (below_size HB7.out))
     have n1_:=Aside0.mk (below_step HB7.out hb)
     clear HB7
     have HU:=n0_
     have HB7:=n1_
     clear n0_ n1_
     clear hU hb
     refine hK.out _ _ ⟨(HB7.out.cell LS.out).trans hs0.out,(HB7.out.cell LS.out).trans hs1.out,(HB7.out.cell LS.out).trans hs2.out,(HB7.out.cell LS.out).trans hs3.out⟩ (fun hHeld=>?_)
     clear hK K
     refine norm_ (a':=?_) ?_ ?_
     rotate_left
     ·show Act.put _ (some 73) _=_
      simp only [Act.put,List.setIfInBounds_toArray,List.set_cons_zero,List.set_cons_succ,i64_w,i32_w]
      rfl
     refine one_ (i:=5) (N:=some 74) #[true,true,true,true,true,true,false] rfl rfl (by kernel_rfl) (by decide) (fun K hK=>?_)
     obtain ⟨AU,cU,eU⟩:=Kd.R_slice HU.out
     subst eU
     refine goes_ Try.func20 (by kernel_rfl) rfl #[.agg #[.slice (some adT) T.length cT,.int .i64 ta,.int .i64 tb,.int .i64 td],.slice AU (fit ++ [(⟨0,1,(⟨1,⟨#[120]⟩⟩ : S37)⟩ : S39)]).length cU] (by rfl) rfl rfl (by simp only [List.map_toArray,List.map_cons,List.map_nil];rfl) ?_
     with_reducible refine (filter_May.calls k (some adT) cT T ta tb td AU cU (fit ++ [(⟨0,1,(⟨1,⟨#[120]⟩⟩ : S37)⟩ : S39)]) false _ (Kd.C_below CT7.out HB7.out) HCT.out (Kd.R_reads' HU.out).2.2 (Kd.R_reads' HU.out).2.1 HWR.out).mono ?_
     rintro e wc ⟨rfl,hb⟩
     refine ⟨_,rfl,?_⟩
     have n0_:=Aside0.mk (below_step HB7.out hb)
     clear HB7
     have HB7:=n0_
     clear n0_
     clear hb HU
     refine hK.out _ _ ⟨(HB7.out.cell LS.out).trans hs0.out,(HB7.out.cell LS.out).trans hs1.out,(HB7.out.cell LS.out).trans hs2.out,(HB7.out.cell LS.out).trans hs3.out⟩ (fun hHeld=>?_)
     clear hK K
     refine norm_ (a':=?_) ?_ ?_
     rotate_left
     ·show Act.put _ (some 74) _=_
      simp only [Act.put,List.setIfInBounds_toArray,List.set_cons_zero,List.set_cons_succ,i64_w,i32_w]
      rfl
     refine pure_ (i:=6) (N:=some 16) (v:=?_) (a':=?_) #[true,true,true,true,true,true,true] rfl rfl (by kernel_rfl) (fun _ _ _ h=>h) (Or.inl ⟨by rfl,?_⟩) ?_ ?_
     rotate_left;(intro w';go_simp;with_reducible rfl);rotate_left;(simp only [Act.put,List.setIfInBounds_toArray,List.set_cons_zero,List.set_cons_succ,i64_w,i32_w];rfl)
     refine done_ (by kernel_rfl) ?_
     (try clear hHeld)
     have hc0:=(HB7.out.cell LS.out).trans hs0.out
     have hc1:=(HB7.out.cell LS.out).trans hs1.out
     have hc2:=(HB7.out.cell LS.out).trans hs2.out
     have hc3:=(HB7.out.cell LS.out).trans hs3.out
     have hcf:=(HB7.out.cell LF.out).trans hf0.out
     cases col
     ·have e0:=H.out.c2 rfl
      have en : ((7 : Int) == 0)=false:=by rw [beq_eq_false_iff_ne];exact e0
      have en2 : ((7 : Int) != 0)=true:=by rw [bne_iff_ne];exact e0
      clear e0
      obtain rfl : two=decide ((fit.length : Int) < 15):=H.out.e2
      by_cases h15 : (fit.length : Int) < 15
      ·have d15 : decide ((fit.length : Int) < 15)=true:=decide_eq_true h15
       clear h15
       go_wp2_with (go_at_call 20;fail)
       refine (filter_May.calls k (some adT) cT T ta tb td none 0 [] true _ (Kd.C_below CT7.out HB7.out) HCT.out (Kd.C_nil _ _) (by simp) H.out.h_none).mono ?_
       rintro e wz ⟨rfl,hb⟩
       go_wp2
       go_ret
       exact ⟨rfl,HB.out.trans ((HB7.out.trans (hb.mono HB7.out.size)).mono HB.out.size)⟩
      ·have d15 : decide ((fit.length : Int) < 15)=false:=decide_eq_false h15
       clear h15
       go_wp2_with (go_at_call 20;fail)
       refine (filter_May.calls k (some adT) cT T ta tb td none 0 [] true _ (Kd.C_below CT7.out HB7.out) HCT.out (Kd.C_nil _ _) (by simp) H.out.h_none).mono ?_
       rintro e wz ⟨rfl,hb⟩
       go_wp2
       go_ret
       exact ⟨rfl,HB.out.trans ((HB7.out.trans (hb.mono HB7.out.size)).mono HB.out.size)⟩
     ·obtain ⟨e0,e1⟩:=H.out.c1 rfl
      have en0 : decide ((7 : Int) ≥ 0)=true:=decide_eq_true e0
      have en1 : decide ((7 : Int) < (T.length : Int))=true:=decide_eq_true e1
      clear e0 e1
      obtain rfl : two=decide ((fit.length : Int) < 15):=H.out.e2
      by_cases h15 : (fit.length : Int) < 15
      ·have d15 : decide ((fit.length : Int) < 15)=true:=decide_eq_true h15
       clear h15
       go_wp2_with (go_at_call 20;fail)
       refine (filter_May.calls k (some adT) cT T ta tb td none 0 [] true _ (Kd.C_below CT7.out HB7.out) HCT.out (Kd.C_nil _ _) (by simp) H.out.h_none).mono ?_
       rintro e wz ⟨rfl,hb⟩
       go_wp2
       go_ret
       exact ⟨rfl,HB.out.trans ((HB7.out.trans (hb.mono HB7.out.size)).mono HB.out.size)⟩
      ·have d15 : decide ((fit.length : Int) < 15)=false:=decide_eq_false h15
       clear h15
       go_wp2_with (go_at_call 20;fail)
       refine (filter_May.calls k (some adT) cT T ta tb td none 0 [] true _ (Kd.C_below CT7.out HB7.out) HCT.out (Kd.C_nil _ _) (by simp) H.out.h_none).mono ?_
       rintro e wz ⟨rfl,hb⟩
       go_wp2
       go_ret
       exact ⟨rfl,HB.out.trans ((HB7.out.trans (hb.mono HB7.out.size)).mono HB.out.size)⟩
   ·have d3 : decide (n=7)=false:=decide_eq_false n7
    have d3b : (n == 7)=false:=by rw [beq_eq_false_iff_ne];exact n7
    obtain rfl : op=false:=by rw [HFI.out,d2,d3];simp
    clear HFI n6 d3
    go_wp2
    have n0_:=Aside0.mk (HB7.out.drew)
    clear HB7 hT0 hc0
    have HB7:=n0_
    clear n0_
    refine start_ (n:=11) (S:=fun w'=>w'.cell? ⟨gs,0,none⟩=some (.slice (some adT) T.length cT)∧w'.cell? ⟨gs,1,none⟩=some (.int .i64 ta)∧w'.cell? ⟨gs,2,none⟩=some (.int .i64 tb)∧w'.cell? ⟨gs,3,none⟩=some (.int .i64 td)∧w'.cell? ⟨gv,0,none⟩=some (.int .i64 v.f0)∧w'.cell? ⟨gv,1,none⟩=some (.string v.f1)) (ds:=[]) #[false,false,false,false,false,false,false,false,false,false,false] (by kernel_rfl) rfl rfl ⟨(HB7.out.cell LS.out).trans hs0.out,(HB7.out.cell LS.out).trans hs1.out,(HB7.out.cell LS.out).trans hs2.out,(HB7.out.cell LS.out).trans hs3.out,(HB7.out.cell LV.out).trans hv0.out,(HB7.out.cell LV.out).trans hv1.out⟩ (fun hHeld=>?_)
    refine pure_ (i:=1) (N:=some 60) (v:=?_) (a':=?_) #[false,true,false,false,false,false,false,false,false,false,false] rfl rfl (by kernel_rfl) (fun _ _ _ h=>h) (Or.inl ⟨by rfl,?_⟩) ?_ ?_
    rotate_left;(intro w';go_simp;with_reducible rfl);rotate_left;(simp only [Act.put,List.setIfInBounds_toArray,List.set_cons_zero,List.set_cons_succ,i64_w,i32_w];rfl)
    refine take_ (i:=0) (N:=some 59) (v:=?_) (a':=?_) #[true,true,false,false,false,false,false,false,false,false,false] rfl rfl (by kernel_rfl) (fun _ _ _ h=>h) (Or.inl ⟨by rfl,?_⟩) hHeld ?_ ?_
    rotate_left;(rintro w' ⟨s0,s1,s2,s3,s4,s5⟩;go_simp;with_reducible rfl);rotate_left;(simp only [Act.put,List.setIfInBounds_toArray,List.set_cons_zero,List.set_cons_succ,i64_w,i32_w];rfl)
    refine take_ (i:=2) (N:=some 61) (v:=?_) (a':=?_) #[true,true,true,false,false,false,false,false,false,false,false] rfl rfl (by kernel_rfl) (fun _ _ _ h=>h) (Or.inl ⟨by rfl,?_⟩) hHeld ?_ ?_
    rotate_left;(rintro w' ⟨s0,s1,s2,s3,s4,s5⟩;go_simp;with_reducible rfl);rotate_left;(simp only [Act.put,List.setIfInBounds_toArray,List.set_cons_zero,List.set_cons_succ,i64_w,i32_w];rfl)
    refine pure_ (i:=3) (N:=some 62) (v:=?_) (a':=?_) #[true,true,true,true,false,false,false,false,false,false,false] rfl rfl (by kernel_rfl) (fun _ _ _ h=>h) (Or.inl ⟨by rfl,?_⟩) ?_ ?_
    rotate_left;(intro w';go_simp;with_reducible rfl);rotate_left;(simp only [Act.put,List.setIfInBounds_toArray,List.set_cons_zero,List.set_cons_succ,i64_w,i32_w];rfl)
    refine take_ (i:=5) (N:=some 64) (v:=?_) (a':=?_) #[true,true,true,true,false,true,false,false,false,false,false] rfl rfl (by kernel_rfl) (fun _ _ _ h=>h) (Or.inl ⟨by rfl,?_⟩) hHeld ?_ ?_
    rotate_left;(rintro w' ⟨s0,s1,s2,s3,s4,s5⟩;go_simp;with_reducible rfl);rotate_left;(simp only [Act.put,List.setIfInBounds_toArray,List.set_cons_zero,List.set_cons_succ,i64_w,i32_w];rfl)
    refine pure_ (i:=6) (N:=some 65) (v:=?_) (a':=?_) #[true,true,true,true,false,true,true,false,false,false,false] rfl rfl (by kernel_rfl) (fun _ _ _ h=>h) (Or.inl ⟨by rfl,?_⟩) ?_ ?_
    rotate_left;(intro w';go_simp;with_reducible rfl);rotate_left;(simp only [Act.put,List.setIfInBounds_toArray,List.set_cons_zero,List.set_cons_succ,i64_w,i32_w];rfl)
    refine join_ (σ:=Value × Value) 3 #[true,true,true,true,true,true,true,true,false,false,false] (fun s=>[(63,s.1),(66,s.2)]) (fun s w'=>Aside0 (Kd.R k39 39 w' w7.heap.size (fun _=>True) s.1 (fit ++ [(⟨0,2,(⟨v.f0,v.f1⟩ : S37)⟩ : S39)]))∧Aside0 (Kd.R k39 39 w' w7.heap.size (fun _=>True) s.2 [(⟨0,1,(⟨v.f0,v.f1⟩ : S37)⟩ : S39)])∧Aside0 (Below w7.heap.size w7 w')) ?_ ?_
    rotate_left
    ·intro hCont
     refine two_ (i:=4) (j:=7) (Ni:=some 63) (Nj:=some 66) #[true,true,true,true,true,true,true,false,false,false,false] #[true,true,true,true,false,true,true,true,false,false,false] rfl rfl rfl rfl (by kernel_rfl) (by decide) (by decide) (fun K hK=>?_) (fun K hK=>?_)
     ·skip
      refine goesVC_ Try.func19 (by kernel_rfl) rfl #[.agg #[.int .i64 0,.int .i64 2,.int .i64 v.f0,.string v.f1]] (by rfl) rfl rfl rfl (by simp only [List.map_toArray,List.map_cons,List.map_nil];rfl) ?_
      refine (with_any ⟨0,2,v⟩ gf AF fit.length cF fit _ (blk_below BKgf.out HB7.out) (Kd.C_below CF7.out HB7.out) H.out.h_flen).mono ?_
      rintro e wc ⟨u63,rfl,hU,hb⟩
      refine ⟨_,rfl,?_⟩
      have n0_:=Aside0.mk (Kd.R_lower hU (below_size HB7.out))
      have n1_:=Aside0.mk (below_step HB7.out hb)
      clear HB7
      have HU:=n0_
      have HB7:=n1_
      clear n0_ n1_
      clear hU hb
      refine hK.out _ _ ⟨(HB7.out.cell LS.out).trans hs0.out,(HB7.out.cell LS.out).trans hs1.out,(HB7.out.cell LS.out).trans hs2.out,(HB7.out.cell LS.out).trans hs3.out,(HB7.out.cell LV.out).trans hv0.out,(HB7.out.cell LV.out).trans hv1.out⟩ (fun hHeld=>?_)
      clear hK K
      refine norm_ (a':=?_) ?_ ?_
      rotate_left
      ·show Act.put _ (some 63) _=_
       simp only [Act.put,List.setIfInBounds_toArray,List.set_cons_zero,List.set_cons_succ,i64_w,i32_w]
       rfl
      refine one_ (i:=7) (N:=some 66) #[true,true,true,true,true,true,true,true,false,false,false] rfl rfl (by kernel_rfl) (by decide) (fun K hK=>?_)
      refine Kd.R_lit_step k39 _ 39 ?hg (N:=66) ?hd (xs:=([(⟨0,1,(⟨v.f0,v.f1⟩ : S37)⟩ : S39)] : List (S39))) (inner:=[.int .i64 0,.int .i64 1,.int .i64 v.f0,.string v.f1]) (ok:=fun _=>True) (okp:=fun _=>True) ?hr ?hp (fun _ hk=>hk) trivial (Below.refl _ _) (Nat.le_refl _) (by simp) ?_
      (case hd=>rfl)
      (case hg=>rfl)
      (case hr=>first|(go_simp;done)|(go_simp;rfl))
      (case hp=>exact (Reps.c4 (k39_mkM _ _ _ (⟨0,1,(⟨v.f0,v.f1⟩ : S37)⟩ : S39)) (Reps.none _ _)))
      intro u66 wa ho hb hg_ hnew_
      clear hg_ hnew_
      have n0_:=Aside0.mk (Kd.R_elder' HU.out (Kd.R_base ho) hb)
      have n1_:=Aside0.mk (Kd.R_lower (Kd.R_new' ho (Kd.R_lt HU.out)) (below_size HB7.out))
      have n2_:=Aside0.mk (below_step HB7.out hb)
      clear HU HB7
      have HU:=n0_
      have HL:=n1_
      have HB7:=n2_
      clear n0_ n1_ n2_
      clear hb ho
      refine hK.out _ _ ⟨(HB7.out.cell LS.out).trans hs0.out,(HB7.out.cell LS.out).trans hs1.out,(HB7.out.cell LS.out).trans hs2.out,(HB7.out.cell LS.out).trans hs3.out,(HB7.out.cell LV.out).trans hv0.out,(HB7.out.cell LV.out).trans hv1.out⟩ (fun hHeld=>?_)
      clear hK K
      refine norm_ (a':=?_) ?_ ?_
      rotate_left
      ·show Act.put _ (some 66) _=_
       simp only [Act.put,List.setIfInBounds_toArray,List.set_cons_zero,List.set_cons_succ,i64_w,i32_w]
       rfl
      exact norm_ (by simp only [putAll,Act.put,List.setIfInBounds_toArray,List.set_cons_zero,List.set_cons_succ]) (hCont (u63,u66) _ ⟨⟨Kd.R_mono HU.out (fun _ _=>trivial)⟩,⟨Kd.R_mono HL.out (fun _ _=>trivial)⟩,HB7⟩)
     ·skip
      refine Kd.R_lit_step k39 _ 39 ?hg (N:=66) ?hd (xs:=([(⟨0,1,(⟨v.f0,v.f1⟩ : S37)⟩ : S39)] : List (S39))) (inner:=[.int .i64 0,.int .i64 1,.int .i64 v.f0,.string v.f1]) (ok:=fun _=>True) (okp:=fun _=>True) ?hr ?hp (fun _ hk=>hk) trivial (Below.refl _ _) (Nat.le_refl _) (by simp) ?_
      (case hd=>rfl)
      (case hg=>rfl)
      (case hr=>first|(go_simp;done)|(go_simp;rfl))
      (case hp=>exact (Reps.c4 (k39_mkM _ _ _ (⟨0,1,(⟨v.f0,v.f1⟩ : S37)⟩ : S39)) (Reps.none _ _)))
      intro u66 wa ho hb hg_ hnew_
      clear hg_ hnew_
      have n0_:=Aside0.mk (Kd.R_lower ho (below_size HB7.out))
      have n1_:=Aside0.mk (below_step HB7.out hb)
      clear HB7
      have HL:=n0_
      have HB7:=n1_
      clear n0_ n1_
      clear hb ho
      refine hK.out _ _ ⟨(HB7.out.cell LS.out).trans hs0.out,(HB7.out.cell LS.out).trans hs1.out,(HB7.out.cell LS.out).trans hs2.out,(HB7.out.cell LS.out).trans hs3.out,(HB7.out.cell LV.out).trans hv0.out,(HB7.out.cell LV.out).trans hv1.out⟩ (fun hHeld=>?_)
      clear hK K
      refine norm_ (a':=?_) ?_ ?_
      rotate_left
      ·show Act.put _ (some 66) _=_
       simp only [Act.put,List.setIfInBounds_toArray,List.set_cons_zero,List.set_cons_succ,i64_w,i32_w]
       rfl
      refine one_ (i:=4) (N:=some 63) #[true,true,true,true,true,true,true,true,false,false,false] rfl rfl (by kernel_rfl) (by decide) (fun K hK=>?_)
      refine goesVC_ Try.func19 (by kernel_rfl) rfl #[.agg #[.int .i64 0,.int .i64 2,.int .i64 v.f0,.string v.f1]] (by rfl) rfl rfl rfl (by simp only [List.map_toArray,List.map_cons,List.map_nil];rfl) ?_
      refine (with_any ⟨0,2,v⟩ gf AF fit.length cF fit _ (blk_below BKgf.out HB7.out) (Kd.C_below CF7.out HB7.out) H.out.h_flen).mono ?_
      rintro e wc ⟨u63,rfl,hU,hb⟩
      refine ⟨_,rfl,?_⟩
      have n0_:=Aside0.mk (Kd.R_elder' HL.out (Kd.R_base hU) hb)
      have n1_:=Aside0.mk (Kd.R_lower (Kd.R_new' hU (Kd.R_lt HL.out)) (below_size HB7.out))
      have n2_:=Aside0.mk (below_step HB7.out hb)
      clear HL HB7
      have HL:=n0_
      have HU:=n1_
      have HB7:=n2_
      clear n0_ n1_ n2_
      clear hU hb
      refine hK.out _ _ ⟨(HB7.out.cell LS.out).trans hs0.out,(HB7.out.cell LS.out).trans hs1.out,(HB7.out.cell LS.out).trans hs2.out,(HB7.out.cell LS.out).trans hs3.out,(HB7.out.cell LV.out).trans hv0.out,(HB7.out.cell LV.out).trans hv1.out⟩ (fun hHeld=>?_)
      clear hK K
      refine norm_ (a':=?_) ?_ ?_
      rotate_left
      ·show Act.put _ (some 63) _=_
       simp only [Act.put,List.setIfInBounds_toArray,List.set_cons_zero,List.set_cons_succ,i64_w,i32_w]
       rfl
      exact norm_ (by simp only [putAll,Act.put,List.setIfInBounds_toArray,List.set_cons_zero,List.set_cons_succ]) (hCont (u63,u66) _ ⟨⟨Kd.R_mono HU.out (fun _ _=>trivial)⟩,⟨Kd.R_mono HL.out (fun _ _=>trivial)⟩,HB7⟩)
    clear HB7 hHeld
    rintro ⟨u63,u66⟩ w9 ⟨HU,HL,HB7⟩
    have hHeld : (fun w' : World=>w'.cell? ⟨gs,0,none⟩=some (.slice (some adT) T.length cT)∧w'.cell? ⟨gs,1,none⟩=some (.int .i64 ta)∧w'.cell? ⟨gs,2,none⟩=some (.int .i64 tb)∧w'.cell? ⟨gs,3,none⟩=some (.int .i64 td)∧w'.cell? ⟨gv,0,none⟩=some (.int .i64 v.f0)∧w'.cell? ⟨gv,1,none⟩=some (.string v.f1)) w9:=⟨(HB7.out.cell LS.out).trans hs0.out,(HB7.out.cell LS.out).trans hs1.out,(HB7.out.cell LS.out).trans hs2.out,(HB7.out.cell LS.out).trans hs3.out,(HB7.out.cell LV.out).trans hv0.out,(HB7.out.cell LV.out).trans hv1.out⟩
    refine norm_ (a':=?_) ?_ ?_
    rotate_left
    ·simp only [putAll,Act.put,List.setIfInBounds_toArray,List.set_cons_zero,List.set_cons_succ]
     rfl
    refine one_ (i:=8) (N:=some 67) #[true,true,true,true,true,true,true,true,true,false,false] rfl rfl (by kernel_rfl) (by decide) (fun K hK=>?_)
    obtain ⟨A8,c8,e8⟩:=Kd.R_slice HL.out
    subst e8
    refine Kd.R_append_rows_step k39 (w0:=w7) w7.heap.size (by rfl) (.tmp 63) (.tmp 66) 25 39 (.agg #[(.int .i64 0),(.int .i64 0),(.int .i64 0),(.string ⟨#[]⟩)]) 40 rfl Try.underlying25 info39 rfl (by decide) (by omega) u63 (fit ++ [(⟨0,2,(⟨v.f0,v.f1⟩ : S37)⟩ : S39)]) [(⟨0,1,(⟨v.f0,v.f1⟩ : S37)⟩ : S39)] _ _ _ (fun _=>True) (fun _=>False) rfl rfl ?aO ?aR (fun _ _ h=>h) (fun _ h=>h.elim) ?aF HB7.out (below_size HB7.out) ?aL ?_
    (case aR=>exact (Kd.R_reads' HL.out).2.2)
    (case aO=>exact HU.out)
    (case aF=>exact (fun _ _=>trivial))
    (case aL=>have:=H.out.h_flen;simp only [List.length_append,List.length_cons,List.length_nil];omega)
    intro u67 wa ho hb hg hat
    have n0_:=Aside0.mk (ho)
    have n1_:=Aside0.mk (hb)
    clear HU HB7
    have HU:=n0_
    have HB7:=n1_
    clear n0_ n1_
    clear ho hb hg hat HL
    refine hK.out _ _ ⟨(HB7.out.cell LS.out).trans hs0.out,(HB7.out.cell LS.out).trans hs1.out,(HB7.out.cell LS.out).trans hs2.out,(HB7.out.cell LS.out).trans hs3.out,(HB7.out.cell LV.out).trans hv0.out,(HB7.out.cell LV.out).trans hv1.out⟩ (fun hHeld=>?_)
    clear hK K
    refine norm_ (a':=?_) ?_ ?_
    rotate_left
    ·show Act.put _ (some 67) _=_
     simp only [Act.put,List.setIfInBounds_toArray,List.set_cons_zero,List.set_cons_succ,i64_w,i32_w]
     rfl
    refine one_ (i:=9) (N:=some 68) #[true,true,true,true,true,true,true,true,true,true,false] rfl rfl (by kernel_rfl) (by decide) (fun K hK=>?_)
    obtain ⟨AU,cU,eU⟩:=Kd.R_slice HU.out
    subst eU
    refine goes_ Try.func20 (by kernel_rfl) rfl #[.agg #[.slice (some adT) T.length cT,.int .i64 ta,.int .i64 tb,.int .i64 td],.slice AU (fit ++ [(⟨0,2,(⟨v.f0,v.f1⟩ : S37)⟩ : S39)] ++ [(⟨0,1,(⟨v.f0,v.f1⟩ : S37)⟩ : S39)]).length cU] (by rfl) rfl rfl (by simp only [List.map_toArray,List.map_cons,List.map_nil];rfl) ?_
    with_reducible refine (filter_May.calls k (some adT) cT T ta tb td AU cU (fit ++ [(⟨0,2,(⟨v.f0,v.f1⟩ : S37)⟩ : S39)] ++ [(⟨0,1,(⟨v.f0,v.f1⟩ : S37)⟩ : S39)]) two _ (Kd.C_below CT7.out HB7.out) HCT.out (Kd.R_reads' HU.out).2.2 (Kd.R_reads' HU.out).2.1 HTWO.out).mono ?_
    rintro e wc ⟨rfl,hb⟩
    refine ⟨_,rfl,?_⟩
    have n0_:=Aside0.mk (below_step HB7.out hb)
    clear HB7
    have HB7:=n0_
    clear n0_
    clear hb HU
    refine hK.out _ _ ⟨(HB7.out.cell LS.out).trans hs0.out,(HB7.out.cell LS.out).trans hs1.out,(HB7.out.cell LS.out).trans hs2.out,(HB7.out.cell LS.out).trans hs3.out,(HB7.out.cell LV.out).trans hv0.out,(HB7.out.cell LV.out).trans hv1.out⟩ (fun hHeld=>?_)
    clear hK K
    refine norm_ (a':=?_) ?_ ?_
    rotate_left
    ·show Act.put _ (some 68) _=_
     simp only [Act.put,List.setIfInBounds_toArray,List.set_cons_zero,List.set_cons_succ,i64_w,i32_w]
     rfl
    refine pure_ (i:=10) (N:=some 15) (v:=?_) (a':=?_) #[true,true,true,true,true,true,true,true,true,true,true] rfl rfl (by kernel_rfl) (fun _ _ _ h=>h) (Or.inl ⟨by rfl,?_⟩) ?_ ?_
    rotate_left;(intro w';go_simp;with_reducible rfl);rotate_left;(simp only [Act.put,List.setIfInBounds_toArray,List.set_cons_zero,List.set_cons_succ,i64_w,i32_w];rfl)
    refine done_ (by kernel_rfl) ?_
    (try clear hHeld)
    go_wp2
    have n0_:=Aside0.mk (HB7.out.drew)
    clear HB7
    have HB7:=n0_
    clear n0_
    refine start_ (n:=7) (S:=fun w'=>w'.cell? ⟨gs,0,none⟩=some (.slice (some adT) T.length cT)∧w'.cell? ⟨gs,1,none⟩=some (.int .i64 ta)∧w'.cell? ⟨gs,2,none⟩=some (.int .i64 tb)∧w'.cell? ⟨gs,3,none⟩=some (.int .i64 td)) (ds:=[]) #[false,false,false,false,false,false,false] (by kernel_rfl) rfl rfl ⟨(HB7.out.cell LS.out).trans hs0.out,(HB7.out.cell LS.out).trans hs1.out,(HB7.out.cell LS.out).trans hs2.out,(HB7.out.cell LS.out).trans hs3.out⟩ (fun hHeld=>?_)
    refine pure_ (i:=1) (N:=some 70) (v:=?_) (a':=?_) #[false,true,false,false,false,false,false] rfl rfl (by kernel_rfl) (fun _ _ _ h=>h) (Or.inl ⟨by rfl,?_⟩) ?_ ?_
    rotate_left;(intro w';go_simp;with_reducible rfl);rotate_left;(simp only [Act.put,List.setIfInBounds_toArray,List.set_cons_zero,List.set_cons_succ,i64_w,i32_w];rfl)
    refine pure_ (i:=2) (N:=some 71) (v:=?_) (a':=?_) #[false,true,true,false,false,false,false] rfl rfl (by kernel_rfl) (fun _ _ _ h=>h) (Or.inl ⟨by rfl,?_⟩) ?_ ?_
    rotate_left;(intro w';go_simp;with_reducible rfl);rotate_left;(simp only [Act.put,List.setIfInBounds_toArray,List.set_cons_zero,List.set_cons_succ,i64_w,i32_w];rfl)
    refine pure_ (i:=3) (N:=some 72) (v:=?_) (a':=?_) #[false,true,true,true,false,false,false] rfl rfl (by kernel_rfl) (fun _ _ _ h=>h) (Or.inl ⟨by rfl,?_⟩) ?_ ?_
    rotate_left;(intro w';go_simp;with_reducible rfl);rotate_left;(simp only [Act.put,List.setIfInBounds_toArray,List.set_cons_zero,List.set_cons_succ,i64_w,i32_w];rfl)
    refine take_ (i:=0) (N:=some 69) (v:=?_) (a':=?_) #[true,true,true,true,false,false,false] rfl rfl (by kernel_rfl) (fun _ _ _ h=>h) (Or.inl ⟨by rfl,?_⟩) hHeld ?_ ?_
    rotate_left;(rintro w' ⟨s0,s1,s2,s3⟩;go_simp;with_reducible rfl);rotate_left;(simp only [Act.put,List.setIfInBounds_toArray,List.set_cons_zero,List.set_cons_succ,i64_w,i32_w];rfl)
    refine one_ (i:=4) (N:=some 73) #[true,true,true,true,true,false,false] rfl rfl (by kernel_rfl) (by decide) (fun K hK=>?_)
    refine goesVC_ Try.func19 (by kernel_rfl) rfl #[.agg #[.int .i64 0,.int .i64 1,.int .i64 1,.string ⟨#[120]⟩]] (by rfl) rfl rfl rfl (by simp only [List.map_toArray,List.map_cons,List.map_nil];rfl) ?_
    refine (with_any ⟨0,1,⟨1,⟨#[120]⟩⟩⟩ gf AF fit.length cF fit _ (blk_below BKgf.out HB7.out) (Kd.C_below CF7.out HB7.out) H.out.h_flen).mono ?_
    rintro e wc ⟨u73,rfl,hU,hb⟩
    refine ⟨_,rfl,?_⟩
    have n0_:=Aside0.mk (Kd.R_lower hU (below_size HB7.out))
    have n1_:=Aside0.mk (below_step HB7.out hb)
    clear HB7
    have HU:=n0_
    have HB7:=n1_
    clear n0_ n1_
    clear hU hb
    refine hK.out _ _ ⟨(HB7.out.cell LS.out).trans hs0.out,(HB7.out.cell LS.out).trans hs1.out,(HB7.out.cell LS.out).trans hs2.out,(HB7.out.cell LS.out).trans hs3.out⟩ (fun hHeld=>?_)
    clear hK K
    refine norm_ (a':=?_) ?_ ?_
    rotate_left
    ·show Act.put _ (some 73) _=_
     simp only [Act.put,List.setIfInBounds_toArray,List.set_cons_zero,List.set_cons_succ,i64_w,i32_w]
     rfl
    refine one_ (i:=5) (N:=some 74) #[true,true,true,true,true,true,false] rfl rfl (by kernel_rfl) (by decide) (fun K hK=>?_)
    obtain ⟨AU,cU,eU⟩:=Kd.R_slice HU.out
    subst eU
    refine goes_ Try.func20 (by kernel_rfl) rfl #[.agg #[.slice (some adT) T.length cT,.int .i64 ta,.int .i64 tb,.int .i64 td],.slice AU (fit ++ [(⟨0,1,(⟨1,⟨#[120]⟩⟩ : S37)⟩ : S39)]).length cU] (by rfl) rfl rfl (by simp only [List.map_toArray,List.map_cons,List.map_nil];rfl) ?_
    with_reducible refine (filter_May.calls k (some adT) cT T ta tb td AU cU (fit ++ [(⟨0,1,(⟨1,⟨#[120]⟩⟩ : S37)⟩ : S39)]) false _ (Kd.C_below CT7.out HB7.out) HCT.out (Kd.R_reads' HU.out).2.2 (Kd.R_reads' HU.out).2.1 HWR.out).mono ?_
    rintro e wc ⟨rfl,hb⟩
    refine ⟨_,rfl,?_⟩
    have n0_:=Aside0.mk (below_step HB7.out hb)
    clear HB7
    have HB7:=n0_
    clear n0_
    clear hb HU
    refine hK.out _ _ ⟨(HB7.out.cell LS.out).trans hs0.out,(HB7.out.cell LS.out).trans hs1.out,(HB7.out.cell LS.out).trans hs2.out,(HB7.out.cell LS.out).trans hs3.out⟩ (fun hHeld=>?_)
    clear hK K
    refine norm_ (a':=?_) ?_ ?_
    rotate_left
    ·show Act.put _ (some 74) _=_
     simp only [Act.put,List.setIfInBounds_toArray,List.set_cons_zero,List.set_cons_succ,i64_w,i32_w]
     rfl
    refine pure_ (i:=6) (N:=some 16) (v:=?_) (a':=?_) #[true,true,true,true,true,true,true] rfl rfl (by kernel_rfl) (fun _ _ _ h=>h) (Or.inl ⟨by rfl,?_⟩) ?_ ?_
    rotate_left;(intro w';go_simp;with_reducible rfl);rotate_left;(simp only [Act.put,List.setIfInBounds_toArray,List.set_cons_zero,List.set_cons_succ,i64_w,i32_w];rfl)
    refine done_ (by kernel_rfl) ?_
    (try clear hHeld)
    have hc0:=(HB7.out.cell LS.out).trans hs0.out
    have hc1:=(HB7.out.cell LS.out).trans hs1.out
    have hc2:=(HB7.out.cell LS.out).trans hs2.out
    have hc3:=(HB7.out.cell LS.out).trans hs3.out
    have hcf:=(HB7.out.cell LF.out).trans hf0.out
    cases col
    ·have e0:=H.out.c2 rfl
     have en : (n == 0)=false:=by rw [beq_eq_false_iff_ne];exact e0
     have en2 : (n != 0)=true:=by rw [bne_iff_ne];exact e0
     clear e0
     obtain rfl : two=decide ((fit.length : Int) < 15):=H.out.e2
     by_cases h15 : (fit.length : Int) < 15
     ·have d15 : decide ((fit.length : Int) < 15)=true:=decide_eq_true h15
      clear h15
      go_wp2_with (go_at_call 20;fail)
      refine (filter_May.calls k (some adT) cT T ta tb td none 0 [] true _ (Kd.C_below CT7.out HB7.out) HCT.out (Kd.C_nil _ _) (by simp) H.out.h_none).mono ?_
      rintro e wz ⟨rfl,hb⟩
      go_wp2
      go_ret
      exact ⟨rfl,HB.out.trans ((HB7.out.trans (hb.mono HB7.out.size)).mono HB.out.size)⟩
     ·have d15 : decide ((fit.length : Int) < 15)=false:=decide_eq_false h15
      clear h15
      go_wp2_with (go_at_call 20;fail)
      refine (filter_May.calls k (some adT) cT T ta tb td none 0 [] true _ (Kd.C_below CT7.out HB7.out) HCT.out (Kd.C_nil _ _) (by simp) H.out.h_none).mono ?_
      rintro e wz ⟨rfl,hb⟩
      go_wp2
      go_ret
      exact ⟨rfl,HB.out.trans ((HB7.out.trans (hb.mono HB7.out.size)).mono HB.out.size)⟩
    ·obtain ⟨e0,e1⟩:=H.out.c1 rfl
     have en0 : decide (n ≥ 0)=true:=decide_eq_true e0
     have en1 : decide (n < (T.length : Int))=true:=decide_eq_true e1
     clear e0 e1
     obtain rfl : two=decide ((fit.length : Int) < 15):=H.out.e2
     by_cases h15 : (fit.length : Int) < 15
     ·have d15 : decide ((fit.length : Int) < 15)=true:=decide_eq_true h15
      clear h15
      go_wp2_with (go_at_call 20;fail)
      refine (filter_May.calls k (some adT) cT T ta tb td none 0 [] true _ (Kd.C_below CT7.out HB7.out) HCT.out (Kd.C_nil _ _) (by simp) H.out.h_none).mono ?_
      rintro e wz ⟨rfl,hb⟩
      go_wp2
      go_ret
      exact ⟨rfl,HB.out.trans ((HB7.out.trans (hb.mono HB7.out.size)).mono HB.out.size)⟩
     ·have d15 : decide ((fit.length : Int) < 15)=false:=decide_eq_false h15
      clear h15
      go_wp2_with (go_at_call 20;fail)
      refine (filter_May.calls k (some adT) cT T ta tb td none 0 [] true _ (Kd.C_below CT7.out HB7.out) HCT.out (Kd.C_nil _ _) (by simp) H.out.h_none).mono ?_
      rintro e wz ⟨rfl,hb⟩
      go_wp2
      go_ret
      exact ⟨rfl,HB.out.trans ((HB7.out.trans (hb.mono HB7.out.size)).mono HB.out.size)⟩
 ·have d1 : decide (n ≥ 1)=false:=decide_eq_false n1
  have d3b : (n == 7)=false:=by rw [beq_eq_false_iff_ne];omega
  obtain rfl : op=false:=by rw [HFI.out,d1,show decide (n=7)=false from decide_eq_false (by omega)];rfl
  clear HFI
  go_wp2
  have n0_:=Aside0.mk (HB7.out.drew)
  clear HB7 hT0 hc0
  have HB7:=n0_
  clear n0_
  refine start_ (n:=11) (S:=fun w'=>w'.cell? ⟨gs,0,none⟩=some (.slice (some adT) T.length cT)∧w'.cell? ⟨gs,1,none⟩=some (.int .i64 ta)∧w'.cell? ⟨gs,2,none⟩=some (.int .i64 tb)∧w'.cell? ⟨gs,3,none⟩=some (.int .i64 td)∧w'.cell? ⟨gv,0,none⟩=some (.int .i64 v.f0)∧w'.cell? ⟨gv,1,none⟩=some (.string v.f1)) (ds:=[]) #[false,false,false,false,false,false,false,false,false,false,false] (by kernel_rfl) rfl rfl ⟨(HB7.out.cell LS.out).trans hs0.out,(HB7.out.cell LS.out).trans hs1.out,(HB7.out.cell LS.out).trans hs2.out,(HB7.out.cell LS.out).trans hs3.out,(HB7.out.cell LV.out).trans hv0.out,(HB7.out.cell LV.out).trans hv1.out⟩ (fun hHeld=>?_)
  refine pure_ (i:=1) (N:=some 60) (v:=?_) (a':=?_) #[false,true,false,false,false,false,false,false,false,false,false] rfl rfl (by kernel_rfl) (fun _ _ _ h=>h) (Or.inl ⟨by rfl,?_⟩) ?_ ?_
  rotate_left;(intro w';go_simp;with_reducible rfl);rotate_left;(simp only [Act.put,List.setIfInBounds_toArray,List.set_cons_zero,List.set_cons_succ,i64_w,i32_w];rfl)
  refine take_ (i:=0) (N:=some 59) (v:=?_) (a':=?_) #[true,true,false,false,false,false,false,false,false,false,false] rfl rfl (by kernel_rfl) (fun _ _ _ h=>h) (Or.inl ⟨by rfl,?_⟩) hHeld ?_ ?_
  rotate_left;(rintro w' ⟨s0,s1,s2,s3,s4,s5⟩;go_simp;with_reducible rfl);rotate_left;(simp only [Act.put,List.setIfInBounds_toArray,List.set_cons_zero,List.set_cons_succ,i64_w,i32_w];rfl)
  refine take_ (i:=2) (N:=some 61) (v:=?_) (a':=?_) #[true,true,true,false,false,false,false,false,false,false,false] rfl rfl (by kernel_rfl) (fun _ _ _ h=>h) (Or.inl ⟨by rfl,?_⟩) hHeld ?_ ?_
  rotate_left;(rintro w' ⟨s0,s1,s2,s3,s4,s5⟩;go_simp;with_reducible rfl);rotate_left;(simp only [Act.put,List.setIfInBounds_toArray,List.set_cons_zero,List.set_cons_succ,i64_w,i32_w];rfl)
  refine pure_ (i:=3) (N:=some 62) (v:=?_) (a':=?_) #[true,true,true,true,false,false,false,false,false,false,false] rfl rfl (by kernel_rfl) (fun _ _ _ h=>h) (Or.inl ⟨by rfl,?_⟩) ?_ ?_
  rotate_left;(intro w';go_simp;with_reducible rfl);rotate_left;(simp only [Act.put,List.setIfInBounds_toArray,List.set_cons_zero,List.set_cons_succ,i64_w,i32_w];rfl)
  refine take_ (i:=5) (N:=some 64) (v:=?_) (a':=?_) #[true,true,true,true,false,true,false,false,false,false,false] rfl rfl (by kernel_rfl) (fun _ _ _ h=>h) (Or.inl ⟨by rfl,?_⟩) hHeld ?_ ?_
  rotate_left;(rintro w' ⟨s0,s1,s2,s3,s4,s5⟩;go_simp;with_reducible rfl);rotate_left;(simp only [Act.put,List.setIfInBounds_toArray,List.set_cons_zero,List.set_cons_succ,i64_w,i32_w];rfl)
  refine pure_ (i:=6) (N:=some 65) (v:=?_) (a':=?_) #[true,true,true,true,false,true,true,false,false,false,false] rfl rfl (by kernel_rfl) (fun _ _ _ h=>h) (Or.inl ⟨by rfl,?_⟩) ?_ ?_
  rotate_left;(intro w';go_simp;with_reducible rfl);rotate_left;(simp only [Act.put,List.setIfInBounds_toArray,List.set_cons_zero,List.set_cons_succ,i64_w,i32_w];rfl)
  refine join_ (σ:=Value × Value) 3 #[true,true,true,true,true,true,true,true,false,false,false] (fun s=>[(63,s.1),(66,s.2)]) (fun s w'=>Aside0 (Kd.R k39 39 w' w7.heap.size (fun _=>True) s.1 (fit ++ [(⟨0,2,(⟨v.f0,v.f1⟩ : S37)⟩ : S39)]))∧Aside0 (Kd.R k39 39 w' w7.heap.size (fun _=>True) s.2 [(⟨0,1,(⟨v.f0,v.f1⟩ : S37)⟩ : S39)])∧Aside0 (Below w7.heap.size w7 w')) ?_ ?_
  rotate_left
  ·intro hCont
   refine two_ (i:=4) (j:=7) (Ni:=some 63) (Nj:=some 66) #[true,true,true,true,true,true,true,false,false,false,false] #[true,true,true,true,false,true,true,true,false,false,false] rfl rfl rfl rfl (by kernel_rfl) (by decide) (by decide) (fun K hK=>?_) (fun K hK=>?_)
   ·skip
    refine goesVC_ Try.func19 (by kernel_rfl) rfl #[.agg #[.int .i64 0,.int .i64 2,.int .i64 v.f0,.string v.f1]] (by rfl) rfl rfl rfl (by simp only [List.map_toArray,List.map_cons,List.map_nil];rfl) ?_
    refine (with_any ⟨0,2,v⟩ gf AF fit.length cF fit _ (blk_below BKgf.out HB7.out) (Kd.C_below CF7.out HB7.out) H.out.h_flen).mono ?_
    rintro e wc ⟨u63,rfl,hU,hb⟩
    refine ⟨_,rfl,?_⟩
    have n0_:=Aside0.mk (Kd.R_lower hU (below_size HB7.out))
    have n1_:=Aside0.mk (below_step HB7.out hb)
    clear HB7
    have HU:=n0_
    have HB7:=n1_
    clear n0_ n1_
    clear hU hb
    refine hK.out _ _ ⟨(HB7.out.cell LS.out).trans hs0.out,(HB7.out.cell LS.out).trans hs1.out,(HB7.out.cell LS.out).trans hs2.out,(HB7.out.cell LS.out).trans hs3.out,(HB7.out.cell LV.out).trans hv0.out,(HB7.out.cell LV.out).trans hv1.out⟩ (fun hHeld=>?_)
    clear hK K
    refine norm_ (a':=?_) ?_ ?_
    rotate_left
    ·show Act.put _ (some 63) _=_
     simp only [Act.put,List.setIfInBounds_toArray,List.set_cons_zero,List.set_cons_succ,i64_w,i32_w]
     rfl
    refine one_ (i:=7) (N:=some 66) #[true,true,true,true,true,true,true,true,false,false,false] rfl rfl (by kernel_rfl) (by decide) (fun K hK=>?_)
    refine Kd.R_lit_step k39 _ 39 ?hg (N:=66) ?hd (xs:=([(⟨0,1,(⟨v.f0,v.f1⟩ : S37)⟩ : S39)] : List (S39))) (inner:=[.int .i64 0,.int .i64 1,.int .i64 v.f0,.string v.f1]) (ok:=fun _=>True) (okp:=fun _=>True) ?hr ?hp (fun _ hk=>hk) trivial (Below.refl _ _) (Nat.le_refl _) (by simp) ?_
    (case hd=>rfl)
    (case hg=>rfl)
    (case hr=>first|(go_simp;done)|(go_simp;rfl))
    (case hp=>exact (Reps.c4 (k39_mkM _ _ _ (⟨0,1,(⟨v.f0,v.f1⟩ : S37)⟩ : S39)) (Reps.none _ _)))
    intro u66 wa ho hb hg_ hnew_
    clear hg_ hnew_
    have n0_:=Aside0.mk (Kd.R_elder' HU.out (Kd.R_base ho) hb)
    have n1_:=Aside0.mk (Kd.R_lower (Kd.R_new' ho (Kd.R_lt HU.out)) (below_size HB7.out))
    have n2_:=Aside0.mk (below_step HB7.out hb)
    clear HU HB7
    have HU:=n0_
    have HL:=n1_
    have HB7:=n2_
    clear n0_ n1_ n2_
    clear hb ho
    refine hK.out _ _ ⟨(HB7.out.cell LS.out).trans hs0.out,(HB7.out.cell LS.out).trans hs1.out,(HB7.out.cell LS.out).trans hs2.out,(HB7.out.cell LS.out).trans hs3.out,(HB7.out.cell LV.out).trans hv0.out,(HB7.out.cell LV.out).trans hv1.out⟩ (fun hHeld=>?_)
    clear hK K
    refine norm_ (a':=?_) ?_ ?_
    rotate_left
    ·show Act.put _ (some 66) _=_
     simp only [Act.put,List.setIfInBounds_toArray,List.set_cons_zero,List.set_cons_succ,i64_w,i32_w]
     rfl
    exact norm_ (by simp only [putAll,Act.put,List.setIfInBounds_toArray,List.set_cons_zero,List.set_cons_succ]) (hCont (u63,u66) _ ⟨⟨Kd.R_mono HU.out (fun _ _=>trivial)⟩,⟨Kd.R_mono HL.out (fun _ _=>trivial)⟩,HB7⟩)
   ·skip
    refine Kd.R_lit_step k39 _ 39 ?hg (N:=66) ?hd (xs:=([(⟨0,1,(⟨v.f0,v.f1⟩ : S37)⟩ : S39)] : List (S39))) (inner:=[.int .i64 0,.int .i64 1,.int .i64 v.f0,.string v.f1]) (ok:=fun _=>True) (okp:=fun _=>True) ?hr ?hp (fun _ hk=>hk) trivial (Below.refl _ _) (Nat.le_refl _) (by simp) ?_
    (case hd=>rfl)
    (case hg=>rfl)
    (case hr=>first|(go_simp;done)|(go_simp;rfl))
    (case hp=>exact (Reps.c4 (k39_mkM _ _ _ (⟨0,1,(⟨v.f0,v.f1⟩ : S37)⟩ : S39)) (Reps.none _ _)))
    intro u66 wa ho hb hg_ hnew_
    clear hg_ hnew_
    have n0_:=Aside0.mk (Kd.R_lower ho (below_size HB7.out))
    have n1_:=Aside0.mk (below_step HB7.out hb)
    clear HB7
    have HL:=n0_
    have HB7:=n1_
    clear n0_ n1_
    clear hb ho
    refine hK.out _ _ ⟨(HB7.out.cell LS.out).trans hs0.out,(HB7.out.cell LS.out).trans hs1.out,(HB7.out.cell LS.out).trans hs2.out,(HB7.out.cell LS.out).trans hs3.out,(HB7.out.cell LV.out).trans hv0.out,(HB7.out.cell LV.out).trans hv1.out⟩ (fun hHeld=>?_)
    clear hK K
    refine norm_ (a':=?_) ?_ ?_
    rotate_left
    ·show Act.put _ (some 66) _=_
     simp only [Act.put,List.setIfInBounds_toArray,List.set_cons_zero,List.set_cons_succ,i64_w,i32_w]
     rfl
    refine one_ (i:=4) (N:=some 63) #[true,true,true,true,true,true,true,true,false,false,false] rfl rfl (by kernel_rfl) (by decide) (fun K hK=>?_)
    refine goesVC_ Try.func19 (by kernel_rfl) rfl #[.agg #[.int .i64 0,.int .i64 2,.int .i64 v.f0,.string v.f1]] (by rfl) rfl rfl rfl (by simp only [List.map_toArray,List.map_cons,List.map_nil];rfl) ?_
    refine (with_any ⟨0,2,v⟩ gf AF fit.length cF fit _ (blk_below BKgf.out HB7.out) (Kd.C_below CF7.out HB7.out) H.out.h_flen).mono ?_
    rintro e wc ⟨u63,rfl,hU,hb⟩
    refine ⟨_,rfl,?_⟩
    have n0_:=Aside0.mk (Kd.R_elder' HL.out (Kd.R_base hU) hb)
    have n1_:=Aside0.mk (Kd.R_lower (Kd.R_new' hU (Kd.R_lt HL.out)) (below_size HB7.out))
    have n2_:=Aside0.mk (below_step HB7.out hb)
    clear HL HB7
    have HL:=n0_
    have HU:=n1_
    have HB7:=n2_
    clear n0_ n1_ n2_
    clear hU hb
    refine hK.out _ _ ⟨(HB7.out.cell LS.out).trans hs0.out,(HB7.out.cell LS.out).trans hs1.out,(HB7.out.cell LS.out).trans hs2.out,(HB7.out.cell LS.out).trans hs3.out,(HB7.out.cell LV.out).trans hv0.out,(HB7.out.cell LV.out).trans hv1.out⟩ (fun hHeld=>?_)
    clear hK K
    refine norm_ (a':=?_) ?_ ?_
    rotate_left
    ·show Act.put _ (some 63) _=_
     simp only [Act.put,List.setIfInBounds_toArray,List.set_cons_zero,List.set_cons_succ,i64_w,i32_w]
     rfl
    exact norm_ (by simp only [putAll,Act.put,List.setIfInBounds_toArray,List.set_cons_zero,List.set_cons_succ]) (hCont (u63,u66) _ ⟨⟨Kd.R_mono HU.out (fun _ _=>trivial)⟩,⟨Kd.R_mono HL.out (fun _ _=>trivial)⟩,HB7⟩)
  clear HB7 hHeld
  rintro ⟨u63,u66⟩ w9 ⟨HU,HL,HB7⟩
  have hHeld : (fun w' : World=>w'.cell? ⟨gs,0,none⟩=some (.slice (some adT) T.length cT)∧w'.cell? ⟨gs,1,none⟩=some (.int .i64 ta)∧w'.cell? ⟨gs,2,none⟩=some (.int .i64 tb)∧w'.cell? ⟨gs,3,none⟩=some (.int .i64 td)∧w'.cell? ⟨gv,0,none⟩=some (.int .i64 v.f0)∧w'.cell? ⟨gv,1,none⟩=some (.string v.f1)) w9:=⟨(HB7.out.cell LS.out).trans hs0.out,(HB7.out.cell LS.out).trans hs1.out,(HB7.out.cell LS.out).trans hs2.out,(HB7.out.cell LS.out).trans hs3.out,(HB7.out.cell LV.out).trans hv0.out,(HB7.out.cell LV.out).trans hv1.out⟩
  refine norm_ (a':=?_) ?_ ?_
  rotate_left
  ·simp only [putAll,Act.put,List.setIfInBounds_toArray,List.set_cons_zero,List.set_cons_succ]
   rfl
  refine one_ (i:=8) (N:=some 67) #[true,true,true,true,true,true,true,true,true,false,false] rfl rfl (by kernel_rfl) (by decide) (fun K hK=>?_)
  obtain ⟨A8,c8,e8⟩:=Kd.R_slice HL.out
  subst e8
  refine Kd.R_append_rows_step k39 (w0:=w7) w7.heap.size (by rfl) (.tmp 63) (.tmp 66) 25 39 (.agg #[(.int .i64 0),(.int .i64 0),(.int .i64 0),(.string ⟨#[]⟩)]) 40 rfl Try.underlying25 info39 rfl (by decide) (by omega) u63 (fit ++ [(⟨0,2,(⟨v.f0,v.f1⟩ : S37)⟩ : S39)]) [(⟨0,1,(⟨v.f0,v.f1⟩ : S37)⟩ : S39)] _ _ _ (fun _=>True) (fun _=>False) rfl rfl ?aO ?aR (fun _ _ h=>h) (fun _ h=>h.elim) ?aF HB7.out (below_size HB7.out) ?aL ?_
  (case aR=>exact (Kd.R_reads' HL.out).2.2)
  (case aO=>exact HU.out)
  (case aF=>exact (fun _ _=>trivial))
  (case aL=>have:=H.out.h_flen;simp only [List.length_append,List.length_cons,List.length_nil];omega)
  intro u67 wa ho hb hg hat
  have n0_:=Aside0.mk (ho)
  have n1_:=Aside0.mk (hb)
  clear HU HB7
  have HU:=n0_
  have HB7:=n1_
  clear n0_ n1_
  clear ho hb hg hat HL
  refine hK.out _ _ ⟨(HB7.out.cell LS.out).trans hs0.out,(HB7.out.cell LS.out).trans hs1.out,(HB7.out.cell LS.out).trans hs2.out,(HB7.out.cell LS.out).trans hs3.out,(HB7.out.cell LV.out).trans hv0.out,(HB7.out.cell LV.out).trans hv1.out⟩ (fun hHeld=>?_)
  clear hK K
  refine norm_ (a':=?_) ?_ ?_
  rotate_left
  ·show Act.put _ (some 67) _=_
   simp only [Act.put,List.setIfInBounds_toArray,List.set_cons_zero,List.set_cons_succ,i64_w,i32_w]
   rfl
  refine one_ (i:=9) (N:=some 68) #[true,true,true,true,true,true,true,true,true,true,false] rfl rfl (by kernel_rfl) (by decide) (fun K hK=>?_)
  obtain ⟨AU,cU,eU⟩:=Kd.R_slice HU.out
  subst eU
  refine goes_ Try.func20 (by kernel_rfl) rfl #[.agg #[.slice (some adT) T.length cT,.int .i64 ta,.int .i64 tb,.int .i64 td],.slice AU (fit ++ [(⟨0,2,(⟨v.f0,v.f1⟩ : S37)⟩ : S39)] ++ [(⟨0,1,(⟨v.f0,v.f1⟩ : S37)⟩ : S39)]).length cU] (by rfl) rfl rfl (by simp only [List.map_toArray,List.map_cons,List.map_nil];rfl) ?_
  with_reducible refine (filter_May.calls k (some adT) cT T ta tb td AU cU (fit ++ [(⟨0,2,(⟨v.f0,v.f1⟩ : S37)⟩ : S39)] ++ [(⟨0,1,(⟨v.f0,v.f1⟩ : S37)⟩ : S39)]) two _ (Kd.C_below CT7.out HB7.out) HCT.out (Kd.R_reads' HU.out).2.2 (Kd.R_reads' HU.out).2.1 HTWO.out).mono ?_
  rintro e wc ⟨rfl,hb⟩
  refine ⟨_,rfl,?_⟩
  have n0_:=Aside0.mk (below_step HB7.out hb)
  clear HB7
  have HB7:=n0_
  clear n0_
  clear hb HU
  refine hK.out _ _ ⟨(HB7.out.cell LS.out).trans hs0.out,(HB7.out.cell LS.out).trans hs1.out,(HB7.out.cell LS.out).trans hs2.out,(HB7.out.cell LS.out).trans hs3.out,(HB7.out.cell LV.out).trans hv0.out,(HB7.out.cell LV.out).trans hv1.out⟩ (fun hHeld=>?_)
  clear hK K
  refine norm_ (a':=?_) ?_ ?_
  rotate_left
  ·show Act.put _ (some 68) _=_
   simp only [Act.put,List.setIfInBounds_toArray,List.set_cons_zero,List.set_cons_succ,i64_w,i32_w]
   rfl
  refine pure_ (i:=10) (N:=some 15) (v:=?_) (a':=?_) #[true,true,true,true,true,true,true,true,true,true,true] rfl rfl (by kernel_rfl) (fun _ _ _ h=>h) (Or.inl ⟨by rfl,?_⟩) ?_ ?_
  rotate_left;(intro w';go_simp;with_reducible rfl);rotate_left;(simp only [Act.put,List.setIfInBounds_toArray,List.set_cons_zero,List.set_cons_succ,i64_w,i32_w];rfl)
  refine done_ (by kernel_rfl) ?_
  (try clear hHeld)
  go_wp2
  have n0_:=Aside0.mk (HB7.out.drew)
  clear HB7
  have HB7:=n0_
  clear n0_
  refine start_ (n:=7) (S:=fun w'=>w'.cell? ⟨gs,0,none⟩=some (.slice (some adT) T.length cT)∧w'.cell? ⟨gs,1,none⟩=some (.int .i64 ta)∧w'.cell? ⟨gs,2,none⟩=some (.int .i64 tb)∧w'.cell? ⟨gs,3,none⟩=some (.int .i64 td)) (ds:=[]) #[false,false,false,false,false,false,false] (by kernel_rfl) rfl rfl ⟨(HB7.out.cell LS.out).trans hs0.out,(HB7.out.cell LS.out).trans hs1.out,(HB7.out.cell LS.out).trans hs2.out,(HB7.out.cell LS.out).trans hs3.out⟩ (fun hHeld=>?_)
  refine pure_ (i:=1) (N:=some 70) (v:=?_) (a':=?_) #[false,true,false,false,false,false,false] rfl rfl (by kernel_rfl) (fun _ _ _ h=>h) (Or.inl ⟨by rfl,?_⟩) ?_ ?_
  rotate_left;(intro w';go_simp;with_reducible rfl);rotate_left;(simp only [Act.put,List.setIfInBounds_toArray,List.set_cons_zero,List.set_cons_succ,i64_w,i32_w];rfl)
  refine pure_ (i:=2) (N:=some 71) (v:=?_) (a':=?_) #[false,true,true,false,false,false,false] rfl rfl (by kernel_rfl) (fun _ _ _ h=>h) (Or.inl ⟨by rfl,?_⟩) ?_ ?_
  rotate_left;(intro w';go_simp;with_reducible rfl);rotate_left;(simp only [Act.put,List.setIfInBounds_toArray,List.set_cons_zero,List.set_cons_succ,i64_w,i32_w];rfl)
  refine pure_ (i:=3) (N:=some 72) (v:=?_) (a':=?_) #[false,true,true,true,false,false,false] rfl rfl (by kernel_rfl) (fun _ _ _ h=>h) (Or.inl ⟨by rfl,?_⟩) ?_ ?_
  rotate_left;(intro w';go_simp;with_reducible rfl);rotate_left;(simp only [Act.put,List.setIfInBounds_toArray,List.set_cons_zero,List.set_cons_succ,i64_w,i32_w];rfl)
  refine take_ (i:=0) (N:=some 69) (v:=?_) (a':=?_) #[true,true,true,true,false,false,false] rfl rfl (by kernel_rfl) (fun _ _ _ h=>h) (Or.inl ⟨by rfl,?_⟩) hHeld ?_ ?_
  rotate_left;(rintro w' ⟨s0,s1,s2,s3⟩;go_simp;with_reducible rfl);rotate_left;(simp only [Act.put,List.setIfInBounds_toArray,List.set_cons_zero,List.set_cons_succ,i64_w,i32_w];rfl)
  refine one_ (i:=4) (N:=some 73) #[true,true,true,true,true,false,false] rfl rfl (by kernel_rfl) (by decide) (fun K hK=>?_)
  refine goesVC_ Try.func19 (by kernel_rfl) rfl #[.agg #[.int .i64 0,.int .i64 1,.int .i64 1,.string ⟨#[120]⟩]] (by rfl) rfl rfl rfl (by simp only [List.map_toArray,List.map_cons,List.map_nil];rfl) ?_
  refine (with_any ⟨0,1,⟨1,⟨#[120]⟩⟩⟩ gf AF fit.length cF fit _ (blk_below BKgf.out HB7.out) (Kd.C_below CF7.out HB7.out) H.out.h_flen).mono ?_
  rintro e wc ⟨u73,rfl,hU,hb⟩
  refine ⟨_,rfl,?_⟩
  have n0_:=Aside0.mk (Kd.R_lower hU (below_size HB7.out))
  have n1_:=Aside0.mk (below_step HB7.out hb)
  clear HB7
  have HU:=n0_
  have HB7:=n1_
  clear n0_ n1_
  clear hU hb
  refine hK.out _ _ ⟨(HB7.out.cell LS.out).trans hs0.out,(HB7.out.cell LS.out).trans hs1.out,(HB7.out.cell LS.out).trans hs2.out,(HB7.out.cell LS.out).trans hs3.out⟩ (fun hHeld=>?_)
  clear hK K
  refine norm_ (a':=?_) ?_ ?_
  rotate_left
  ·show Act.put _ (some 73) _=_
   simp only [Act.put,List.setIfInBounds_toArray,List.set_cons_zero,List.set_cons_succ,i64_w,i32_w]
   rfl
  refine one_ (i:=5) (N:=some 74) #[true,true,true,true,true,true,false] rfl rfl (by kernel_rfl) (by decide) (fun K hK=>?_)
  obtain ⟨AU,cU,eU⟩:=Kd.R_slice HU.out
  subst eU
  refine goes_ Try.func20 (by kernel_rfl) rfl #[.agg #[.slice (some adT) T.length cT,.int .i64 ta,.int .i64 tb,.int .i64 td],.slice AU (fit ++ [(⟨0,1,(⟨1,⟨#[120]⟩⟩ : S37)⟩ : S39)]).length cU] (by rfl) rfl rfl (by simp only [List.map_toArray,List.map_cons,List.map_nil];rfl) ?_
  with_reducible refine (filter_May.calls k (some adT) cT T ta tb td AU cU (fit ++ [(⟨0,1,(⟨1,⟨#[120]⟩⟩ : S37)⟩ : S39)]) false _ (Kd.C_below CT7.out HB7.out) HCT.out (Kd.R_reads' HU.out).2.2 (Kd.R_reads' HU.out).2.1 HWR.out).mono ?_
  rintro e wc ⟨rfl,hb⟩
  refine ⟨_,rfl,?_⟩
  have n0_:=Aside0.mk (below_step HB7.out hb)
  clear HB7
  have HB7:=n0_
  clear n0_
  clear hb HU
  refine hK.out _ _ ⟨(HB7.out.cell LS.out).trans hs0.out,(HB7.out.cell LS.out).trans hs1.out,(HB7.out.cell LS.out).trans hs2.out,(HB7.out.cell LS.out).trans hs3.out⟩ (fun hHeld=>?_)
  clear hK K
  refine norm_ (a':=?_) ?_ ?_
  rotate_left
  ·show Act.put _ (some 74) _=_
   simp only [Act.put,List.setIfInBounds_toArray,List.set_cons_zero,List.set_cons_succ,i64_w,i32_w]
   rfl
  refine pure_ (i:=6) (N:=some 16) (v:=?_) (a':=?_) #[true,true,true,true,true,true,true] rfl rfl (by kernel_rfl) (fun _ _ _ h=>h) (Or.inl ⟨by rfl,?_⟩) ?_ ?_
  rotate_left;(intro w';go_simp;with_reducible rfl);rotate_left;(simp only [Act.put,List.setIfInBounds_toArray,List.set_cons_zero,List.set_cons_succ,i64_w,i32_w];rfl)
  refine done_ (by kernel_rfl) ?_
  (try clear hHeld)
  have hc0:=(HB7.out.cell LS.out).trans hs0.out
  have hc1:=(HB7.out.cell LS.out).trans hs1.out
  have hc2:=(HB7.out.cell LS.out).trans hs2.out
  have hc3:=(HB7.out.cell LS.out).trans hs3.out
  have hcf:=(HB7.out.cell LF.out).trans hf0.out
  cases col
  ·have e0:=H.out.c2 rfl
   have en : (n == 0)=false:=by rw [beq_eq_false_iff_ne];exact e0
   have en2 : (n != 0)=true:=by rw [bne_iff_ne];exact e0
   clear e0
   obtain rfl : two=decide ((fit.length : Int) < 15):=H.out.e2
   by_cases h15 : (fit.length : Int) < 15
   ·have d15 : decide ((fit.length : Int) < 15)=true:=decide_eq_true h15
    clear h15
    go_wp2_with (go_at_call 20;fail)
    refine (filter_May.calls k (some adT) cT T ta tb td none 0 [] true _ (Kd.C_below CT7.out HB7.out) HCT.out (Kd.C_nil _ _) (by simp) H.out.h_none).mono ?_
    rintro e wz ⟨rfl,hb⟩
    go_wp2
    go_ret
    exact ⟨rfl,HB.out.trans ((HB7.out.trans (hb.mono HB7.out.size)).mono HB.out.size)⟩
   ·have d15 : decide ((fit.length : Int) < 15)=false:=decide_eq_false h15
    clear h15
    go_wp2_with (go_at_call 20;fail)
    refine (filter_May.calls k (some adT) cT T ta tb td none 0 [] true _ (Kd.C_below CT7.out HB7.out) HCT.out (Kd.C_nil _ _) (by simp) H.out.h_none).mono ?_
    rintro e wz ⟨rfl,hb⟩
    go_wp2
    go_ret
    exact ⟨rfl,HB.out.trans ((HB7.out.trans (hb.mono HB7.out.size)).mono HB.out.size)⟩
  ·obtain ⟨e0,e1⟩:=H.out.c1 rfl
   have en0 : decide (n ≥ 0)=true:=decide_eq_true e0
   have en1 : decide (n < (T.length : Int))=true:=decide_eq_true e1
   clear e0 e1
   obtain rfl : two=decide ((fit.length : Int) < 15):=H.out.e2
   by_cases h15 : (fit.length : Int) < 15
   ·have d15 : decide ((fit.length : Int) < 15)=true:=decide_eq_true h15
    clear h15
    go_wp2_with (go_at_call 20;fail)
    refine (filter_May.calls k (some adT) cT T ta tb td none 0 [] true _ (Kd.C_below CT7.out HB7.out) HCT.out (Kd.C_nil _ _) (by simp) H.out.h_none).mono ?_
    rintro e wz ⟨rfl,hb⟩
    go_wp2
    go_ret
    exact ⟨rfl,HB.out.trans ((HB7.out.trans (hb.mono HB7.out.size)).mono HB.out.size)⟩
   ·have d15 : decide ((fit.length : Int) < 15)=false:=decide_eq_false h15
    clear h15
    go_wp2_with (go_at_call 20;fail)
    refine (filter_May.calls k (some adT) cT T ta tb td none 0 [] true _ (Kd.C_below CT7.out HB7.out) HCT.out (Kd.C_nil _ _) (by simp) H.out.h_none).mono ?_
    rintro e wz ⟨rfl,hb⟩
    go_wp2
    go_ret
    exact ⟨rfl,HB.out.trans ((HB7.out.trans (hb.mono HB7.out.size)).mono HB.out.size)⟩
end Go.Proofs.Ytbkpifcjgedjaaa.P

