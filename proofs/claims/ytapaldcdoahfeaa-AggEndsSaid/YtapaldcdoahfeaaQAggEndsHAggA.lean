/- Texts of AggEnds. Merged: HAggA. -/
import Derived.Test.YtapaldcdoahfeaaQAggEndsPx4
import Derived.Test.YtapaldcdoahfeaaQAggEndsPx3
import Derived.Test.YtapaldcdoahfeaaQAggEndsHBase
/- agg.ways, by hand: an array of structs with function values. -/
namespace Go.Proofs.Ytapaldcdoahfeaa.P
open Go.RowKit Go.Proofs.YtapaldcdoahfeaaW.PrintWords Go.Proofs.YtapaldcdoahfeaaW.PrintLast Go.Proofs.YtapaldcdoahfeaaW.PrintMore
set_option linter.unusedVariables false
set_option linter.unusedSimpArgs false
theorem all_one {l : List Value} (h : l.all (·.oneCell')=true) : ∀ q ∈ l,q.oneCell'=true:=fun q hq=>List.all_eq_true.mp h q hq
theorem store_box {P : Program} {ops : Array Oper} {rest : List Oper} {o : Oper} {a : Act} {Q : Exit→Act→World→Prop} {W : World} {t : TypeId} {p x : Operand} {g : Nat} {vs cs : Array Value}
  (hN : o.dst=none) (hgd : o.guard=none) (ho : o.op=.store t p x) (haddr : a.eval p=.pointer (some ⟨g,0,none⟩)) (hx : a.eval x=.agg vs) (hh : W.heap[g]?=some (.cells cs t (0,0))) (ht : (P.info? t).map (·.size)=some vs.toList.length) (hsz : vs.toList.length=cs.size) (h1 : ∀ q ∈ vs.toList,q.oneCell'=true)
  (h : ∀ w1 : World,w1.heap[g]?=some (.cells vs t (0,0))→(∀ k,k≠g→w1.heap[k]?=W.heap[k]?)→w1.heap.size=W.heap.size→(∀ (base : Nat) (w0 : World),base≤g→Below base w0 W→Below base w0 w1)→wpList P ops Q rest a w1) : wpList P ops Q (o :: rest) a W:=by
 have hrun : (Instr.storeAt t (.pointer (some ⟨g,0,none⟩)) (.agg vs)).run P W=.ok () (W.setCells g 0 vs.toList):=run_store_run t (.agg vs) vs.toList hh rfl ht (by rw [hsz];omega) h1
 obtain ⟨cur',h3,h4,h5⟩:=setCells_row vs.toList 0 W cs hh (by omega)
 have e : cur'=vs:=by
  apply Array.toList_inj.mp
  rw [h5,List.take_zero,List.nil_append,List.drop_of_length_le (by rw [Array.length_toList];omega),List.append_nil]
 rw [e] at h3
 obtain ⟨s1,s2,s3,s4⟩:=setCells_same g vs.toList 0 W
 have hfar:=fun k (hk : k≠g)=>setCells_far (g:=g) vs.toList 0 (w:=W) k hk
 refine wpList_plain hgd fun K hK=>?_
 unfold Oper.wp execOp
 simp only [ho,haddr,hx,Sem.run_bind,Sem.run_pure,Result.andThen_ok,hrun]
 show K (a.put o.dst undef) _
 rw [hN]
 exact hK a _ (h _ h3 hfar s4 (fun base w0 hb hB=>hB.trans ⟨s1,s2,s3,by omega,fun k hk=>hfar k (by omega)⟩))
def wayA : Nat→Array Value
 | 1=>#[.bool true,.int .i64 0,.string (⟨#[]⟩ : ByteArray),.func (.func 25) #[] #[],.func (.func 26) #[] #[]]
 | 2=>#[.bool true,.int .i64 0,.string (⟨#[]⟩ : ByteArray),.func (.func 27) #[] #[],.func (.func 26) #[] #[]]
 | 3=>#[.bool false,.int .i64 0,.string (⟨#[]⟩ : ByteArray),.func (.func 27) #[] #[],.func (.func 28) #[] #[]]
 | 4=>#[.bool false,.int .i64 0,.string (⟨#[]⟩ : ByteArray),.func (.func 27) #[] #[],.func (.func 29) #[] #[]]
 | _=>#[.bool false,.int .i64 0,.string (⟨#[]⟩ : ByteArray),.nilFunc,.nilFunc]
def waysA : Array Value:=#[.bool false,.int .i64 0,.string (⟨#[]⟩ : ByteArray),.nilFunc,.nilFunc,
 .bool true,.int .i64 0,.string (⟨#[]⟩ : ByteArray),.func (.func 25) #[] #[],.func (.func 26) #[] #[],
 .bool true,.int .i64 0,.string (⟨#[]⟩ : ByteArray),.func (.func 27) #[] #[],.func (.func 26) #[] #[],
 .bool false,.int .i64 0,.string (⟨#[]⟩ : ByteArray),.func (.func 27) #[] #[],.func (.func 28) #[] #[],
 .bool false,.int .i64 0,.string (⟨#[]⟩ : ByteArray),.func (.func 27) #[] #[],.func (.func 29) #[] #[]]
set_option maxHeartbeats 8000000 in
set_option maxRecDepth 100000 in
theorem ways_any (w : World) : Calls Try.prog 21 #[] w fun e w'=>e=.returned (.agg waysA)∧Below w.heap.size w w':=by
 have HB:=Aside0.mk (Below.refl w.heap.size w)
 have hu42:=Try.underlying42
 have hu59:=Try.underlying59
 have hu60:=Try.underlying60
 go_enter Try.func21,Try.ntmps21
 go_wp2_with (first|((with_reducible refine gate_dst (N:=0) rfl ?_);refine box_event ?hg (N:=0) ?hd (cs:=#[.bool false,.int .i64 0,.string (⟨#[]⟩ : ByteArray),.nilFunc,.nilFunc,.bool false,.int .i64 0,.string (⟨#[]⟩ : ByteArray),.nilFunc,.nilFunc,.bool false,.int .i64 0,.string (⟨#[]⟩ : ByteArray),.nilFunc,.nilFunc,.bool false,.int .i64 0,.string (⟨#[]⟩ : ByteArray),.nilFunc,.nilFunc,.bool false,.int .i64 0,.string (⟨#[]⟩ : ByteArray),.nilFunc,.nilFunc]) (t:=60) ?hr ?_;(case hd=>rfl);(case hg=>rfl);(case hr=>first|(go_simp;done)|(go_simp;rfl));intro g0 hg w4 hbox hb;have nb_:=Aside0.mk (below_step HB.out hb);have nh_:=Aside0.mk hbox;have ng_:=Aside0.mk ((by rw [hg];exact below_size HB.out) : w.heap.size≤g0);clear HB;have HB:=nb_;have BKg0:=nh_;have GEg0:=ng_;clear nb_ nh_ ng_;clear hb hbox hg)|((with_reducible refine gate_dst (N:=1) rfl ?_);refine box_event ?hg (N:=1) ?hd (cs:=#[.bool false,.int .i64 0,.string (⟨#[]⟩ : ByteArray)]) (t:=42) ?hr ?_;(case hd=>rfl);(case hg=>rfl);(case hr=>first|(go_simp;done)|(go_simp;rfl));intro g1 hg w5 hbox hb;have hne:=Aside0.mk (show g0≠g1 by rw [hg];exact Nat.ne_of_lt (blk_lt BKg0.out));have n0_:=Aside0.mk (blk_below BKg0.out hb);have nb_:=Aside0.mk (below_step HB.out hb);have nh_:=Aside0.mk hbox;have ng_:=Aside0.mk ((by rw [hg];exact below_size HB.out) : w.heap.size≤g1);clear HB;have HB:=nb_;have BKg1:=nh_;have GEg1:=ng_;clear nb_ nh_ ng_;clear BKg0;have BKg0:=n0_;clear n0_;clear hb hbox hg)|((with_reducible refine gate_ (.store 42 (.tmp 1) (.tmp 2)) rfl ?_);refine store_box (g:=g1) (vs:=#[.bool true,.int .i64 0,.string (⟨#[]⟩ : ByteArray)]) rfl rfl rfl ?ha ?hx BKg1.out ?ht ?hsz ?h1 ?_;(case ha=>rfl);(case hx=>rfl);(case ht=>kernel_rfl);(case hsz=>rfl);(case h1=>(apply all_one;rfl));intro w6 hs_ hf_ hz_ hb_;have nb_:=Aside0.mk (hb_ _ _ GEg1.out HB.out);have n0_:=Aside0.mk ((hf_ _ hne.out).trans BKg0.out);clear BKg1 HB;have BKg1:=Aside0.mk hs_;have HB:=nb_;clear nb_;clear BKg0;have BKg0:=n0_;clear n0_;clear hs_ hf_ hz_ hb_;have c10 : w6.cell? ⟨g1,0,none⟩=some (.bool true):=(blk_cell BKg1.out 0).trans rfl;have c11 : w6.cell? ⟨g1,1,none⟩=some (.int .i64 0):=(blk_cell BKg1.out 1).trans rfl;have c12 : w6.cell? ⟨g1,2,none⟩=some (.string (⟨#[]⟩ : ByteArray)):=(blk_cell BKg1.out 2).trans rfl)|((with_reducible refine gate_ (.store 60 (.tmp 0) (.tmp 11)) rfl ?_);refine store_box (g:=g0) (vs:=waysA) rfl rfl rfl ?ha ?hx BKg0.out ?ht ?hsz ?h1 ?_;(case ha=>rfl);(case hx=>rfl);(case ht=>kernel_rfl);(case hsz=>rfl);(case h1=>(apply all_one;rfl));intro w7 hs_ hf_ hz_ hb_;have nb_:=Aside0.mk (hb_ _ _ GEg0.out HB.out);clear BKg0 HB;have BKg0:=Aside0.mk hs_;have HB:=nb_;clear nb_;clear hs_ hf_ hz_ hb_))
 refine bodyPost_ret (results_cell_row rfl _ _ g0 60 waysA (0,0) _ rfl BKg0.out Try.underlying60 rfl (by kernel_rfl)) rfl ?_
 exact ⟨rfl,HB.out⟩
end Go.Proofs.Ytapaldcdoahfeaa.P

