/- Texts of MergeFirst. Merged: HFoldB, XVal, XFold, XVCmp, XMerge, HMergeA, XMergeS, HMergeB, HMergeC, HMergeD, HMergeE, HMergeF, HMergeR. -/
import Derived.Test.YtfiandejapgkoaaQMergeFirstPx12
import Derived.Test.YtfiandejapgkoaaMMergeFirst0
import Derived.Test.YtfiandejapgkoaaQMergeFirstWMore
import Derived.Test.YtfiandejapgkoaaQMergeFirstPx11
import Derived.Test.YtfiandejapgkoaaQMergeFirstHKit
import Derived.Test.YtfiandejapgkoaaQMergeFirstPx2
import Derived.Shelf.RegionOpenPlain
import Derived.Handy
import Derived.Maps.AppendAt
/- fold.One, by hand: two rows of one key as one. -/
namespace Go.Proofs.YtfiandejapgkoaaW.PrintLast
open Go.RowKit Go.Proofs.YtfiandejapgkoaaW.PrintWords
theorem goesV_ {P : Program} {ops : Array Oper} {Q : Exit→Act→World→Prop} {oi : Oper} {N : Option Tmp} {a : Act} {w : World} {K : Act→World→Prop} {f : FuncId} {fn : Func} {x : Operand} {xs : Array Operand} {ts : Array TypeId} (hf : P.funcs[f]?=some fn) (hname : (fn.name == "runtime.NumGoroutine")=false) (hb : fn.body.isSome=true) (args : Array Value)
  (hw : Region.wanted oi (yielded ops a.tmps)=true) (hN : oi.dst=N) (hop : oi.op=.call { callee:=.value x,args:=xs,argTypes:=ts }) (hx : a.eval x=.func (.func f) #[] #[]) (hargs : xs.map a.eval=args)
  (h : Calls P f args w fun e w'=>∃ v,e=.returned v∧K (a.put N v) w') : if Region.wanted oi (yielded ops a.tmps)=true then Oper.wp P oi a w K Q else K (a.put N undef) w:=by
 refine call_ f args hw hN ?_ h
 have he:=enters_ hf hname hb args w
 unfold execOp
 simp [hop,resolve,Deferred.ofValue,invoke,hargs,he,hx]
theorem add0 (g n : Nat) : (⟨g,0,none⟩ : Addr).add n=⟨g,n,none⟩:=by
 unfold Addr.add
 split
 ·rename_i h;rw [h]
 ·simp
theorem R_shape {α : Type} {d : Kd α} {e base B : Nat} {W : World} {ok : Nat→Prop} {v : Value} {xs : List α} (h : d.R e W base ok v xs) (hb : ∃ b,v.ownBlock=some b∧B≤b) : ∃ g c,v=.slice (some ⟨g,0,none⟩) xs.length c∧B≤g:=by
 obtain ⟨b,h1,h2⟩:=hb
 obtain ⟨_,inner,ho,hr⟩:=h
 rcases ho.2 with ⟨hv,_⟩|⟨g,cap',cur,hv,_⟩
 ·rw [hv] at h1;simp [Value.ownBlock] at h1
 ·rw [hv] at h1
  simp only [Value.ownBlock,Option.some.injEq] at h1
  exact ⟨g,cap',hv,by omega⟩
theorem R_storeW_step {P : Program} {ops : Array Oper} {o : Oper} {a : Act} {Q : Exit→Act→World→Prop} {Kc : Act→World→Prop} {α : Type} (d : Kd α) {w0 W : World} (base : Nat) (hw : Region.wanted o (yielded ops a.tmps)=true) (hN : o.dst=none) (t : TypeId) (p x : Operand) (ho : o.op=.store t p x) (e : TypeId) {g n cap : Nat} (i : Nat) (xs : List α) (x' : α) (u : Value) (seg : List Value) (ok okp : Nat→Prop)
  (haddr : a.eval p=.pointer (some ⟨g,i * d.sz,none⟩)) (hx : a.eval x=u) (hu : u.cells.toList=seg) (ht : (P.info? t).map (·.size)=some seg.length) (h1 : ∀ q ∈ seg,q.oneCell'=true) (hsz : seg.length=d.sz)
  (HO : d.R e W base ok (.slice (some ⟨g,0,none⟩) n cap) xs) (hi : i < n) (hM : d.M W base okp x' seg) (hokp : ∀ k,okp k→ok k∧k≠g) (HB : Below base w0 W)
  (h : ∀ w1,d.R e w1 base ok (.slice (some ⟨g,0,none⟩) n cap) (xs.set i x')→Below base w0 w1→W.grownBy w1 (some g)→Kc a w1) : if Region.wanted o (yielded ops a.tmps)=true then Oper.wp P o a W Kc Q else Kc (a.put none undef) W:=by
 obtain ⟨c,hcl,_,hcc⟩:=Go.Proofs.YtfiandejapgkoaaW.PrintMore.Kd.R_get HO x' (i : Int) (by omega) (by omega)
 rw [Int.toNat_natCast] at hcc
 have hcc' : ∀ j u,c[j]?=some u→W.cell? ⟨g,(i : Int).toNat * d.sz + j,none⟩=some u:=fun j u hj=>by
  have:=hcc j u hj
  rw [add0] at this
  rw [Int.toNat_natCast]
  exact this
 obtain ⟨hrow,hg⟩:=Kd.R_seg HO (i : Int) (by omega) (by omega) (j:=0) (seg:=seg) hcl hcc' (by omega) (x':=x') (okp:=okp) (by
  rw [List.take_zero,List.nil_append,List.drop_of_length_le (by omega),List.append_nil]
  exact hM) hokp
 rw [Int.toNat_natCast,Nat.add_zero] at hrow hg
 have hbg : base≤g:=Kd.R_base HO g (by simp [Value.ownBlock])
 have hB : Below base w0 (W.setCells g (i * d.sz) seg):=HB.trans ⟨hg.os,hg.tape,hg.output,hg.size,fun k hk=>by
  rcases Nat.lt_or_ge k W.heap.size with hlt|hge
  ·exact hg.block k hlt (fun he=>by injection he with he;omega)
  ·exact setCells_far seg _ k (by omega)⟩
 have hrun : (Instr.storeAt t (.pointer (some ⟨g,i * d.sz,none⟩)) u).run P W=.ok () (W.setCells g (i * d.sz) seg):=by
  obtain ⟨_,inner,hown,hr⟩:=HO
  rcases hown.2 with ⟨hv,_⟩|⟨g',cap',cur,hv,hb,hh,hnc,hcm,hcs,_⟩
  ·cases hv
  injection hv with ha _ hc
  injection ha with ha
  injection ha with hg'
  subst hg';subst hc
  refine run_store_run t u seg hh hu ht ?_ h1
  have h2 : i * d.sz + d.sz≤n * d.sz:=by rw [← Nat.succ_mul];exact Nat.mul_le_mul_right _ hi
  have h3 : n * d.sz≤cap * d.sz:=Nat.mul_le_mul_right _ (by omega)
  omega
 refine skip_ hw hN ?_ (h _ hrow hB hg)
 unfold execOp
 simp only [ho,haddr,hx,Sem.run_bind,Sem.run_pure,Result.andThen_ok,hrun]
theorem all_oneK {l : List Value} (h : l.all (·.oneCell')=true) : ∀ q ∈ l,q.oneCell'=true:=fun q hq=>List.all_eq_true.mp h q hq
theorem lookD_ {P : Program} {ops : Array Oper} {Q : Exit→Act→World→Prop} {oi : Oper} {N : Option Tmp} {a : Act} {W : World} {K : Act→World→Prop} {t : TypeId} {m k : Operand} {B : Nat} {key v : Value}
  (hw : Region.wanted oi (yielded ops a.tmps)=true) (hN : oi.dst=N) (ho : oi.op=.lookup t m k false) (hm : a.eval m=.map (some B)) (hk : a.eval k=key)
  (hrun : (Instr.lookup t (.map (some B)) key false).run P W=.ok v W) (h : K (a.put N v) W) : if Region.wanted oi (yielded ops a.tmps)=true then Oper.wp P oi a W K Q else K (a.put N undef) W:=by
 refine value_ hw hN ?_ h
 unfold execOp
 simp only [ho,hm,hk,Sem.run_bind,Sem.run_pure,Result.andThen_ok,hrun]
 try rfl
theorem store_boxK {P : Program} {ops : Array Oper} {rest : List Oper} {o : Oper} {a : Act} {Q : Exit→Act→World→Prop} {W : World} {t : TypeId} {p x : Operand} {g : Nat} {vs cs : Array Value}
  (hN : o.dst=none) (hgd : o.guard=none) (ho : o.op=.store t p x) (haddr : a.eval p=.pointer (some ⟨g,0,none⟩)) (hx : a.eval x=.agg vs) (hh : W.heap[g]?=some (.cells cs t (0,0))) (ht : (P.info? t).map (·.size)=some vs.toList.length) (hsz : vs.toList.length=cs.size) (h1 : ∀ q ∈ vs.toList,q.oneCell'=true)
  (h : ∀ w1 : World,w1.heap[g]?=some (.cells vs t (0,0))→(∀ k,k≠g→w1.heap[k]?=W.heap[k]?)→w1.heap.size=W.heap.size→(∀ (base : Nat) (w0 : World),base≤g→Below base w0 W→Below base w0 w1)→wpList P ops Q rest a w1) : wpList P ops Q (o :: rest) a W:=by
 have hrun : (Instr.storeAt t (.pointer (some ⟨g,0,none⟩)) (.agg vs)).run P W=.ok () (W.setCells g 0 vs.toList):=run_store_run t (.agg vs) vs.toList hh rfl ht (by rw [hsz];omega) h1
 obtain ⟨cur',h3,h4,h5⟩:=setCells_row vs.toList 0 W cs hh (by omega)
 have e : cur'=vs:=by
  apply Array.toList_inj.mp
  rw [h5,List.take_zero,List.nil_append,List.drop_of_length_le (by rw [Array.length_toList];omega),List.append_nil]
 rw [e] at h3
 obtain ⟨s1,s2,s3,s4⟩:=setCells_same g vs.toList 0 W
 have hfar:=fun k (hk : k≠g)=>setCells_far (g:=g) vs.toList 0 (w:=W) k hk
 refine wpList_plain hgd fun K hK=>?_
 unfold Oper.wp execOp
 simp only [ho,haddr,hx,Sem.run_bind,Sem.run_pure,Result.andThen_ok,hrun]
 show K (a.put o.dst undef) _
 rw [hN]
 exact hK a _ (h _ h3 hfar s4 (fun base w0 hb hB=>hB.trans ⟨s1,s2,s3,by omega,fun k hk=>hfar k (by omega)⟩))
end Go.Proofs.YtfiandejapgkoaaW.PrintLast
namespace Go.Proofs.YtfiandejapgkoaaW.PrintMore
open Go.RowKit Go.Proofs.YtfiandejapgkoaaW.PrintWords
namespace Kd
open Go.Proofs.YtfiandejapgkoaaW.PrintWords.Kd
end Kd
end Go.Proofs.YtfiandejapgkoaaW.PrintMore
namespace Go.Proofs.Ytfiandejapgkoaa.P
open Go.RowKit Go.Proofs.YtfiandejapgkoaaW.PrintWords Go.Proofs.YtfiandejapgkoaaW.PrintLast Go.Proofs.YtfiandejapgkoaaW.PrintMore
set_option linter.unusedVariables false
set_option linter.unusedSimpArgs false
theorem JMap.drew {W : World} {B : Nat} {D : Nat→Bool} (h : JMap W B D) : JMap W.drew B D:=h.same rfl
theorem JMap.grown {W W' : World} {B : Nat} {D : Nat→Bool} {row : Option Nat} (h : JMap W B D) (hg : W.grownBy W' row) (hne : some B≠row) : JMap W' B D:=h.same (hg.block B h.lt hne)
set_option maxHeartbeats 2000000 in
theorem last_any (t a0 b0 : Int) (a1 b1 : ByteArray) (w : World) : Calls Try.prog 45 #[.int .i64 t,.agg #[.int .i64 a0,.string a1],.agg #[.int .i64 b0,.string b1]] w fun e w'=>e=.returned (.agg #[.int .i64 b0,.string b1])∧Below w.heap.size w w':=by
 have HB:=Aside0.mk (Below.refl w.heap.size w)
 have huV:=Try.underlying31
 go_enter Try.func45,Try.ntmps45
 go_wp2_with (first|((with_reducible refine gate_dst (N:=4) rfl ?_);refine box_event ?hg (N:=4) ?hd (cs:=#[.int .i64 a0,.string a1]) (t:=31) ?hr ?_;(case hd=>rfl);(case hg=>rfl);(case hr=>first|(go_simp;done)|(go_simp;rfl));intro ga hg w4 hbox hb;have GEga:=Aside0.mk ((by rw [hg];exact below_size HB.out) : w.heap.size≤ga);have n0_:=Aside0.mk (below_step HB.out hb);clear HB;have HB:=n0_;clear n0_;have BKga:=Aside0.mk hbox;clear hb hbox hg)|((with_reducible refine gate_dst (N:=5) rfl ?_);refine box_event ?hg (N:=5) ?hd (cs:=#[.int .i64 b0,.string b1]) (t:=31) ?hr ?_;(case hd=>rfl);(case hg=>rfl);(case hr=>first|(go_simp;done)|(go_simp;rfl));intro gb hg w5 hbox hb;have GEgb:=Aside0.mk ((by rw [hg];exact below_size HB.out) : w.heap.size≤gb);have n0_:=Aside0.mk (blk_below BKga.out hb);have n1_:=Aside0.mk (below_step HB.out hb);clear BKga HB;have BKga:=n0_;have HB:=n1_;clear n0_ n1_;have BKgb:=Aside0.mk hbox;clear hb hbox hg)|((with_reducible refine gate_dst (N:=6) rfl ?_);refine box_event ?hg (N:=6) ?hd (cs:=#[.int .i64 0,.string (⟨#[]⟩ : ByteArray)]) (t:=31) ?hr ?_;(case hd=>rfl);(case hg=>rfl);(case hr=>first|(go_simp;done)|(go_simp;rfl));intro gr hg w6 hbox hb;have GEgr:=Aside0.mk ((by rw [hg];exact below_size HB.out) : w.heap.size≤gr);have n0_:=Aside0.mk (blk_below BKga.out hb);have n1_:=Aside0.mk (blk_below BKgb.out hb);have n2_:=Aside0.mk (below_step HB.out hb);clear BKga BKgb HB;have BKga:=n0_;have BKgb:=n1_;have HB:=n2_;clear n0_ n1_ n2_;have BKgr:=Aside0.mk hbox;clear hb hbox hg;have cgb0 : w6.cell? ⟨gb,0,none⟩=some (.int .i64 b0):=(blk_cell BKgb.out 0).trans rfl;have cgb1 : w6.cell? ⟨gb,1,none⟩=some (.string b1):=(blk_cell BKgb.out 1).trans rfl)|((with_reducible refine gate_ (.store 31 (.tmp 6) (.tmp 7)) rfl ?_);refine store_boxK (g:=gr) (vs:=#[.int .i64 b0,.string b1]) rfl rfl rfl ?ha ?hx BKgr.out ?ht ?hsz ?h1 ?_;(case ha=>rfl);(case hx=>rfl);(case ht=>kernel_rfl);(case hsz=>rfl);(case h1=>(apply all_oneK;rfl));intro w8 hs_ hf_ hz_ hb_;have n0_:=Aside0.mk (hb_ _ _ GEgr.out HB.out);have n1_:=Aside0.mk (hs_);clear HB BKgr;have HB:=n0_;have BKgr:=n1_;clear n0_ n1_;clear hs_ hf_ hz_ hb_))
 refine bodyPost_ret (results_cell_row rfl _ _ gr 31 #[.int .i64 b0,.string b1] (0,0) _ rfl BKgr.out Try.underlying31 rfl (by kernel_rfl)) rfl ?_
 exact ⟨rfl,HB.out⟩
def foldJ (k : Nat) (K M t : Int) (i : Nat) (x y : S31) : Option S31 :=
 if M=3∧¬ (i : Int) < K then (value_Add.f k t x.f0 x.f1 y.f0 y.f1).bind fun p=>some ⟨p.1,p.2⟩ else some y
def foldGo (k : Nat) (K M : Int) : Nat→List Int→List S31→List S31→Option (List S31)
 | _,[],_,[]=>some []
 | i,t :: T,x :: la,y :: lb=>(foldJ k K M t i x y).bind fun z=>(foldGo k K M (i + 1) T la lb).bind fun zs=>some (z :: zs)
 | _,_,_,_=>none
def fold_One.f (k : Nat) (T : List Int) (K M G : Int) (la lb : List S31) : Option (List S31) :=
 if T.length≤1000000∧1≤M∧M≤3∧lb.length=T.length then foldGo k K M 0 T la lb else none
theorem foldJ_mono (K M t : Int) (i : Nat) (x y : S31) (k : Nat) : LeO (foldJ k K M t i x y) (foldJ (k + 1) K M t i x y):=by
 unfold foldJ
 split
 ·exact LeO.bind (value_Add.mono _ _ _ _ _ _) (fun _=>LeO.refl _)
 ·exact LeO.refl _
theorem foldGo_mono (K M : Int) (k : Nat) : ∀ (T : List Int) (i : Nat) (la lb : List S31),LeO (foldGo k K M i T la lb) (foldGo (k + 1) K M i T la lb)
 | [],i,la,[]=>LeO.refl _
 | [],i,la,_ :: _=>LeO.refl _
 | t :: T,i,[],lb=>LeO.refl _
 | t :: T,i,_ :: _,[]=>LeO.refl _
 | t :: T,i,x :: la,y :: lb=>by
  unfold foldGo
  exact LeO.bind (foldJ_mono _ _ _ _ _ _ _) (fun _=>LeO.bind (foldGo_mono K M k T (i + 1) la lb) (fun _=>LeO.refl _))
theorem fold_One.mono (T : List Int) (K M G : Int) (la lb : List S31) (k : Nat) : LeO (fold_One.f k T K M G la lb) (fold_One.f (k + 1) T K M G la lb):=by
 unfold fold_One.f
 split
 ·exact foldGo_mono _ _ _ _ _ _ _
 ·exact LeO.refl _
theorem foldGo_step {k : Nat} {K M : Int} {T : List Int} {la lb : List S31} {i : Nat} (hT : i < T.length) (hlb : lb.length=T.length) {rest : List S31} (h : foldGo k K M i (T.drop i) (la.drop i) (lb.drop i)=some rest) :
  i < la.length∧∃ z rest',foldJ k K M (rd T (i : Int)) i (rd_T31 la (i : Int)) (rd_T31 lb (i : Int))=some z∧foldGo k K M (i + 1) (T.drop (i + 1)) (la.drop (i + 1)) (lb.drop (i + 1))=some rest'∧rest=z :: rest':=by
 have h2 : i < lb.length:=by omega
 rw [List.drop_eq_getElem_cons hT,List.drop_eq_getElem_cons h2] at h
 rcases Nat.lt_or_ge i la.length with h1|h1
 ·have e0 : rd T (i : Int)=T[i]:=by simp [rd,List.getD,hT]
  have e1 : rd_T31 la (i : Int)=la[i]:=by simp [rd_T31,List.getD,h1]
  have e2 : rd_T31 lb (i : Int)=lb[i]:=by simp [rd_T31,List.getD,h2]
  rw [List.drop_eq_getElem_cons h1] at h
  rw [e0,e1,e2]
  unfold foldGo at h
  obtain ⟨z,q1,h⟩:=Option.bind_eq_some_iff.mp h
  obtain ⟨rs,q2,h⟩:=Option.bind_eq_some_iff.mp h
  exact ⟨h1,z,rs,q1,q2,(Option.some.inj h).symm⟩
 ·rw [List.drop_of_length_le h1] at h
  exact absurd h (by simp [foldGo])
theorem foldGo_end {k : Nat} {K M : Int} {la : List S31} {i : Nat} {rest : List S31} (h : foldGo k K M i [] la []=some rest) : rest=[]:=by
 unfold foldGo at h
 exact (Option.some.inj h).symm
theorem set_next (zs : List S31) (z z0 : S31) (n i : Nat) (hz : zs.length=i) (hi : i < n) : (zs ++ List.replicate (n - i) z0).set i z=(zs ++ [z]) ++ List.replicate (n - (i + 1)) z0:=by
 obtain ⟨m,hm⟩ : ∃ m,n - i=m + 1:=⟨n - i - 1,by omega⟩
 rw [hm,List.replicate_succ,List.set_append,if_neg (by omega),show i - zs.length=0 by omega,List.set_cons_zero,List.append_assoc,show n - (i + 1)=m by omega]
 rfl
structure JoinOk (k : Nat) (K M t : Int) (i : Nat) (f : FuncId) : Prop where
 fn : ∃ fv,Try.prog.funcs[f]?=some fv∧(fv.name == "runtime.NumGoroutine")=false∧fv.body.isSome=true
 call : ∀ (x y z : S31) (W : World),foldJ k K M t i x y=some z→Calls Try.prog f #[.int .i64 t,.agg #[.int .i64 x.f0,.string x.f1],.agg #[.int .i64 y.f0,.string y.f1]] W fun e w'=>e=.returned (.agg #[.int .i64 z.f0,.string z.f1])∧Below W.heap.size W w'
theorem join_look (k : Nat) (K M t : Int) (i : Nat) (h1 : 1≤M) (h3 : M≤3) : ∃ f,JoinOk k K M t i f∧∀ (W : World) (B : Nat),JMap W B (fun _=>true)→(Instr.lookup 73 (.map (some B)) (.agg #[.int .i64 M,.bool (decide ((i : Int) < K))]) false).run Try.prog W=.ok (.func (.func f) #[] #[]) W:=by
 have last : ∀ (h : ¬ (M=3∧¬ (i : Int) < K)),JoinOk k K M t i 45:=fun h=>⟨⟨_,Try.func45,by kernel_rfl,rfl⟩,fun x y z W hj=>by
  unfold foldJ at hj
  rw [if_neg h] at hj
  obtain rfl:=Option.some.inj hj
  exact last_any _ _ _ _ _ _⟩
 have hM : M=1 ∨ M=2 ∨ M=3:=by omega
 by_cases c : (i : Int) < K
 ·rw [decide_eq_true c]
  refine ⟨45,last (fun h=>h.2 c),fun W B hj=>?_⟩
  rcases hM with rfl|rfl|rfl
  ·exact hj.look (j:=0) (by omega) rfl
  ·exact hj.look (j:=2) (by omega) rfl
  ·exact hj.look (j:=4) (by omega) rfl
 ·rw [decide_eq_false c]
  rcases hM with rfl|rfl|rfl
  ·exact ⟨45,last (fun h=>by omega),fun W B hj=>hj.look (j:=1) (by omega) rfl⟩
  ·exact ⟨45,last (fun h=>by omega),fun W B hj=>hj.look (j:=3) (by omega) rfl⟩
  ·refine ⟨46,⟨⟨_,Try.func46,by kernel_rfl,rfl⟩,fun x y z W hj=>?_⟩,fun W B hj=>hj.look (j:=5) (by omega) rfl⟩
   unfold foldJ at hj
   rw [if_pos ⟨rfl,c⟩] at hj
   obtain ⟨⟨p1,p2⟩,q1,q2⟩:=Option.bind_eq_some_iff.mp hj
   obtain rfl:=Option.some.inj q2
   exact value_Add.calls k _ _ _ _ _ _ _ W q1
set_option maxHeartbeats 8000000 in
set_option maxRecDepth 100000 in
theorem fold_One.calls (k : Nat) (A : Option Addr) (c : Nat) (T : List Int) (K M G : Int) (AA : Option Addr) (cA : Nat) (la : List (S31)) (AB : Option Addr) (cB : Nat) (lb : List (S31)) (r : List (S31)) (w : World)
  (hT : Kd.C (Kd.int .i64) w A T.length T) (hc : T.length≤c) (hA : Kd.C k31 w AA la.length la) (hcA : la.length≤cA) (hL : Kd.C k31 w AB lb.length lb) (hcL : lb.length≤cB) (h : fold_One.f k T K M G la lb=some r) :
  Calls Try.prog 33 #[.agg #[.slice A T.length c,.int .i64 K,.int .i64 M,.int .i64 G],.slice AA la.length cA,.slice AB lb.length cB] w fun e w'=>∃ v0_ : Value,e=.returned (v0_)∧Kd.R k31  31 w' w.heap.size (fun _=>True) v0_ r∧Below w.heap.size w w':=by
 unfold fold_One.f at h
 by_cases hn : T.length≤1000000∧1≤M∧M≤3∧lb.length=T.length
 case neg=>rw [if_neg hn] at h;exact absurd h (by simp)
 rw [if_pos hn] at h
 obtain ⟨hn1,hm1,hm3,hlb⟩:=hn
 have hu29:=Try.underlying29
 have huV:=Try.underlying31
 have hu55:=Try.underlying55
 have HT:=Aside0.mk hT
 have HLA:=Aside0.mk hA
 have HLB:=Aside0.mk hL
 have HC:=Aside0.mk (And.intro hc (And.intro hcA hcL))
 have HLN:=Aside0.mk hn1
 have HMM:=Aside0.mk (And.intro hm1 hm3)
 have HEQ:=Aside0.mk hlb
 have HH:=Aside0.mk (show ∃ rest,foldGo k K M 0 (T.drop 0) (la.drop 0) (lb.drop 0)=some rest∧r=[] ++ rest from ⟨r,by rw [List.drop_zero,List.drop_zero,List.drop_zero];exact h,rfl⟩)
 have HB:=Aside0.mk (Below.refl w.heap.size w)
 clear hT hc hA hcA hL hcL h hn1 hm1 hm3 hlb
 go_enter Try.func33,Try.ntmps33
 go_wp2_with (first|((with_reducible refine gate_dst (N:=3) rfl ?_);refine box_event ?hg (N:=3) ?hd (cs:=#[.slice A T.length c,.int .i64 K,.int .i64 M,.int .i64 G]) (t:=26) ?hr ?_;(case hd=>rfl);(case hg=>rfl);(case hr=>first|(go_simp;done)|(go_simp;rfl));intro gs hg w4 hbox hb;have GEgs:=Aside0.mk ((by rw [hg];exact below_size HB.out) : w.heap.size≤gs);have n0_:=Aside0.mk (below_step HB.out hb);clear HB;have HB:=n0_;clear n0_;have BKgs:=Aside0.mk hbox;clear hb hbox hg)|(go_at_call 37;(with_reducible refine (joins_any _).mono ?_);rintro e w5 ⟨B,rfl,hj,hb⟩;have HBM:=Aside0.mk (below_size (below_step HB.out hb));have n0_:=Aside0.mk (blk_below BKgs.out hb);have n1_:=Aside0.mk (below_step HB.out hb);clear BKgs HB;have BKgs:=n0_;have HB:=n1_;clear n0_ n1_;have HJ:=Aside0.mk hj;have HBL:=Aside0.mk hj.lt;clear hj hb)|((with_reducible refine gate_dst (N:=14) rfl ?_);refine Kd.R_make k31 (w0:=w) w.heap.size 31 rfl (N:=14) rfl 33 _ _ rfl ((lb.length : Nat) : Int) rfl rfl Try.underlying33 (.agg #[(.int .i64 0),(.string ⟨#[]⟩)]) 24 info31 rfl (by decide) (by omega) (⟨0,⟨#[]⟩⟩ : S31) (ok:=fun _=>True) (okp:=fun _=>False) ?mz (fun _ hk=>hk.elim) trivial (by omega) ?ml HB.out HBM.out ?_;(case mz=>exact k31_mkM _ _ _ (⟨0,⟨#[]⟩⟩ : S31));(case ml=>have:=HLN.out;have:=HEQ.out;rw [Int.toNat_natCast];omega);intro v7 w7 ho hb hg hat;have n0_:=Aside0.mk (blk_grown BKgs.out hg (by simp));have n1_:=Aside0.mk (HJ.out.grown hg (by simp));have n2_:=Aside0.mk (HBM.out);have n3_:=Aside0.mk (HBL.out);clear BKgs HJ HBM HBL;have BKgs:=n0_;have HJ:=n1_;have HBM:=n2_;have HBL:=n3_;clear n0_ n1_ n2_ n3_;clear HB;have HB:=Aside0.mk hb;have HO:=Aside0.mk ho;clear hb ho hg;have cgs0 : w7.cell? ⟨gs,0,none⟩=some (.slice A T.length c):=(blk_cell BKgs.out 0).trans rfl))
 obtain ⟨g,cg,rfl,hgb⟩:=R_shape HO.out hat
 have hlen : (List.replicate ((lb.length : Int)).toNat (⟨0,⟨#[]⟩⟩ : S31)).length=lb.length:=by rw [List.length_replicate,Int.toNat_natCast]
 rw [hlen]
 have hHO:=HO.out
 rw [hlen,Int.toNat_natCast] at hHO
 have HNB:=Aside0.mk (show B≠g by have:=HBL.out;omega)
 have HO2:=Aside0.mk (show Kd.R k31  31 w7 w.heap.size (fun _=>True) (.slice (some ⟨g,0,none⟩) lb.length cg) ([] ++ List.replicate (T.length - 0) (⟨0,⟨#[]⟩⟩ : S31)) by rw [List.nil_append,Nat.sub_zero,← HEQ.out];exact hHO)
 clear hHO hlen hgb hat HO HBM HBL
 clear cgs0
 go_loopg [18] T.length (fun kq v18 w'=>∃ (i : Nat) (zs : List (S31)),v18=.int .i64 i∧Aside0 (i + kq=T.length)∧Aside0 (zs.length=i)∧Aside0 (∃ rest,foldGo k K M i (T.drop i) (la.drop i) (lb.drop i)=some rest∧r=zs ++ rest)∧Aside0 (Kd.R k31  31 w' w.heap.size (fun _=>True) (.slice (some ⟨g,0,none⟩) lb.length cg) (zs ++ List.replicate (T.length - i) (⟨0,⟨#[]⟩⟩ : S31)))∧Aside0 (w'.heap[gs]?=some (.cells #[.slice A T.length c,.int .i64 K,.int .i64 M,.int .i64 G] 26 (0,0)))∧Aside0 (JMap w' B (fun _=>true))∧Aside0 (Below w.heap.size w w'))
 case atStart=>exact ⟨0,[],rfl,⟨by omega⟩,⟨rfl⟩,HH,HO2,BKgs,HJ,HB⟩
 case round =>
  clear HH HO2 BKgs HJ HB
  obtain ⟨i,zs,rfl,HK1,HON,HA,HO,BKgs,HJ,HB⟩:=hrel
  by_cases hlt : i < T.length
  ·obtain ⟨m1,hm1⟩ : ∃ m,m + 1=gk:=⟨gk - 1,by have:=HK1.out;omega⟩
   have HM:=Aside0.mk hm1
   have HI:=Aside0.mk hlt
   clear hm1
   obtain ⟨rest,ha,hr⟩:=HA.out
   obtain ⟨hia,z,rest',h1,h2,h3⟩:=foldGo_step hlt HEQ.out ha
   have hib : i < lb.length:=by have:=HEQ.out;omega
   have HA':=Aside0.mk (show ∃ rest,foldGo k K M (i + 1) (T.drop (i + 1)) (la.drop (i + 1)) (lb.drop (i + 1))=some rest∧r=(zs ++ [z]) ++ rest from ⟨rest',h2,by rw [hr,h3];simp⟩)
   clear HA hr h2 h3 ha
   obtain ⟨adT,eT,hT0⟩:=Kd.at_int HT.out (i : Int) (by omega) (by omega)
   obtain ⟨adp,ep,hp0,hp1⟩:=at_T31 HLA.out (i : Int) (by omega) (by omega)
   obtain ⟨adq,eq,hq0,hq1⟩:=at_T31 HLB.out (i : Int) (by omega) (by omega)
   simp only [Int.toNat_natCast] at hT0 hp0 hp1 hq0 hq1
   obtain ⟨t,ht⟩ : ∃ x,x=rd T (i : Int):=⟨_,rfl⟩
   obtain ⟨x,hx⟩ : ∃ x,x=rd_T31 la (i : Int):=⟨_,rfl⟩
   obtain ⟨y,hy⟩ : ∃ x,x=rd_T31 lb (i : Int):=⟨_,rfl⟩
   rw [← ht] at h1 hT0
   rw [← hx] at h1 hp0 hp1
   rw [← hy] at h1 hq0 hq1
   clear ht hx hy
   cases eT
   cases ep
   cases eq
   obtain ⟨f,hjo,hlook⟩:=join_look k K M t i HMM.out.1 HMM.out.2
   obtain ⟨fnv,hf1,hf2,hf3⟩:=hjo.fn
   have HJO:=Aside0.mk hjo
   have HLK:=Aside0.mk hlook
   have HF1:=Aside0.mk hf1
   have HF2:=Aside0.mk hf2
   have HF3:=Aside0.mk hf3
   have HF:=Aside0.mk h1
   have HPQ:=Aside0.mk (And.intro hp0 (And.intro hp1 (And.intro hq0 hq1)))
   clear hjo hlook hf1 hf2 hf3 h1 hp0 hp1 hq0 hq1
   replace hT0:=(HB.out.cell (World.block_lt_of_cell? w _ hT0)).trans hT0
   have hlt' : decide ((i : Int) < (T.length : Int))=true:=decide_eq_true (by omega)
   have p2 : (0≤(i : Int))=True:=eq_true (by omega)
   have p3 : ((i : Int) < (T.length : Int))=True:=eq_true (by omega)
   have p4 : ((i : Int) < (la.length : Int))=True:=eq_true (by omega)
   have p5 : ((i : Int) < (lb.length : Int))=True:=eq_true (by omega)
   have HIB:=Aside0.mk hib
   clear hlt hia hib
   go_wp2
   clear hT0
   obtain ⟨hp0,hp1,hq0,hq1⟩:=HPQ.out
   have n0_:=Aside0.mk (blk_drew BKgs.out);have n1_:=Aside0.mk (HJ.out.drew);have n2_:=Aside0.mk (Kd.R_drew HO.out);have n3_:=Aside0.mk (below_drew1 HB.out);clear BKgs HJ HO HB;have BKgs:=n0_;have HJ:=n1_;have HO:=n2_;have HB:=n3_;clear n0_ n1_ n2_ n3_
   refine start_ (n:=23) (S:=fun w'=>w'.cell? ⟨gs,1,none⟩=some (.int .i64 K)∧w'.cell? ⟨gs,2,none⟩=some (.int .i64 M)∧w'.cell? (adp.add (i * 2))=some (.int .i64 x.f0)∧w'.cell? ⟨(adp.add (i * 2)).block,(adp.add (i * 2)).off + 1,none⟩=some (.string x.f1)∧w'.cell? (adq.add (i * 2))=some (.int .i64 y.f0)∧w'.cell? ⟨(adq.add (i * 2)).block,(adq.add (i * 2)).off + 1,none⟩=some (.string y.f1)) (ds:=[22]) #[false,false,false,false,false,false,false,false,false,false,false,false,false,false,false,false,false,false,false,false,false,false,false] (by kernel_rfl) rfl rfl ⟨((blk_cell BKgs.out 1).trans rfl),((blk_cell BKgs.out 2).trans rfl),((HB.out.cell (World.block_lt_of_cell? w _ hp0)).trans hp0),((HB.out.cell (World.block_lt_of_cell? w _ hp1)).trans hp1),((HB.out.cell (World.block_lt_of_cell? w _ hq0)).trans hq0),((HB.out.cell (World.block_lt_of_cell? w _ hq1)).trans hq1)⟩ (fun hHeld=>?_)
   refine pure_ (i:=0) (N:=some 23) (v:=?_) (a':=?_) #[true,false,false,false,false,false,false,false,false,false,false,false,false,false,false,false,false,false,false,false,false,false,false] rfl rfl (by kernel_rfl) (fun _ _ _ h=>h) (Or.inl ⟨by rfl,?_⟩) ?_ ?_
   rotate_left;(intro w';go_simp;with_reducible rfl);rotate_left;(simp only [Act.put,List.setIfInBounds_toArray,List.set_cons_zero,List.set_cons_succ,i64_w,i32_w];rfl)
   refine pure_ (i:=1) (N:=some 24) (v:=?_) (a':=?_) #[true,true,false,false,false,false,false,false,false,false,false,false,false,false,false,false,false,false,false,false,false,false,false] rfl rfl (by kernel_rfl) (fun _ _ _ h=>h) (Or.inl ⟨by rfl,?_⟩) ?_ ?_
   rotate_left;(intro w';go_simp;with_reducible rfl);rotate_left;(simp only [Act.put,List.setIfInBounds_toArray,List.set_cons_zero,List.set_cons_succ,i64_w,i32_w];rfl)
   refine pure_ (i:=2) (N:=some 25) (v:=?_) (a':=?_) #[true,true,true,false,false,false,false,false,false,false,false,false,false,false,false,false,false,false,false,false,false,false,false] rfl rfl (by kernel_rfl) (fun _ _ _ h=>h) (Or.inl ⟨by rfl,?_⟩) ?_ ?_
   rotate_left;(intro w';go_simp;with_reducible rfl);rotate_left;(simp only [Act.put,List.setIfInBounds_toArray,List.set_cons_zero,List.set_cons_succ,i64_w,i32_w];rfl)
   refine pure_ (i:=3) (N:=some 26) (v:=?_) (a':=?_) #[true,true,true,true,false,false,false,false,false,false,false,false,false,false,false,false,false,false,false,false,false,false,false] rfl rfl (by kernel_rfl) (fun _ _ _ h=>h) (Or.inl ⟨by rfl,?_⟩) ?_ ?_
   rotate_left;(intro w';go_simp;with_reducible rfl);rotate_left;(simp only [Act.put,List.setIfInBounds_toArray,List.set_cons_zero,List.set_cons_succ,i64_w,i32_w];rfl)
   refine pure_ (i:=5) (N:=some 28) (v:=?_) (a':=?_) #[true,true,true,true,false,true,false,false,false,false,false,false,false,false,false,false,false,false,false,false,false,false,false] rfl rfl (by kernel_rfl) (fun _ _ _ h=>h) (Or.inl ⟨by rfl,?_⟩) ?_ ?_
   rotate_left;(intro w';go_simp;with_reducible rfl);rotate_left;(simp only [Act.put,List.setIfInBounds_toArray,List.set_cons_zero,List.set_cons_succ,i64_w,i32_w];rfl)
   refine pure_ (i:=6) (N:=some 29) (v:=?_) (a':=?_) #[true,true,true,true,false,true,true,false,false,false,false,false,false,false,false,false,false,false,false,false,false,false,false] rfl rfl (by kernel_rfl) (fun _ _ _ h=>h) (Or.inl ⟨by rfl,?_⟩) ?_ ?_
   rotate_left;(intro w';go_simp;with_reducible rfl);rotate_left;(simp only [Act.put,List.setIfInBounds_toArray,List.set_cons_zero,List.set_cons_succ,i64_w,i32_w];rfl)
   refine pure_ (i:=11) (N:=some 34) (v:=?_) (a':=?_) #[true,true,true,true,false,true,true,false,false,false,false,true,false,false,false,false,false,false,false,false,false,false,false] rfl rfl (by kernel_rfl) (fun _ _ _ h=>h) (Or.inl ⟨by rfl,?_⟩) ?_ ?_
   rotate_left;(intro w';go_simp;with_reducible rfl);rotate_left;(simp only [Act.put,List.setIfInBounds_toArray,List.set_cons_zero,List.set_cons_succ,i64_w,i32_w];rfl)
   refine pure_ (i:=12) (N:=some 35) (v:=?_) (a':=?_) #[true,true,true,true,false,true,true,false,false,false,false,true,true,false,false,false,false,false,false,false,false,false,false] rfl rfl (by kernel_rfl) (fun _ _ _ h=>h) (Or.inl ⟨by rfl,?_⟩) ?_ ?_
   rotate_left;(intro w';go_simp;with_reducible rfl);rotate_left;(simp only [Act.put,List.setIfInBounds_toArray,List.set_cons_zero,List.set_cons_succ,i64_w,i32_w];rfl)
   refine pure_ (i:=13) (N:=some 36) (v:=?_) (a':=?_) #[true,true,true,true,false,true,true,false,false,false,false,true,true,true,false,false,false,false,false,false,false,false,false] rfl rfl (by kernel_rfl) (fun _ _ _ h=>h) (Or.inl ⟨by rfl,?_⟩) ?_ ?_
   rotate_left;(intro w';go_simp;with_reducible rfl);rotate_left;(simp only [Act.put,List.setIfInBounds_toArray,List.set_cons_zero,List.set_cons_succ,i64_w,i32_w];rfl)
   refine pure_ (i:=14) (N:=some 37) (v:=?_) (a':=?_) #[true,true,true,true,false,true,true,false,false,false,false,true,true,true,true,false,false,false,false,false,false,false,false] rfl rfl (by kernel_rfl) (fun _ _ _ h=>h) (Or.inl ⟨by rfl,?_⟩) ?_ ?_
   rotate_left;(intro w';go_simp;with_reducible rfl);rotate_left;(simp only [Act.put,List.setIfInBounds_toArray,List.set_cons_zero,List.set_cons_succ,i64_w,i32_w];rfl)
   refine pure_ (i:=16) (N:=some 39) (v:=?_) (a':=?_) #[true,true,true,true,false,true,true,false,false,false,false,true,true,true,true,false,true,false,false,false,false,false,false] rfl rfl (by kernel_rfl) (fun _ _ _ h=>h) (Or.inl ⟨by rfl,?_⟩) ?_ ?_
   rotate_left;(intro w';go_simp;with_reducible rfl);rotate_left;(simp only [Act.put,List.setIfInBounds_toArray,List.set_cons_zero,List.set_cons_succ,i64_w,i32_w];rfl)
   refine pure_ (i:=17) (N:=some 40) (v:=?_) (a':=?_) #[true,true,true,true,false,true,true,false,false,false,false,true,true,true,true,false,true,true,false,false,false,false,false] rfl rfl (by kernel_rfl) (fun _ _ _ h=>h) (Or.inl ⟨by rfl,?_⟩) ?_ ?_
   rotate_left;(intro w';go_simp;with_reducible rfl);rotate_left;(simp only [Act.put,List.setIfInBounds_toArray,List.set_cons_zero,List.set_cons_succ,i64_w,i32_w];rfl)
   refine pure_ (i:=18) (N:=some 41) (v:=?_) (a':=?_) #[true,true,true,true,false,true,true,false,false,false,false,true,true,true,true,false,true,true,true,false,false,false,false] rfl rfl (by kernel_rfl) (fun _ _ _ h=>h) (Or.inl ⟨by rfl,?_⟩) ?_ ?_
   rotate_left;(intro w';go_simp;with_reducible rfl);rotate_left;(simp only [Act.put,List.setIfInBounds_toArray,List.set_cons_zero,List.set_cons_succ,i64_w,i32_w];rfl)
   refine take_ (i:=4) (N:=some 27) (v:=?_) (a':=?_) #[true,true,true,true,true,true,true,false,false,false,false,true,true,true,true,false,true,true,true,false,false,false,false] rfl rfl (by kernel_rfl) (fun _ _ _ h=>h) (Or.inl ⟨by rfl,?_⟩) hHeld ?_ ?_
   rotate_left;(rintro w' ⟨s0,s1,s2,s3,s4,s5⟩;go_simp;with_reducible rfl);rotate_left;(simp only [Act.put,List.setIfInBounds_toArray,List.set_cons_zero,List.set_cons_succ,i64_w,i32_w];rfl)
   refine take_ (i:=7) (N:=some 30) (v:=?_) (a':=?_) #[true,true,true,true,true,true,true,true,false,false,false,true,true,true,true,false,true,true,true,false,false,false,false] rfl rfl (by kernel_rfl) (fun _ _ _ h=>h) (Or.inl ⟨by rfl,?_⟩) hHeld ?_ ?_
   rotate_left;(rintro w' ⟨s0,s1,s2,s3,s4,s5⟩;go_simp;with_reducible rfl);rotate_left;(simp only [Act.put,List.setIfInBounds_toArray,List.set_cons_zero,List.set_cons_succ,i64_w,i32_w];rfl)
   refine pure_ (i:=8) (N:=some 31) (v:=?_) (a':=?_) #[true,true,true,true,true,true,true,true,true,false,false,true,true,true,true,false,true,true,true,false,false,false,false] rfl rfl (by kernel_rfl) (fun _ _ _ h=>h) (Or.inl ⟨by rfl,?_⟩) ?_ ?_
   rotate_left;(intro w';go_simp;with_reducible rfl);rotate_left;(simp only [Act.put,List.setIfInBounds_toArray,List.set_cons_zero,List.set_cons_succ,i64_w,i32_w];rfl)
   refine pure_ (i:=9) (N:=some 32) (v:=?_) (a':=?_) #[true,true,true,true,true,true,true,true,true,true,false,true,true,true,true,false,true,true,true,false,false,false,false] rfl rfl (by kernel_rfl) (fun _ _ _ h=>h) (Or.inl ⟨by rfl,?_⟩) ?_ ?_
   rotate_left;(intro w';go_simp;with_reducible rfl);rotate_left;(simp only [Act.put,List.setIfInBounds_toArray,List.set_cons_zero,List.set_cons_succ,i64_w,i32_w];rfl)
   refine take_ (i:=15) (N:=some 38) (v:=?_) (a':=?_) #[true,true,true,true,true,true,true,true,true,true,false,true,true,true,true,true,true,true,true,false,false,false,false] rfl rfl (by kernel_rfl) (fun _ _ _ h=>h) (Or.inl ⟨by rfl,?_⟩) hHeld ?_ ?_
   rotate_left;(rintro w' ⟨s0,s1,s2,s3,s4,s5⟩;go_simp;with_reducible rfl);rotate_left;(simp only [Act.put,List.setIfInBounds_toArray,List.set_cons_zero,List.set_cons_succ,i64_w,i32_w];rfl)
   refine take_ (i:=19) (N:=some 42) (v:=?_) (a':=?_) #[true,true,true,true,true,true,true,true,true,true,false,true,true,true,true,true,true,true,true,true,false,false,false] rfl rfl (by kernel_rfl) (fun _ _ _ h=>h) (Or.inl ⟨by rfl,?_⟩) hHeld ?_ ?_
   rotate_left;(rintro w' ⟨s0,s1,s2,s3,s4,s5⟩;go_simp;with_reducible rfl);rotate_left;(simp only [Act.put,List.setIfInBounds_toArray,List.set_cons_zero,List.set_cons_succ,i64_w,i32_w];rfl)
   refine one_ (i:=10) (N:=some 33) #[true,true,true,true,true,true,true,true,true,true,true,true,true,true,true,true,true,true,true,true,false,false,false] rfl rfl (by kernel_rfl) (by decide) (fun K hK=>?_)
   refine lookD_ (by rfl) rfl rfl rfl rfl (HLK.out _ _ HJ.out) ?_
   refine hK.out _ _ ⟨((blk_cell BKgs.out 1).trans rfl),((blk_cell BKgs.out 2).trans rfl),((HB.out.cell (World.block_lt_of_cell? w _ hp0)).trans hp0),((HB.out.cell (World.block_lt_of_cell? w _ hp1)).trans hp1),((HB.out.cell (World.block_lt_of_cell? w _ hq0)).trans hq0),((HB.out.cell (World.block_lt_of_cell? w _ hq1)).trans hq1)⟩ (fun hHeld=>?_)
   clear hK K
   refine norm_ (a':=?_) ?_ ?_
   rotate_left
   ·show Act.put _ (some 33) _=_
    simp only [Act.put,List.setIfInBounds_toArray,List.set_cons_zero,List.set_cons_succ,i64_w,i32_w]
    rfl
   refine one_ (i:=20) (N:=some 43) #[true,true,true,true,true,true,true,true,true,true,true,true,true,true,true,true,true,true,true,true,true,false,false] rfl rfl (by kernel_rfl) (by decide) (fun K hK=>?_)
   refine goesV_ HF1.out HF2.out HF3.out #[.int .i64 t,.agg #[.int .i64 x.f0,.string x.f1],.agg #[.int .i64 y.f0,.string y.f1]] (by rfl) rfl rfl rfl (by simp only [List.map_toArray,List.map_cons,List.map_nil];rfl) ?_
   with_reducible refine (HJO.out.call x y z _ HF.out).mono ?_
   rintro e w3 ⟨rfl,hb⟩
   refine ⟨_,rfl,?_⟩
   have n0_:=Aside0.mk (blk_below BKgs.out hb);have n1_:=Aside0.mk (HJ.out.below hb);have n2_:=Aside0.mk (Kd.R_below HO.out hb);have n3_:=Aside0.mk (below_step HB.out hb);clear BKgs HJ HO HB;have BKgs:=n0_;have HJ:=n1_;have HO:=n2_;have HB:=n3_;clear n0_ n1_ n2_ n3_
   clear hb
   refine hK.out _ _ ⟨((blk_cell BKgs.out 1).trans rfl),((blk_cell BKgs.out 2).trans rfl),((HB.out.cell (World.block_lt_of_cell? w _ hp0)).trans hp0),((HB.out.cell (World.block_lt_of_cell? w _ hp1)).trans hp1),((HB.out.cell (World.block_lt_of_cell? w _ hq0)).trans hq0),((HB.out.cell (World.block_lt_of_cell? w _ hq1)).trans hq1)⟩ (fun hHeld=>?_)
   clear hK K
   refine norm_ (a':=?_) ?_ ?_
   rotate_left
   ·show Act.put _ (some 43) _=_
    simp only [Act.put,List.setIfInBounds_toArray,List.set_cons_zero,List.set_cons_succ,i64_w,i32_w]
    rfl
   refine pure_ (i:=21) (N:=some 44) (v:=?_) (a':=?_) #[true,true,true,true,true,true,true,true,true,true,true,true,true,true,true,true,true,true,true,true,true,true,false] rfl rfl (by kernel_rfl) (fun _ _ _ h=>h) (Or.inl ⟨by rfl,?_⟩) ?_ ?_
   rotate_left;(intro w';go_simp;with_reducible rfl);rotate_left;(simp only [Act.put,List.setIfInBounds_toArray,List.set_cons_zero,List.set_cons_succ,i64_w,i32_w];rfl)
   refine last_ (i:=22) (N:=none) #[true,true,true,true,true,true,true,true,true,true,true,true,true,true,true,true,true,true,true,true,true,true,true] rfl rfl (by kernel_rfl) (by decide) (fun K hK=>?_)
   refine R_storeW_step k31 (w0:=w) w.heap.size (by rfl) rfl 31 (.tmp 44) (.tmp 43) rfl 31 (g:=g) (n:=lb.length) (cap:=cg) i (zs ++ List.replicate (T.length - i) (⟨0,⟨#[]⟩⟩ : S31)) z (.agg #[.int .i64 z.f0,.string z.f1]) [.int .i64 z.f0,.string z.f1] (fun _=>True) (fun _=>False) ?sa rfl rfl (by kernel_rfl) ?so rfl HO.out HIB.out (k31_mkM _ _ _ z) (fun _ hk=>hk.elim) HB.out ?_
   (case sa=>first|rfl|(show Value.pointer (some ((⟨g,0,none⟩ : Addr).add (i * 2)))=_;rw [add0];rfl))
   (case so=>(apply all_oneK;rfl))
   intro w9 ho hb hg
   rw [set_next zs z _ T.length i HON.out HI.out] at ho
   have n0_:=Aside0.mk (blk_grown BKgs.out hg (fun q=>by injection q with q;exact blk_ne BKgs.out (Kd.R_typed HO.out g rfl).choose_spec (by decide) q));have n1_:=Aside0.mk (HJ.out.grown hg (fun q=>by injection q with q;exact HNB.out q));clear BKgs HJ;have BKgs:=n0_;have HJ:=n1_;clear n0_ n1_;clear HB HO;have HB:=Aside0.mk hb;have HO:=Aside0.mk ho;clear hb ho hg
   refine hK.out _ _ ?_
   clear hK K
   refine done_ (by kernel_rfl) ?_
   (try clear hHeld)
   clear hp0 hp1 hq0 hq1 p2 p3 p4 p5
   try go_wp2
   go_roundg m1
   case measure=>have:=HM.out;omega
   case rel=>exact ⟨i + 1,zs ++ [z],by have:=HI.out;have:=HLN.out;rw [w64 (by omega) (by omega)];rfl,⟨by have:=HK1.out;have:=HM.out;omega⟩,⟨by rw [List.length_append];have:=HON.out;simp;omega⟩,HA',HO,BKgs,HJ,HB⟩
  ·have hlt' : decide ((i : Int) < (T.length : Int))=false:=decide_eq_false (by omega)
   obtain ⟨rest,ha,hr⟩:=HA.out
   have hlq:=HEQ.out
   rw [List.drop_of_length_le (by omega),List.drop_of_length_le (show lb.length≤i by omega)] at ha
   obtain rfl:=foldGo_end ha
   rw [List.append_nil] at hr
   have hO:=HO.out
   rw [← hr,show T.length - i=0 by omega,List.replicate_zero,List.append_nil] at hO
   have HO2:=Aside0.mk hO
   clear hO hr ha HA HO hlq
   go_wp2
   go_ret
   exact ⟨_,rfl,HO2.out,HB.out⟩
end Go.Proofs.Ytfiandejapgkoaa.P

/- value.Compare tells the order of values. -/
namespace Go.Proofs.Ytfiandejapgkoaa.P
open Go.RowKit Go.Proofs.YtfiandejapgkoaaW.PrintWords Go.Proofs.YtfiandejapgkoaaW.PrintLast Go.Proofs.YtfiandejapgkoaaW.PrintMore
set_option linter.unusedVariables false
set_option linter.unusedSimpArgs false
theorem vfits_f (k : Nat) (t n : Int) (s : ByteArray) : value_Fits.f (k + 1) t n s=some (fitT t ⟨n,s⟩):=by
 unfold value_Fits.f fitT
 by_cases h1 : t=1
 ·rw [if_pos h1,if_pos (Or.inl h1)]
  subst h1
  rfl
 ·rw [if_neg h1]
  by_cases h2 : t=2
  ·rw [if_pos (Or.inr h2)]
   subst h2
   rfl
  ·rw [if_neg (by omega),show (t == 2)=false by simpa using h2]
   simp only [value_Fits.j0,Bool.false_eq_true,if_false]
   by_cases h3 : t=3
   ·rw [if_pos h3,if_pos h3]
    split <;> rfl
   ·rw [if_neg h3,if_neg h3]
theorem vfits_ev (t n : Int) (s : ByteArray) : Ev (fun k=>value_Fits.f k t n s) (fitT t ⟨n,s⟩):=Ev.succ ⟨0,fun k _=>vfits_f k t n s⟩
theorem cmpu_f (x y : Int) : cmp_Compare_uint64.f x y=some (sgn x y):=by
 simp only [cmp_Compare_uint64.f,cmp_isNaN_uint64.f,bne_self_eq_false,Option.bind_some,Bool.false_eq_true,if_false]
 unfold sgn
 split
 ·rfl
 ·split <;> rfl
theorem cmpi_f (x y : Int) : cmp_Compare_int64.f x y=some (sgn x y):=by
 simp only [cmp_Compare_int64.f,cmp_isNaN_int64.f,bne_self_eq_false,Option.bind_some,Bool.false_eq_true,if_false]
 unfold sgn
 split
 ·rfl
 ·split <;> rfl
theorem vcmp_ev (t : Int) (a b : XV) : Ev (fun k=>value_Compare.f k t a.f0 a.f1 b.f0 b.f1) (cmpV t a b):=by
 simp only [value_Compare.f]
 refine Ev.bind (vfits_ev t a.f0 a.f1) ?_
 by_cases ha : fitT t a=true
 ·refine Ev.pos ha (Ev.bind (vfits_ev t b.f0 b.f1) (Ev.succ ?_))
  simp only [value_Compare.j0]
  by_cases hb : fitT t b=true
  ·rw [cmpV_fit ha hb]
   refine Ev.neg (fun h=>?_) ?_
   ·rw [show fitT t ⟨b.f0,b.f1⟩=true from hb] at h
    exact absurd h (by simp)
   ·by_cases e3 : t=3
    ·refine (Ev.pos e3 (Ev.bindc rfl (Ev.now _))).eq ?_
     unfold cmpC
     rw [if_pos e3]
    ·refine Ev.neg e3 ?_
     by_cases e2 : t=2
     ·refine (Ev.pos e2 (Ev.bindc (cmpu_f _ _) (Ev.now _))).eq ?_
      unfold cmpC
      rw [if_neg e3,if_pos e2]
      rfl
     ·refine (Ev.neg e2 (Ev.bindc (cmpi_f _ _) (Ev.now _))).eq ?_
      unfold cmpC
      rw [if_neg e3,if_neg e2]
  ·refine (Ev.pos ?_ (Ev.now _)).eq ?_
   ·rw [show fitT t ⟨b.f0,b.f1⟩=false from Bool.eq_false_iff.mpr hb]
    rfl
   ·unfold cmpV
    rw [if_neg (fun h=>hb h.2)]
 ·refine Ev.neg ha (Ev.succ ?_)
  simp only [value_Compare.j0]
  refine (Ev.pos (by simp) (Ev.now _)).eq ?_
  unfold cmpV
  rw [if_neg (fun h=>ha h.1)]
end Go.Proofs.Ytfiandejapgkoaa.P

/- Rows of one key as one: plain. -/
namespace Go.Proofs.Ytfiandejapgkoaa.P
open Go.RowKit Go.Proofs.YtfiandejapgkoaaW.PrintWords Go.Proofs.YtfiandejapgkoaaW.PrintLast
set_option linter.unusedVariables false
set_option linter.unusedSectionVars false
def addV (t : Int) (a b : XV) : XV:=if fitT t a=true∧fitT t b=true then (if t=3 then b else ⟨wrap64 (a.f0 + b.f0),⟨#[]⟩⟩) else ⟨0,⟨#[]⟩⟩
theorem addV_fit {t : Int} {a b : XV} (ha : fitT t a=true) (hb : fitT t b=true) : fitT t (addV t a b)=true:=by
 unfold addV
 rw [if_pos ⟨ha,hb⟩]
 by_cases h : t=3
 ·rw [if_pos h];exact hb
 ·rw [if_neg h]
  unfold fitT at ha ⊢
  by_cases c : t=1 ∨ t=2
  ·rw [if_pos c];simp [ByteArray.toList_eq]
  ·rw [if_neg c,if_neg h] at ha;exact absurd ha (by simp)
theorem addV_GV {t : Int} {a b : XV} (hb : GV b) : GV (addV t a b):=by
 unfold addV
 split
 ·split
  ·exact hb
  ·exact ⟨by show _≤wrap64 _;unfold wrap64;omega,by show wrap64 _≤_;unfold wrap64;omega⟩
 ·exact ⟨by simp,by simp⟩
theorem addV_size {t : Int} {a b : XV} (hb : b.f1.size≤9223372036854775807) : (addV t a b).f1.size≤9223372036854775807:=by
 unfold addV
 split
 ·split
  ·exact hb
  ·show (0 : Nat)≤_;omega
 ·show (0 : Nat)≤_;omega
theorem addV_assoc {t : Int} {a b c : XV} (ha : fitT t a=true) (hb : fitT t b=true) (hc : fitT t c=true) : addV t (addV t a b) c=addV t a (addV t b c):=by
 have h1:=addV_fit ha hb
 have h2:=addV_fit hb hc
 by_cases h : t=3
 ·have e : ∀ x y : XV,fitT t x=true→fitT t y=true→addV t x y=y:=fun x y hx hy=>by unfold addV;rw [if_pos ⟨hx,hy⟩,if_pos h]
  rw [e _ _ h1 hc,e _ _ ha h2,e _ _ hb hc]
 ·have e : ∀ x y : XV,fitT t x=true→fitT t y=true→addV t x y=⟨wrap64 (x.f0 + y.f0),⟨#[]⟩⟩:=fun x y hx hy=>by unfold addV;rw [if_pos ⟨hx,hy⟩,if_neg h]
  rw [e _ _ h1 hc,e _ _ ha h2,e _ _ ha hb,e _ _ hb hc]
  simp only [S31.mk.injEq,and_true]
  unfold wrap64
  omega
def jnV (K M t : Int) (i : Nat) (x y : XV) : XV:=if M=3∧¬ (i : Int) < K then addV t x y else y
def oneR (T : List Int) (K M : Int) (a b : List XV) : List XV:=(List.range T.length).map fun (i : Nat)=>jnV K M (rd T (i : Int)) i (rdV a (i : Int)) (rdV b (i : Int))
theorem oneR_length (T : List Int) (K M : Int) (a b : List XV) : (oneR T K M a b).length=T.length:=by simp [oneR]
theorem rdV_oneR (T : List Int) (K M : Int) (a b : List XV) (i : Nat) (hi : i < T.length) : rdV (oneR T K M a b) i=jnV K M (rd T (i : Int)) i (rdV a (i : Int)) (rdV b (i : Int)):=by
 show rd_T31 _ _=_
 rw [rdV_lt _ i (by rw [oneR_length];exact hi)]
 simp [oneR]
theorem row_ext {a b : List XV} (hl : a.length=b.length) (h : ∀ i : Nat,i < a.length→rdV a i=rdV b i) : a=b:=by
 apply List.ext_getElem hl
 intro i h1 h2
 have:=h i h1
 rw [show rdV a i=a[i] from rdV_lt a i h1,show rdV b i=b[i] from rdV_lt b i h2] at this
 exact this
structure Whole (T : List Int) (a : List XV) : Prop where
 len : a.length=T.length
 ok : RowOk T a
theorem Whole.at {T : List Int} {a : List XV} (h : Whole T a) (i : Nat) (hi : i < T.length) : fitT (rd T i) (rdV a i)=true∧GV (rdV a i)∧(rdV a i).f1.size≤9223372036854775807:=by
 have f:=h.ok.fit i (Nat.zero_le _) (by rw [h.len];omega)
 exact ⟨f.1,f.2,(h.ok.gr.rdV i).2⟩
theorem whole_mk {T : List Int} {a : List XV} (hl : a.length=T.length) (h : ∀ i : Nat,i < T.length→fitT (rd T i) (rdV a i)=true∧GV (rdV a i)∧(rdV a i).f1.size≤9223372036854775807) : Whole T a:=by
 refine ⟨hl,⟨by omega,fun j h1 h2=>?_,fun v hv=>?_⟩⟩
 ·have:=h j (by omega)
  exact ⟨this.1,this.2.1⟩
 ·obtain ⟨i,hi,rfl⟩:=List.getElem_of_mem hv
  have:=h i (by omega)
  rw [show rdV a i=a[i] from rdV_lt a i hi] at this
  exact this.2
theorem one_whole {T : List Int} (K M : Int) {a b : List XV} (ha : Whole T a) (hb : Whole T b) : Whole T (oneR T K M a b):=by
 refine whole_mk (oneR_length _ _ _ _ _) (fun i hi=>?_)
 rw [rdV_oneR _ _ _ _ _ i hi]
 obtain ⟨a1,a2,a3⟩:=ha.at i hi
 obtain ⟨b1,b2,b3⟩:=hb.at i hi
 unfold jnV
 split
 ·exact ⟨addV_fit a1 b1,addV_GV b2,addV_size b3⟩
 ·exact ⟨b1,b2,b3⟩
theorem one_assoc {T : List Int} (K M : Int) {a b c : List XV} (ha : Whole T a) (hb : Whole T b) (hc : Whole T c) : oneR T K M (oneR T K M a b) c=oneR T K M a (oneR T K M b c):=by
 refine row_ext (by rw [oneR_length,oneR_length]) (fun i hi=>?_)
 rw [oneR_length] at hi
 rw [rdV_oneR _ _ _ _ _ i hi,rdV_oneR _ _ _ _ _ i hi,rdV_oneR _ _ _ _ _ i hi,rdV_oneR _ _ _ _ _ i hi]
 unfold jnV
 by_cases h : M=3∧¬ (i : Int) < K
 ·rw [if_pos h,if_pos h,if_pos h,if_pos h]
  exact addV_assoc (ha.at i hi).1 (hb.at i hi).1 (hc.at i hi).1
 ·simp only [if_neg h]
theorem cmp_congr {T : List Int} {K : Int} {a a' : List XV} (hl : a.length=T.length) (hl' : a'.length=T.length) (h : ∀ i : Nat,(i : Int) < K→i < T.length→rdV a i=rdV a' i) (x : List XV) : cmpRow T K a x=cmpRow T K a' x:=by
 unfold cmpRow
 rw [hl,hl']
 exact cmpFrom_congr T _ _ x _ 0 (fun j h1 h2=>h j (by omega) (by omega))
theorem cmp_congr2 {T : List Int} {K : Int} {a a' : List XV} (hl : a.length=T.length) (hl' : a'.length=T.length) (h : ∀ i : Nat,(i : Int) < K→i < T.length→rdV a i=rdV a' i) (x : List XV) : cmpRow T K x a=cmpRow T K x a':=by
 rw [cmpRow_anti T K a x,cmpRow_anti T K a' x,cmp_congr hl hl' h]
theorem one_key (T : List Int) (K M : Int) (a b : List XV) : ∀ i : Nat,(i : Int) < K→i < T.length→rdV (oneR T K M a b) i=rdV b i:=by
 intro i h1 h2
 rw [rdV_oneR _ _ _ _ _ i h2]
 unfold jnV
 rw [if_neg (fun h=>h.2 h1)]
theorem cmp_one {T : List Int} {K M : Int} {a b : List XV} (hb : b.length=T.length) (x : List XV) : cmpRow T K (oneR T K M a b) x=cmpRow T K b x:=cmp_congr (oneR_length _ _ _ _ _) hb (one_key T K M a b) x
theorem cmp_one2 {T : List Int} {K M : Int} {a b : List XV} (hb : b.length=T.length) (x : List XV) : cmpRow T K x (oneR T K M a b)=cmpRow T K x b:=cmp_congr2 (oneR_length _ _ _ _ _) hb (one_key T K M a b) x
theorem cmp_zero {T : List Int} {K : Int} (h0 : 0≤K) {a b : List XV} (ha : Whole T a) (hb : Whole T b) : cmpRow T K a b=0 ↔ ∀ i : Nat,(i : Int) < K→i < T.length→rdV a i=rdV b i:=by
 unfold cmpRow
 rw [ha.len,hb.len,cmpFrom_zero T a b _ 0 (ha.ok.fit.mono (by rw [ha.len];omega)) (hb.ok.fit.mono (by rw [hb.len];omega))]
 constructor
 ·intro h i h1 h2
  exact h i (Nat.zero_le _) (by omega)
 ·intro h j _ h2
  exact h j (by omega) (by omega)
theorem cmp_same {T : List Int} {K : Int} (h0 : 0≤K) {a b : List XV} (ha : Whole T a) (hb : Whole T b) (h : cmpRow T K a b=0) (x : List XV) : cmpRow T K a x=cmpRow T K b x :=
 cmp_congr ha.len hb.len ((cmp_zero h0 ha hb).mp h) x
theorem cmp_same2 {T : List Int} {K : Int} (h0 : 0≤K) {a b : List XV} (ha : Whole T a) (hb : Whole T b) (h : cmpRow T K a b=0) (x : List XV) : cmpRow T K x a=cmpRow T K x b :=
 cmp_congr2 ha.len hb.len ((cmp_zero h0 ha hb).mp h) x
def foldL (T : List Int) (K M : Int) : List XV→List (List XV)→List (List XV)
 | p,[]=>[p]
 | p,r :: l=>if cmpRow T K p r=0 then foldL T K M (oneR T K M p r) l else p :: foldL T K M r l
theorem foldL_cons (T : List Int) (K M : Int) (p r : List XV) (l : List (List XV)) : foldL T K M p (r :: l)=if cmpRow T K p r=0 then foldL T K M (oneR T K M p r) l else p :: foldL T K M r l:=rfl
def foldR (T : List Int) (K M : Int) : List (List XV)→List (List XV)
 | []=>[]
 | r :: l=>foldL T K M r l
theorem foldL_length (T : List Int) (K M : Int) : ∀ (l : List (List XV)) (p : List XV),(foldL T K M p l).length≤l.length + 1
 | [],p=>by simp [foldL]
 | r :: l,p=>by
  unfold foldL
  split
  ·have:=foldL_length T K M l (oneR T K M p r);simp only [List.length_cons];omega
  ·have:=foldL_length T K M l r;simp only [List.length_cons];omega
theorem foldR_length (T : List Int) (K M : Int) (l : List (List XV)) : (foldR T K M l).length≤l.length:=by
 cases l with
 | nil=>exact Nat.le_refl _
 | cons r l=>exact foldL_length T K M l r
section
variable {T : List Int} {K M : Int} (h0 : 0≤K)
theorem foldL_whole : ∀ (l : List (List XV)) (p : List XV),Whole T p→(∀ r ∈ l,Whole T r)→∀ r ∈ foldL T K M p l,Whole T r
 | [],p,hp,_=>by
  intro r hr
  rw [List.mem_singleton.mp hr];exact hp
 | x :: l,p,hp,hl=>by
  intro r hr
  unfold foldL at hr
  have hx:=hl x List.mem_cons_self
  have ht:=fun r hr=>hl r (List.mem_cons_of_mem _ hr)
  split at hr
  ·exact foldL_whole l _ (one_whole K M hp hx) ht r hr
  ·rcases List.mem_cons.mp hr with rfl|hr
   ·exact hp
   ·exact foldL_whole l x hx ht r hr
theorem foldR_whole (l : List (List XV)) (hl : ∀ r ∈ l,Whole T r) : ∀ r ∈ foldR T K M l,Whole T r:=by
 cases l with
 | nil=>intro r hr;exact absurd hr (by simp [foldR])
 | cons x l=>exact foldL_whole l x (hl x List.mem_cons_self) (fun r hr=>hl r (List.mem_cons_of_mem _ hr))
include h0
theorem foldL_fold : ∀ (l : List (List XV)) (q b : List XV),Whole T q→Whole T b→(∀ r ∈ l,Whole T r)→foldL T K M q (foldL T K M b l)=foldL T K M q (b :: l)
 | [],q,b,hq,hb,_=>rfl
 | c :: l,q,b,hq,hb,hl=>by
  have hc:=hl c List.mem_cons_self
  have ht:=fun r hr=>hl r (List.mem_cons_of_mem _ hr)
  have e1 : foldL T K M b (c :: l)=if cmpRow T K b c=0 then foldL T K M (oneR T K M b c) l else b :: foldL T K M c l:=rfl
  have e2 : ∀ p x l,foldL T K M p (x :: l)=if cmpRow T K p x=0 then foldL T K M (oneR T K M p x) l else p :: foldL T K M x l:=fun _ _ _=>rfl
  by_cases hbc : cmpRow T K b c=0
  ·rw [e1,if_pos hbc,foldL_fold l q (oneR T K M b c) hq (one_whole K M hb hc) ht,e2 q,e2 q,cmp_one2 hc.len,← cmp_same2 h0 hb hc hbc]
   by_cases hqb : cmpRow T K q b=0
   ·rw [if_pos hqb,if_pos hqb,e2,cmp_one hb.len,if_pos hbc,one_assoc K M hq hb hc]
   ·rw [if_neg hqb,if_neg hqb,e2,if_pos hbc]
  ·rw [e1,if_neg hbc,e2 q,e2 q]
   by_cases hqb : cmpRow T K q b=0
   ·rw [if_pos hqb,if_pos hqb,foldL_fold l _ c (one_whole K M hq hb) hc ht]
   ·rw [if_neg hqb,if_neg hqb,foldL_fold l b c hb hc ht]
omit h0 in
theorem foldL_app : ∀ (a : List (List XV)) (p : List XV),∃ pre q,foldL T K M p a=pre ++ [q]∧∀ b,foldL T K M p (a ++ b)=pre ++ foldL T K M q b
 | [],p=>⟨[],p,rfl,fun b=>rfl⟩
 | r :: l,p=>by
  by_cases h : cmpRow T K p r=0
  ·obtain ⟨pre,q,e1,e2⟩:=foldL_app l (oneR T K M p r)
   exact ⟨pre,q,by rw [foldL_cons,if_pos h,e1],fun b=>by rw [List.cons_append,foldL_cons,if_pos h,e2]⟩
  ·obtain ⟨pre,q,e1,e2⟩:=foldL_app l r
   exact ⟨p :: pre,q,by rw [foldL_cons,if_neg h,e1];rfl,fun b=>by rw [List.cons_append,foldL_cons,if_neg h,e2];rfl⟩
theorem foldR_fold (a b : List (List XV)) (ha : ∀ r ∈ a,Whole T r) (hb : ∀ r ∈ b,Whole T r) : foldR T K M (a ++ foldR T K M b)=foldR T K M (a ++ b):=by
 cases b with
 | nil=>rfl
 | cons y b =>
  have hy:=hb y List.mem_cons_self
  have ht:=fun r hr=>hb r (List.mem_cons_of_mem _ hr)
  cases a with
  | nil =>
   show foldR T K M (foldL T K M y b)=foldL T K M y b
   have key : ∀ (l : List (List XV)) (p : List XV),Whole T p→(∀ r ∈ l,Whole T r)→foldR T K M (foldL T K M p l)=foldL T K M p l:=by
    intro l
    induction l with
    | nil=>intro p _ _;rfl
    | cons c l ih =>
     intro p hp hl
     have hc:=hl c List.mem_cons_self
     have ht2:=fun r hr=>hl r (List.mem_cons_of_mem _ hr)
     by_cases h : cmpRow T K p c=0
     ·have e : foldL T K M p (c :: l)=foldL T K M (oneR T K M p c) l:=by rw [foldL_cons,if_pos h]
      rw [e]
      exact ih _ (one_whole K M hp hc) ht2
     ·have e : foldL T K M p (c :: l)=p :: foldL T K M c l:=by rw [foldL_cons,if_neg h]
      rw [e]
      show foldL T K M p (foldL T K M c l)=_
      rw [foldL_fold h0 l p c hp hc ht2,e]
   exact key b y hy ht
  | cons x a =>
   obtain ⟨pre,q,e1,e2⟩:=foldL_app (T:=T) (K:=K) (M:=M) a x
   have hq : Whole T q:=foldL_whole a x (ha x List.mem_cons_self) (fun r hr=>ha r (List.mem_cons_of_mem _ hr)) q (by rw [e1];simp)
   show foldL T K M x (a ++ foldL T K M y b)=foldL T K M x (a ++ y :: b)
   rw [e2,e2,foldL_fold h0 b q y hq hy ht]
end
end Go.Proofs.Ytfiandejapgkoaa.P

/- schema.Compare tells the order of rows. -/
namespace Go.Proofs.Ytfiandejapgkoaa.P
open Go.RowKit Go.Proofs.YtfiandejapgkoaaW.PrintWords Go.Proofs.YtfiandejapgkoaaW.PrintLast Go.Proofs.YtfiandejapgkoaaW.PrintMore
set_option linter.unusedVariables false
set_option linter.unusedSimpArgs false
theorem scmp_loop (T : List Int) (a b : List XV) (m : Nat) (h1 : m≤T.length) (h2 : m≤a.length) (h3 : m≤b.length) (hm : m≤1000000000) : ∀ (d i : Nat),i + d=m→Ev (fun k=>schema_Compare.l0 k a b (T.take m) m i) (cmpFrom T a b d i)
 | 0,i,hi=>by
  refine Ev.succ ?_
  simp only [schema_Compare.l0]
  exact Ev.neg (by omega) (Ev.now _)
 | d + 1,i,hi=>by
  refine Ev.succ ?_
  simp only [schema_Compare.l0]
  have e : rd (T.take m) i=rd T i:=by rw [rd_lt _ i (by rw [List.length_take];omega),rd_lt T i (by omega),List.getElem_take]
  rw [e]
  have el : (T.take m).length=m:=by rw [List.length_take];omega
  simp (disch:=omega) only [w64]
  unfold cmpFrom
  refine Ev.pos (by omega) (Ev.pos (by omega) (Ev.pos (by omega) (Ev.pos (by omega) (Ev.pos (by omega) (Ev.bind (vcmp_ev _ _ _) ?_)))))
  by_cases h : cmpV (rd T i) (rdV a i) (rdV b i)=0
  ·rw [if_pos h]
   exact Ev.pos h (scmp_loop T a b m h1 h2 h3 hm d (i + 1) (by omega))
  ·rw [if_neg h]
   exact Ev.neg h (Ev.now _)
theorem scmp_ev (T : List Int) (K M G : Int) (a b : List XV) (hT : T.length≤1000000000) : Ev (fun k=>schema_Compare.f k T K M G a b) (cmpRow T K a b):=by
 simp only [schema_Compare.f]
 unfold cmpRow
 obtain ⟨m,hm⟩ : ∃ m,min (min (min K.toNat T.length) a.length) b.length=m:=⟨_,rfl⟩
 have e : mn (mn (mn (mx K 0) (T.length : Int)) (a.length : Int)) (b.length : Int)=(m : Int):=by
  unfold mn mx
  rw [← hm]
  repeat' split
  all_goals omega
 rw [e,hm]
 have el : (T.take m).length=m:=by rw [List.length_take];omega
 refine Ev.pos (by omega) (Ev.pos (by omega) ?_)
 rw [Int.toNat_natCast,el]
 exact scmp_loop T a b m (by omega) (by omega) (by omega) (by omega) m 0 (by omega)
end Go.Proofs.Ytfiandejapgkoaa.P

/- The merge in plain lists: the sources are places (a part's number, how many of its rows are gone). -/
namespace Go.Proofs.Ytfiandejapgkoaa.P
open Go.RowKit Go.Proofs.YtfiandejapgkoaaW.PrintWords Go.Proofs.YtfiandejapgkoaaW.PrintLast Go.Proofs.YtfiandejapgkoaaW.PrintMore
set_option linter.unusedVariables false
abbrev Pl:=Nat × Nat
abbrev z0 : Pl:=(0,0)
section
variable (lt : Pl→Pl→Bool) (len : Nat→Nat)
def stepH (p : List Pl) : List Pl:=p.set 0 ((gt_ z0 p 0).1,(gt_ z0 p 0).2 + 1)
def popH (p : List Pl) : List Pl:=(dn z0 lt (p.length - 1) (p.length - 1) 0 (swp z0 p 0 (p.length - 1))).1.take (p.length - 1)
def fixH (p : List Pl) : List Pl:=(dn z0 lt p.length p.length 0 p).1
def nextH (p : List Pl) : List Pl:=if (gt_ z0 p 0).2 + 1=len (gt_ z0 p 0).1 then popH lt (stepH p) else fixH lt (stepH p)
def lpM : Nat→List Pl→List Pl→List Pl
 | 0,_,out=>out
 | f + 1,p,out=>if p.length=0 then out else lpM f (nextH lt len p) (out ++ [gt_ z0 p 0])
def left1 (s : Pl) : List Pl:=(List.range' s.2 (len s.1 - s.2)).map fun o=>(s.1,o)
def leftP (p : List Pl) : List Pl:=p.flatMap (left1 len)
def Live (s : Pl) : Prop:=s.2 < len s.1
theorem left1_cons (s : Pl) (h : Live len s) : left1 len s=s :: left1 len (s.1,s.2 + 1):=by
 unfold left1 Live at *
 obtain ⟨m,hm⟩ : ∃ m,len s.1 - s.2=m + 1:=⟨len s.1 - s.2 - 1,by omega⟩
 rw [hm,List.range'_succ,List.map_cons,show len s.1 - (s.2 + 1)=m by omega]
theorem left1_nil (s : Pl) (h : s.2 + 1=len s.1) : left1 len (s.1,s.2 + 1)=[]:=by
 unfold left1
 rw [show len s.1 - (s.2 + 1)=0 by omega]
 rfl
theorem stepH_length (p : List Pl) : (stepH p).length=p.length:=by simp [stepH]
theorem flat_perm {p q : List Pl} (h : p.Perm q) : (leftP len p).Perm (leftP len q):=List.Perm.flatMap_right _ h
theorem step_cons (s : Pl) (p : List Pl) : stepH (s :: p)=(s.1,s.2 + 1) :: p:=rfl
theorem nextH_left (p : List Pl) (h0 : p≠[]) (hl : ∀ s ∈ p,Live len s) : (leftP len p).Perm (gt_ z0 p 0 :: leftP len (nextH lt len p)):=by
 cases p with
 | nil=>exact absurd rfl h0
 | cons s p =>
  have hg : gt_ z0 (s :: p) 0=s:=rfl
  rw [hg]
  have e1 : leftP len (s :: p)=s :: leftP len ((s.1,s.2 + 1) :: p):=by
   show left1 len s ++ _=s :: (left1 len _ ++ _)
   rw [left1_cons len s (hl s (by simp))]
   rfl
  rw [e1]
  refine List.Perm.cons _ ?_
  unfold nextH
  rw [hg,step_cons]
  split
  case isTrue h1 =>
   unfold popH
   have hn : ((s.1,s.2 + 1) :: p).length - 1 < ((s.1,s.2 + 1) :: p).length:=by simp
   generalize hq : swp z0 ((s.1,s.2 + 1) :: p) 0 (((s.1,s.2 + 1) :: p).length - 1)=q
   have hql : q.length=p.length + 1:=by rw [← hq,swp_length];rfl
   have hqp : q.Perm ((s.1,s.2 + 1) :: p):=by rw [← hq];exact swp_perm z0 _ _ _ (by simp) hn
   have hlast : gt_ z0 q p.length=(s.1,s.2 + 1):=by
    rw [← hq,gt_swp z0 _ _ _ _ (by simp) hn,if_pos (by simp)]
    rfl
   generalize hd : (dn z0 lt (((s.1,s.2 + 1) :: p).length - 1) (((s.1,s.2 + 1) :: p).length - 1) 0 q).1=r
   have hnp : ((s.1,s.2 + 1) :: p).length - 1=p.length:=by simp
   rw [hnp] at hd ⊢
   have hrp : r.Perm q:=by rw [← hd];exact dn_perm z0 lt _ _ _ _ (by omega)
   have hrd : r.drop p.length=q.drop p.length:=by rw [← hd];exact dn_drop z0 lt _ _ _ _
   have e2 : q.drop p.length=[(s.1,s.2 + 1)]:=by
    rw [List.drop_eq_getElem_cons (by omega),List.drop_of_length_le (by omega)]
    rw [← hlast,gt_lt z0 (by omega)]
   have e3 : r=r.take p.length ++ [(s.1,s.2 + 1)]:=by
    rw [← e2,← hrd,List.take_append_drop]
   have e4 : leftP len [(s.1,s.2 + 1)]=[]:=by
    show left1 len (s.1,s.2 + 1) ++ []=[]
    rw [left1_nil len s h1]
    rfl
   have e5 : (leftP len r).Perm (leftP len ((s.1,s.2 + 1) :: p)):=flat_perm len (hrp.trans hqp)
   have e6 : leftP len r=leftP len (r.take p.length):=by
    conv=>lhs;rw [e3]
    unfold leftP at e4 ⊢
    rw [List.flatMap_append,e4,List.append_nil]
   rw [← e6]
   exact e5.symm
  case isFalse h1 =>
   exact (flat_perm len (dn_perm z0 lt _ _ _ _ (Nat.le_refl _))).symm
theorem next_mem (p : List Pl) (h0 : p≠[]) (hl : ∀ s ∈ p,Live len s) : (nextH lt len p).length≤p.length∧(∀ s ∈ nextH lt len p,Live len s)∧(nextH lt len p).Perm ((if (gt_ z0 p 0).2 + 1=len (gt_ z0 p 0).1 then p.tail else stepH p)):=by
 cases p with
 | nil=>exact absurd rfl h0
 | cons s p =>
  have hg : gt_ z0 (s :: p) 0=s:=rfl
  have key : (nextH lt len (s :: p)).Perm (if (gt_ z0 (s :: p) 0).2 + 1=len (gt_ z0 (s :: p) 0).1 then (s :: p).tail else stepH (s :: p)):=by
   unfold nextH
   rw [hg,step_cons]
   split
   case isTrue h1 =>
    unfold popH
    have hn : ((s.1,s.2 + 1) :: p).length - 1 < ((s.1,s.2 + 1) :: p).length:=by simp
    generalize hq : swp z0 ((s.1,s.2 + 1) :: p) 0 (((s.1,s.2 + 1) :: p).length - 1)=q
    have hql : q.length=p.length + 1:=by rw [← hq,swp_length];rfl
    have hqp : q.Perm ((s.1,s.2 + 1) :: p):=by rw [← hq];exact swp_perm z0 _ _ _ (by simp) hn
    have hlast : gt_ z0 q p.length=(s.1,s.2 + 1):=by
     rw [← hq,gt_swp z0 _ _ _ _ (by simp) hn,if_pos (by simp)]
     rfl
    generalize hd : (dn z0 lt (((s.1,s.2 + 1) :: p).length - 1) (((s.1,s.2 + 1) :: p).length - 1) 0 q).1=r
    have hnp : ((s.1,s.2 + 1) :: p).length - 1=p.length:=by simp
    rw [hnp] at hd ⊢
    have hrp : r.Perm q:=by rw [← hd];exact dn_perm z0 lt _ _ _ _ (by omega)
    have hrd : r.drop p.length=q.drop p.length:=by rw [← hd];exact dn_drop z0 lt _ _ _ _
    have e2 : q.drop p.length=[(s.1,s.2 + 1)]:=by
     rw [List.drop_eq_getElem_cons (by omega),List.drop_of_length_le (by omega)]
     rw [← hlast,gt_lt z0 (by omega)]
    have e3 : r=r.take p.length ++ [(s.1,s.2 + 1)]:=by
     rw [← e2,← hrd,List.take_append_drop]
    have e5 : (r.take p.length ++ [(s.1,s.2 + 1)]).Perm ((s.1,s.2 + 1) :: p):=by rw [← e3];exact hrp.trans hqp
    exact List.Perm.cons_inv (List.perm_append_comm.trans e5)
   case isFalse h1=>exact dn_perm z0 lt _ _ _ _ (Nat.le_refl _)
  refine ⟨?_,fun t ht=>?_,key⟩
  ·rw [key.length_eq]
   split
   ·simp
   ·rw [stepH_length];exact Nat.le_refl _
  ·have h2:=key.mem_iff.mp ht
   rw [hg,step_cons] at h2
   split at h2
   ·exact hl t (List.mem_cons_of_mem _ h2)
   case isFalse h3 =>
    rcases List.mem_cons.mp h2 with rfl|h2
    ·have h4 : s.2 < len s.1:=hl s (by simp)
     show s.2 + 1 < len s.1
     omega
    ·exact hl t (List.mem_cons_of_mem _ h2)
structure MOrd (R : Pl→Pl→Prop) : Prop where
 ok : LtOk lt (Live len)
 lt : ∀ s t,Live len s→Live len t→s.1≠t.1→lt t s=false→R s t
 up : ∀ i o o',o < o'→o' < len i→R (i,o) (i,o')
 tr : ∀ a b c,Live len a→Live len b→Live len c→R a b→R b c→R a c
theorem mem_left1 {s x : Pl} (h : x ∈ left1 len s) : x.1=s.1∧s.2≤x.2∧x.2 < len s.1:=by
 unfold left1 at h
 obtain ⟨o,ho,rfl⟩:=List.mem_map.mp h
 have:=List.mem_range'_1.mp ho
 exact ⟨rfl,this.1,by show o < _;omega⟩
theorem lpM_spec {R : Pl→Pl→Prop} (O : MOrd lt len R) : ∀ (f : Nat) (p out : List Pl),(leftP len p).length≤f→(∀ s ∈ p,Live len s)→(p.map (·.1)).Nodup→HeapFrom z0 lt p.length 0 p→out.Pairwise R→(∀ x ∈ out,Live len x)→(∀ x ∈ out,∀ y ∈ leftP len p,R x y) →
  (lpM lt len f p out).Perm (out ++ leftP len p)∧(lpM lt len f p out).Pairwise R
 | 0,p,out,hf,hl,hd,hh,ho,hv,hx=>by
  have : leftP len p=[]:=List.eq_nil_of_length_eq_zero (by omega)
  rw [this,List.append_nil]
  exact ⟨List.Perm.refl _,ho⟩
 | f + 1,p,out,hf,hl,hd,hh,ho,hv,hx=>by
  unfold lpM
  split
  case isTrue h0 =>
   have : p=[]:=List.eq_nil_of_length_eq_zero h0
   subst this
   show out.Perm (out ++ [])∧_
   rw [List.append_nil]
   exact ⟨List.Perm.refl _,ho⟩
  case isFalse h0 =>
   have hp : p≠[]:=fun e=>h0 (by rw [e];rfl)
   obtain ⟨m1,m2,m3⟩:=next_mem lt len p hp hl
   have hL:=nextH_left lt len p hp hl
   have hs : gt_ z0 p 0 ∈ p:=gt_mem z0 (by omega)
   have hsl:=hl _ hs
   have hroot : ∀ t ∈ p,t=gt_ z0 p 0 ∨ (t.1≠(gt_ z0 p 0).1∧lt t (gt_ z0 p 0)=false):=by
    intro t ht
    obtain ⟨j,hj,rfl⟩:=List.getElem_of_mem ht
    by_cases j0 : j=0
    ·subst j0
     exact .inl (gt_lt z0 hj).symm
    ·right
     refine ⟨fun e=>j0 ?_,?_⟩
     ·rw [gt_lt z0 (by omega)] at e
      have h1 : (p.map (·.1))[j]'(by simpa using hj)=(p.map (·.1))[0]'(by simp;omega):=by simpa using e
      exact (List.getElem_inj hd).mp h1
     ·have:=heap_root z0 lt p.length (Live len) O.ok p (Nat.le_refl _) hl hh j j (Nat.le_refl _) (by omega) hj
      rwa [gt_lt z0 hj] at this
   have hfirst : ∀ y ∈ leftP len (nextH lt len p),R (gt_ z0 p 0) y:=by
    intro y hy
    have hy2 : y ∈ leftP len p:=hL.mem_iff.mpr (List.mem_cons_of_mem _ hy)
    obtain ⟨t,ht,hyt⟩:=List.mem_flatMap.mp hy
    obtain ⟨a1,a2,a3⟩:=mem_left1 len hyt
    have hyl : Live len y:=by unfold Live;rw [a1];exact a3
    have ht2:=m3.mem_iff.mp ht
    have hcase : (t ∈ p∧t.1≠(gt_ z0 p 0).1) ∨ t=((gt_ z0 p 0).1,(gt_ z0 p 0).2 + 1):=by
     obtain ⟨s,q,rfl⟩ : ∃ s q,p=s :: q:=by cases p with|nil=>exact absurd rfl hp|cons s q=>exact ⟨s,q,rfl⟩
     have hnd:=List.nodup_cons.mp (by rw [List.map_cons] at hd;exact hd)
     split at ht2
     ·exact .inl ⟨List.mem_cons_of_mem _ ht2,fun e=>hnd.1 (by rw [show s.1=t.1 from e.symm];exact List.mem_map_of_mem ht2)⟩
     ·rw [step_cons] at ht2
      rcases List.mem_cons.mp ht2 with h|h
      ·exact .inr h
      ·exact .inl ⟨List.mem_cons_of_mem _ h,fun e=>hnd.1 (by rw [show s.1=t.1 from e.symm];exact List.mem_map_of_mem h)⟩
    rcases hcase with ⟨h1,h2⟩|h1
    ·rcases hroot t h1 with h3|⟨h3,h4⟩
     ·exact absurd (by rw [h3]) h2
     ·have r1:=O.lt _ _ hsl (hl t h1) (fun e=>h2 e.symm) h4
      by_cases he : y.2=t.2
      ·have : y=t:=Prod.ext a1 he
       rw [this];exact r1
      ·have r2:=O.up t.1 t.2 y.2 (by omega) a3
       have : y=(t.1,y.2):=Prod.ext a1 rfl
       rw [← this] at r2
       exact O.tr _ _ _ hsl (hl t h1) hyl r1 r2
    ·rw [h1] at a1 a2 a3
     have r2:=O.up (gt_ z0 p 0).1 (gt_ z0 p 0).2 y.2 (by have : (gt_ z0 p 0).2 + 1≤y.2:=a2;omega) a3
     have : y=((gt_ z0 p 0).1,y.2):=Prod.ext a1 rfl
     rw [← this] at r2
     exact r2
   have hd2 : ((nextH lt len p).map (·.1)).Nodup:=by
    refine ((m3.map (·.1)).nodup_iff).mpr ?_
    obtain ⟨s,q,rfl⟩ : ∃ s q,p=s :: q:=by cases p with|nil=>exact absurd rfl hp|cons s q=>exact ⟨s,q,rfl⟩
    split
    ·exact (List.nodup_cons.mp (by rw [List.map_cons] at hd;exact hd)).2
    ·exact hd
   have hh2 : HeapFrom z0 lt (nextH lt len p).length 0 (nextH lt len p):=by
    unfold nextH
    have hU : ∀ q : List Pl,q.Perm (stepH p)→True:=fun _ _=>trivial
    split
    case isTrue h1 =>
     unfold popH
     have hn : p.length - 1 < (stepH p).length:=by rw [stepH_length];omega
     rw [stepH_length]
     generalize hq : swp z0 (stepH p) 0 (p.length - 1)=q
     have hql : q.length=p.length:=by rw [← hq,swp_length,stepH_length]
     have hrl : (dn z0 lt (p.length - 1) (p.length - 1) 0 q).1.length=p.length:=by rw [dn_length z0 lt _ _ _ _ (by omega)];exact hql
     have hgq : ∀ j,j < p.length - 1→gt_ z0 q j=gt_ z0 p (if j=0 then p.length - 1 else j):=by
      intro j hj
      rw [← hq,gt_swp z0 _ _ _ _ (by rw [stepH_length];omega) hn,if_neg (by omega)]
      have hset : ∀ i,i≠0→gt_ z0 (stepH p) i=gt_ z0 p i:=by
       intro i hi
       unfold stepH gt_
       simp only [List.getD_eq_getElem?_getD,List.getElem?_set]
       rw [if_neg (fun e=>hi e.symm)]
      by_cases j0 : j=0
      ·rw [if_pos j0,if_pos j0,hset _ (by omega)]
      ·rw [if_neg j0,if_neg j0,hset _ j0]
     have hUq : ∀ x ∈ q.take (p.length - 1),Live len x:=by
      intro x hx'
      obtain ⟨j,hj,rfl⟩:=List.getElem_of_mem hx'
      have hj' : j < p.length - 1:=by rw [List.length_take] at hj;omega
      rw [List.getElem_take]
      have:=hgq j hj'
      rw [gt_lt z0 (by omega)] at this
      rw [this]
      exact hl _ (gt_mem z0 (by split <;> omega))
     have hheap:=dn_heap z0 lt (p.length - 1) (Live len) O.ok (p.length - 1) 0 0 (q.take (p.length - 1)) (by rw [List.length_take];omega) hUq (Nat.le_refl _) (by omega) (fun j h0' hj hl' hne=>by
       rw [show ∀ i,i < p.length - 1→gt_ z0 (q.take (p.length - 1)) i=gt_ z0 q i from fun i hi=>by rw [gt_lt z0 (by rw [List.length_take];omega),gt_lt z0 (by omega),List.getElem_take],hgq j hj,if_neg (by omega)]
       ·rw [show gt_ z0 (q.take (p.length - 1)) ((j - 1) / 2)=gt_ z0 q ((j - 1) / 2) from by rw [gt_lt z0 (by rw [List.length_take];omega),gt_lt z0 (by omega),List.getElem_take],hgq _ (by omega),if_neg hne]
        exact hh j h0' (by omega) (Nat.zero_le _)
       ·exact hj) (fun h=>by omega)
     have hdt : ∀ (f i : Nat) (q : List Pl) (n : Nat),n≤q.length→(dn z0 lt n f i (q.take n)).1=(dn z0 lt n f i q).1.take n:=by
      intro f
      induction f with
      | zero=>intro i q n hn;rfl
      | succ f ih =>
       intro i q n hn
       have hgt : ∀ j,j < n→gt_ z0 (q.take n) j=gt_ z0 q j:=fun j hj=>by rw [gt_lt z0 (by rw [List.length_take];omega),gt_lt z0 (by omega),List.getElem_take]
       unfold dn
       by_cases h1 : 2 * i + 1 < n
       ·rw [if_pos h1,if_pos h1]
        have hpk : pick z0 lt n i (q.take n)=pick z0 lt n i q:=by
         unfold pick
         by_cases h2 : 2 * i + 2 < n
         ·rw [hgt _ h2,hgt _ h1]
         ·rw [if_neg (fun h=>h2 h.1),if_neg (fun h=>h2 h.1)]
        have hpi:=pick_in z0 lt n h1 q
        rw [hpk,hgt _ hpi.2,hgt i (by omega)]
        split
        ·have : swp z0 (q.take n) i (pick z0 lt n i q)=(swp z0 q i (pick z0 lt n i q)).take n:=by
          unfold swp
          rw [hgt _ hpi.2,hgt i (by omega),List.take_set,List.take_set]
         rw [this,ih _ _ _ (by rw [swp_length];exact hn)]
        ·rfl
       ·rw [if_neg h1,if_neg h1]
     rw [hdt _ _ _ _ (by omega)] at hheap
     rw [show ((dn z0 lt (p.length - 1) (p.length - 1) 0 q).1.take (p.length - 1)).length=p.length - 1 by rw [List.length_take];omega]
     exact hheap
    case isFalse h1 =>
     unfold fixH
     rw [dn_length z0 lt _ _ _ _ (Nat.le_refl _),stepH_length]
     have hset : ∀ i,i≠0→gt_ z0 (stepH p) i=gt_ z0 p i:=by
      intro i hi
      unfold stepH gt_
      simp only [List.getD_eq_getElem?_getD,List.getElem?_set]
      rw [if_neg (fun e=>hi e.symm)]
     have hUs : ∀ x ∈ stepH p,Live len x:=by
      intro x hx'
      obtain ⟨s,q,rfl⟩ : ∃ s q,p=s :: q:=by cases p with|nil=>exact absurd rfl hp|cons s q=>exact ⟨s,q,rfl⟩
      rw [step_cons] at hx'
      rcases List.mem_cons.mp hx' with rfl|h
      ·have h2 : s.2 < len s.1:=hl s (by simp)
       have h3 : ¬ s.2 + 1=len s.1:=h1
       show s.2 + 1 < len s.1
       omega
      ·exact hl x (List.mem_cons_of_mem _ h)
     exact dn_heap z0 lt p.length (Live len) O.ok p.length 0 0 (stepH p) (by rw [stepH_length];exact Nat.le_refl _) hUs (Nat.le_refl _) (by omega) (fun j h0' hj hl' hne=>by
      rw [hset j (by omega),hset _ hne]
      exact hh j h0' hj (Nat.zero_le _)) (fun h=>by omega)
   have hall : ∀ y,y=gt_ z0 p 0 ∨ y ∈ leftP len (nextH lt len p)→y ∈ leftP len p:=fun y hy=>hL.mem_iff.mpr (List.mem_cons.mpr hy)
   obtain ⟨g1,g2⟩:=lpM_spec O f (nextH lt len p) (out ++ [gt_ z0 p 0]) (by have:=hL.length_eq;rw [List.length_cons] at this;omega) m2 hd2 hh2
    (List.pairwise_append.mpr ⟨ho,List.pairwise_singleton _ _,fun x hx' y hy=>by
     rw [List.mem_singleton.mp hy]
     exact hx x hx' _ (hall _ (.inl rfl))⟩)
    (fun x hx'=>by
     rcases List.mem_append.mp hx' with h|h
     ·exact hv x h
     ·rw [List.mem_singleton.mp h];exact hsl)
    (fun x hx' y hy=>by
     rcases List.mem_append.mp hx' with h|h
     ·exact hx x h y (hall y (.inr hy))
     ·rw [List.mem_singleton.mp h];exact hfirst y hy)
   refine ⟨g1.trans ?_,g2⟩
   rw [List.append_assoc]
   exact List.Perm.append_left _ hL.symm
end
def rowOf (l : List (List (List XV))) (s : Pl) : List XV:=(l.getD s.1 []).getD s.2 []
def lenOf (l : List (List (List XV))) (i : Nat) : Nat:=(l.getD i []).length
def lessM (T : List Int) (a : Int) (l : List (List (List XV))) (s t : Pl) : Bool:=decide ((if cmpRow T a (rowOf l s) (rowOf l t)≠0 then cmpRow T a (rowOf l s) (rowOf l t) else if s.1 < t.1 then -1 else if t.1 < s.1 then 1 else 0) < 0)
def srcs (l : List (List (List XV))) (i : Nat) : List Pl:=((List.range i).filter fun i=>decide (0 < lenOf l i)).map fun i=>(i,0)
def mergeP (T : List Int) (a : Int) (l : List (List (List XV))) : List Pl :=
 lpM (lessM T a l) (lenOf l) l.flatten.length (initH z0 (lessM T a l) (srcs l l.length).length ((srcs l l.length).length / 2) (srcs l l.length)) []
def merge_Rows.f (k : Nat) (T : List Int) (a b d : Int) (l : List (List (List XV))) : Option (List (List XV)):=if T.length≤1000000000∧l.length≤1000000000∧l.flatten.length≤1000000000 then some ((mergeP T a l).map (rowOf l)) else none
theorem merge_Rows.mono : ∀ T a b d l k,LeO (merge_Rows.f k T a b d l) (merge_Rows.f (k + 1) T a b d l):=fun _ _ _ _ _ _=>LeO.refl _
end Go.Proofs.Ytfiandejapgkoaa.P

/- The sources in memory: *sources' block, the rows' block of sources, and what Len and Swap do to them. -/
namespace Go.Proofs.Ytfiandejapgkoaa.P
open Go.RowKit Go.Proofs.YtfiandejapgkoaaW.PrintWords Go.Proofs.YtfiandejapgkoaaW.PrintLast Go.Proofs.YtfiandejapgkoaaW.PrintMore
set_option linter.unusedVariables false
set_option linter.unusedSimpArgs false
def srcC (V : Nat→Nat→Value) (s : Pl) : List Value:=[V s.1 s.2,.int .i64 (s.1 : Nat)]
def cellsM (V : Nat→Nat→Value) (p : List Pl) : List Value:=p.flatMap (srcC V)
theorem cellsM_length (V : Nat→Nat→Value) (p : List Pl) : (cellsM V p).length=2 * p.length:=by
 induction p with
 | nil=>rfl
 | cons s p ih =>
  have : (cellsM V (s :: p)).length=(cellsM V p).length + 2:=by simp [cellsM,srcC]
  rw [this,ih,List.length_cons];omega
theorem cellsM_0 (V : Nat→Nat→Value) : ∀ (p : List Pl) (i : Nat),i < p.length→(cellsM V p)[i * 2]?=some (V (gt_ z0 p i).1 (gt_ z0 p i).2)
 | [],i,h=>absurd h (by simp)
 | s :: p,0,h=>rfl
 | s :: p,i + 1,h=>by
  have:=cellsM_0 V p i (by simpa using h)
  rw [show (i + 1) * 2=i * 2 + 2 by omega]
  exact this
theorem cellsM_1 (V : Nat→Nat→Value) : ∀ (p : List Pl) (i : Nat),i < p.length→(cellsM V p)[i * 2 + 1]?=some (.int .i64 ((gt_ z0 p i).1 : Nat))
 | [],i,h=>absurd h (by simp)
 | s :: p,0,h=>rfl
 | s :: p,i + 1,h=>by
  have:=cellsM_1 V p i (by simpa using h)
  rw [show (i + 1) * 2 + 1=i * 2 + 1 + 2 by omega]
  exact this
theorem cellsM_set (V : Nat→Nat→Value) (s : Pl) : ∀ (p : List Pl) (i : Nat),i < p.length→((cellsM V p).set (i * 2) (V s.1 s.2)).set (i * 2 + 1) (.int .i64 (s.1 : Nat))=cellsM V (p.set i s)
 | [],i,h=>absurd h (by simp)
 | t :: p,0,h=>rfl
 | t :: p,i + 1,h=>by
  have:=cellsM_set V s p i (by simpa using h)
  rw [show (i + 1) * 2 + 1=i * 2 + 1 + 1 + 1 by omega,show (i + 1) * 2=i * 2 + 1 + 1 by omega]
  show V t.1 t.2 :: .int .i64 (t.1 : Nat) :: ((cellsM V p).set (i * 2) _).set (i * 2 + 1) _=_
  rw [this]
  rfl
structure MW (w0 : World) (gq go cap : Nat) (ql A : Option Addr) (n c : Nat) (a b d : Int) (V : Nat→Nat→Value) (W : World) (p : List Pl) : Prop where
 q : W.heap[gq]?=some (.cells #[.slice A n c,.int .i64 a,.int .i64 b,.int .i64 d,.slice ql p.length cap] 52 (0,0))
 r : p≠[]→ql=some ⟨go,0,none⟩∧p.length≤cap∧∃ junk,W.heap[go]?=some (.cells (cellsM V p ++ junk).toArray 54 (0,0))
 b : Below w0.heap.size w0 W
 gq0 : w0.heap.size≤gq
 go0 : w0.heap.size≤go
section
variable {w0 W W' : World} {gq go cap : Nat} {ql A : Option Addr} {n c : Nat} {a b d : Int} {V : Nat→Nat→Value} {p : List Pl}
theorem MW.step (h : MW w0 gq go cap ql A n c a b d V W p) (hb : Below W.heap.size W W') : MW w0 gq go cap ql A n c a b d V W' p :=
 ⟨blk_below h.q hb,fun hp=>by obtain ⟨h1,h2,j,h3⟩:=h.r hp;exact ⟨h1,h2,j,blk_below h3 hb⟩,below_step h.b hb,h.gq0,h.go0⟩
theorem MW.drew (h : MW w0 gq go cap ql A n c a b d V W p) : MW w0 gq go cap ql A n c a b d V W.drew p:=h.step (below_drew1 (Below.refl _ _))
theorem ne_of_lt {i : Nat} (hi : i < p.length) : p≠[]:=fun e=>by rw [e] at hi;exact absurd hi (by simp)
theorem MW.c0 (h : MW w0 gq go cap ql A n c a b d V W p) (i : Nat) (hi : i < p.length) : W.cell? ⟨go,i * 2,none⟩=some (V (gt_ z0 p i).1 (gt_ z0 p i).2):=by
 obtain ⟨h1,h2,j,h3⟩:=h.r (ne_of_lt hi)
 rw [blk_cell h3,List.getElem?_toArray,List.getElem?_append_left (by rw [cellsM_length];omega),cellsM_0 V p i hi]
theorem MW.c1 (h : MW w0 gq go cap ql A n c a b d V W p) (i : Nat) (hi : i < p.length) : W.cell? ⟨go,i * 2 + 1,none⟩=some (.int .i64 ((gt_ z0 p i).1 : Nat)):=by
 obtain ⟨h1,h2,j,h3⟩:=h.r (ne_of_lt hi)
 rw [blk_cell h3,List.getElem?_toArray,List.getElem?_append_left (by rw [cellsM_length];omega),cellsM_1 V p i hi]
theorem MW.set (h : MW w0 gq go cap ql A n c a b d V W p) (i : Nat) (hi : i < p.length) (s : Pl) : MW w0 gq go cap ql A n c a b d V ((W.setCell ⟨go,i * 2,none⟩ (V s.1 s.2)).setCell ⟨go,i * 2 + 1,none⟩ (.int .i64 (s.1 : Nat))) (p.set i s):=by
 obtain ⟨h1,h2,j,h3⟩:=h.r (ne_of_lt hi)
 have hne : gq≠go:=blk_ne h.q h3 (by decide)
 refine ⟨?_,fun _=>⟨h1,by rw [List.length_set];exact h2,j,?_⟩,(h.b.setCell h.go0 _).setCell h.go0 _,h.gq0,h.go0⟩
 ·rw [List.length_set]
  exact blk_far (blk_far h.q hne _) hne _
 ·have h4:=blk_set (blk_set h3 (i * 2) (V s.1 s.2)) (i * 2 + 1) (.int .i64 (s.1 : Nat))
  rw [h4,← cellsM_set V s p i hi]
  simp only [List.setIfInBounds_toArray]
  rw [List.set_append_left _ _ (by rw [cellsM_length];omega),List.set_append_left _ _ (by rw [List.length_set,cellsM_length];omega)]
theorem MW.kept_set (h : MW w0 gq go cap ql A n c a b d V W p) (i j : Nat) (u v : Value) : Kept W ((W.setCell ⟨go,i,none⟩ u).setCell ⟨go,j,none⟩ v) (fun k=>k=gq ∨ k=go) :=
 ((Kept.refl W _).setCell (.inl (.inr rfl)) u).setCell (.inl (.inr rfl)) v
set_option maxHeartbeats 4000000 in
set_option maxRecDepth 100000 in
theorem len_any (h : MW w0 gq go cap ql A n c a b d V W p) :
  Calls Try.prog 20 #[.pointer (some ⟨gq,0,none⟩)] W fun e w'=>e=.returned (.int .i64 (p.length : Nat))∧Below W.heap.size W w':=by
 have hc : W.cell? ⟨gq,4,none⟩=some (.slice ql p.length cap):=(blk_cell h.q 4).trans rfl
 clear h
 go_enter Try.func20,Try.ntmps20
 go_wp2
 go_ret
 exact ⟨rfl,by repeat (first|exact Below.refl _ _|apply below_drew1)⟩
set_option maxHeartbeats 4000000 in
set_option maxRecDepth 100000 in
theorem swap_any (h : MW w0 gq go cap ql A n c a b d V W p) (hV : ∀ i o,∃ A n c,V i o=.slice A n c) (i j : Nat) (hi : i < p.length) (hj : j < p.length) :
  Calls Try.prog 70 #[.pointer (some ⟨gq,0,none⟩),.int .i64 (i : Nat),.int .i64 (j : Nat)] W fun e w'=>e=.returned (.tuple #[])∧MW w0 gq go cap ql A n c a b d V w' (swp z0 p i j)∧Kept W w' (fun k=>k=gq ∨ k=go):=by
 have mixed : Try.prog.follows Departure.mixedOrders=true:=rfl
 have hu54:=Try.underlying54
 obtain ⟨rfl,hcap,_⟩:=h.r (ne_of_lt hi)
 obtain ⟨Ax,nx,cx,hvx⟩:=hV (gt_ z0 p i).1 (gt_ z0 p i).2
 obtain ⟨Ay,ny,cy,hvy⟩:=hV (gt_ z0 p j).1 (gt_ z0 p j).2
 have hc : W.cell? ⟨gq,4,none⟩=some (.slice (some ⟨go,0,none⟩) p.length cap):=(blk_cell h.q 4).trans rfl
 have hx0 : W.cell? ⟨go,i * 2,none⟩=some (.slice Ax nx cx):=by rw [h.c0 i hi,hvx]
 have hx1:=h.c1 i hi
 have hy0 : W.cell? ⟨go,j * 2,none⟩=some (.slice Ay ny cy):=by rw [h.c0 j hj,hvy]
 have hy1:=h.c1 j hj
 obtain ⟨_,_,_,hblk⟩:=h.r (ne_of_lt hi)
 have hf0:=blk_frozen hblk (i * 2)
 have hf1:=blk_frozen hblk (i * 2 + 1)
 have hf2:=blk_frozen hblk (j * 2)
 have hf3:=blk_frozen hblk (j * 2 + 1)
 clear hblk
 have q0 : (0≤(i : Int))=True:=eq_true (by omega)
 have q1 : ((i : Int) < (p.length : Int))=True:=eq_true (by omega)
 have q2 : (0≤(j : Int))=True:=eq_true (by omega)
 have q3 : ((j : Int) < (p.length : Int))=True:=eq_true (by omega)
 have h1:=h.set i hi (gt_ z0 p j)
 rw [hvy] at h1
 have hj1 : j < (p.set i (gt_ z0 p j)).length:=by rw [List.length_set];exact hj
 obtain ⟨u0,hz0⟩ : ∃ u,((W.setCell ⟨go,i * 2,none⟩ (.slice Ay ny cy)).setCell ⟨go,i * 2 + 1,none⟩ (.int .i64 ((gt_ z0 p j).1 : Nat))).cell? ⟨go,j * 2,none⟩=some u:=⟨_,h1.c0 j hj1⟩
 obtain ⟨u1,hz1⟩ : ∃ u,((W.setCell ⟨go,i * 2,none⟩ (.slice Ay ny cy)).setCell ⟨go,i * 2 + 1,none⟩ (.int .i64 ((gt_ z0 p j).1 : Nat))).cell? ⟨go,j * 2 + 1,none⟩=some u:=⟨_,h1.c1 j hj1⟩
 obtain ⟨_,_,_,hblk⟩:=h1.r (ne_of_lt hj1)
 have hf4:=blk_frozen hblk (j * 2)
 have hf5:=blk_frozen hblk (j * 2 + 1)
 clear hblk
 have h2:=h1.set j hj1 (gt_ z0 p i)
 rw [hvx] at h2
 have H:=Aside0.mk (And.intro h2 (((h.kept_set (i * 2) (i * 2 + 1) (.slice Ay ny cy) (.int .i64 ((gt_ z0 p j).1 : Nat))).setCell (.inl (.inr rfl)) (.slice Ax nx cx) : Kept W (((W.setCell ⟨go,i * 2,none⟩ (.slice Ay ny cy)).setCell ⟨go,i * 2 + 1,none⟩ (.int .i64 ((gt_ z0 p j).1 : Nat))).setCell ⟨go,j * 2,none⟩ (.slice Ax nx cx)) (fun k=>k=gq ∨ k=go)).setCell (p:=⟨go,j * 2 + 1,none⟩) (.inl (.inr rfl)) (.int .i64 ((gt_ z0 p i).1 : Nat))))
 clear h h1 h2 hvx hvy hj1 hi hj
 go_enter Try.func70,Try.ntmps70
 go_wp2_with fail
 go_big_region_o
 go_end0
 exact ⟨rfl,H.out.1.drew,H.out.2.drew⟩
end
end Go.Proofs.Ytfiandejapgkoaa.P

/- The merge of parts that are in order is the document's sort of all rows. -/
namespace Go.Proofs.Ytfiandejapgkoaa.P
open Go.RowKit Go.Proofs.YtfiandejapgkoaaW.PrintWords Go.Proofs.YtfiandejapgkoaaW.PrintLast
set_option linter.unusedVariables false
section
variable (T : List Int) (K : Int) (l : List (List (List XV)))
def st (l : List (List (List XV))) (i : Nat) : Nat:=(l.take i).flatten.length
def gN (l : List (List (List XV))) (s : Pl) : Nat:=st l s.1 + s.2
theorem lenOf_out {l : List (List (List XV))} {i : Nat} (h : ¬ i < l.length) : lenOf l i=0:=by
 unfold lenOf
 simp [List.getD,h]
theorem live_lt {l : List (List (List XV))} {s : Pl} (h : Live (lenOf l) s) : s.1 < l.length:=Classical.byContradiction fun hn=>by
 have h2 : s.2 < lenOf l s.1:=h
 rw [lenOf_out hn] at h2
 omega
theorem lenOf_in {l : List (List (List XV))} {i : Nat} (h : i < l.length) : lenOf l i=l[i].length:=by
 unfold lenOf
 simp [List.getD,h]
theorem st_succ (l : List (List (List XV))) (i : Nat) : st l (i + 1)=st l i + lenOf l i:=by
 unfold st
 by_cases h : i < l.length
 ·rw [List.take_succ_eq_append_getElem h,List.flatten_append,List.length_append,lenOf_in h]
  simp
 ·rw [lenOf_out h,List.take_of_length_le (by omega),List.take_of_length_le (by omega)]
  rfl
theorem st_mono (l : List (List (List XV))) : ∀ {i j : Nat},i≤j→st l i≤st l j
 | i,0,h=>by rw [show i=0 by omega];exact Nat.le_refl _
 | i,j + 1,h=>by
  by_cases e : i=j + 1
  ·rw [e];exact Nat.le_refl _
  ·have:=st_mono l (i:=i) (j:=j) (by omega)
   rw [st_succ]
   omega
theorem st_all (l : List (List (List XV))) : st l l.length=l.flatten.length:=by unfold st;rw [List.take_length]
theorem gN_lt {l : List (List (List XV))} {s : Pl} (h : Live (lenOf l) s) : gN l s < l.flatten.length:=by
 have h1:=st_mono l (i:=s.1 + 1) (j:=l.length) (by have:=live_lt h;omega)
 rw [st_succ,st_all] at h1
 have h2 : s.2 < lenOf l s.1:=h
 unfold gN
 omega
theorem gN_row {l : List (List (List XV))} {s : Pl} (h : Live (lenOf l) s) : rdR l.flatten (gN l s : Nat)=rowOf l s:=by
 have hi:=live_lt h
 have h2 : s.2 < lenOf l s.1:=h
 rw [lenOf_in hi] at h2
 rw [show rdR l.flatten (gN l s : Nat)=l.flatten[gN l s]'(gN_lt h) from rdR_lt _ _ (gN_lt h)]
 have e1 : l.flatten=(l.take s.1).flatten ++ (l[s.1] ++ (l.drop (s.1 + 1)).flatten):=by
  conv=>lhs;rw [← List.take_append_drop s.1 l]
  rw [List.flatten_append,List.drop_eq_getElem_cons hi,List.flatten_cons]
 have e2 : l.flatten[gN l s]?=some (l[s.1][s.2]):=by
  rw [e1]
  unfold gN st
  rw [List.getElem?_append_right (by omega),Nat.add_sub_cancel_left,List.getElem?_append_left h2,List.getElem?_eq_getElem h2]
 have e3 : rowOf l s=l[s.1][s.2]:=by
  unfold rowOf
  simp [List.getD,hi,h2]
 rw [e3]
 exact (List.getElem?_eq_some_iff.1 e2).2
theorem gN_ord {l : List (List (List XV))} {s t : Pl} (hs : Live (lenOf l) s) (ht : Live (lenOf l) t) (h : s.1 < t.1) : gN l s < gN l t:=by
 have h1:=st_mono l (i:=s.1 + 1) (j:=t.1) h
 rw [st_succ] at h1
 have h2 : s.2 < lenOf l s.1:=hs
 unfold gN
 omega
def RM (s t : Pl) : Prop:=RSn T K l.flatten (gN l s) (gN l t)
theorem RM_iff {s t : Pl} (hs : Live (lenOf l) s) (ht : Live (lenOf l) t) : RM T K l s t ↔ (cmpRow T K (rowOf l s) (rowOf l t) < 0 ∨ (cmpRow T K (rowOf l s) (rowOf l t)=0∧gN l s < gN l t)):=by
 unfold RM RSn CFn
 rw [gN_row hs,gN_row ht]
theorem less_iff (s t : Pl) : lessM T K l s t=true ↔ (cmpRow T K (rowOf l s) (rowOf l t) < 0 ∨ (cmpRow T K (rowOf l s) (rowOf l t)=0∧s.1 < t.1)):=by
 unfold lessM
 rw [decide_eq_true_iff]
 by_cases h : cmpRow T K (rowOf l s) (rowOf l t)=0
 ·rw [if_neg (fun q=>q h)]
  by_cases h1 : s.1 < t.1
  ·rw [if_pos h1];omega
  ·rw [if_neg h1]
   by_cases h2 : t.1 < s.1
   ·rw [if_pos h2];omega
   ·rw [if_neg h2];omega
 ·rw [if_pos h];omega
theorem less_false (s t : Pl) : lessM T K l t s=false ↔ (cmpRow T K (rowOf l s) (rowOf l t) < 0 ∨ (cmpRow T K (rowOf l s) (rowOf l t)=0∧s.1≤t.1)):=by
 have h1:=less_iff T K l t s
 have h2:=cmpRow_anti T K (rowOf l s) (rowOf l t)
 constructor
 ·intro h
  rw [h] at h1
  have h3 : ¬ (cmpRow T K (rowOf l t) (rowOf l s) < 0 ∨ (cmpRow T K (rowOf l t) (rowOf l s)=0∧t.1 < s.1)):=fun q=>by have h9:=h1.mpr q;simp at h9
  by_cases h4 : cmpRow T K (rowOf l s) (rowOf l t) < 0
  ·exact .inl h4
  ·refine .inr ?_
   by_cases h5 : cmpRow T K (rowOf l s) (rowOf l t)=0
   ·exact ⟨h5,Classical.byContradiction fun h6=>h3 (.inr ⟨by omega,by omega⟩)⟩
   ·exact absurd (.inl (by omega)) h3
 ·intro h
  rw [Bool.eq_false_iff]
  intro h3
  have:=h1.mp h3
  omega
theorem all_full {l : List (List (List XV))} (hF : ∀ p ∈ l,∀ r ∈ p,Full T K r) {s : Pl} (h : Live (lenOf l) s) : Full T K (rowOf l s):=by
 have hi:=live_lt h
 have h2 : s.2 < lenOf l s.1:=h
 rw [lenOf_in hi] at h2
 have e3 : rowOf l s=l[s.1][s.2]:=by
  unfold rowOf
  simp [List.getD,hi,h2]
 rw [e3]
 exact hF _ (List.getElem_mem hi) _ (List.getElem_mem h2)
theorem merge_ord (hF : ∀ p ∈ l,∀ r ∈ p,Full T K r) (hO : ∀ p ∈ l,InOrd T K p) : MOrd (lessM T K l) (lenOf l) (RM T K l):=by
 have hFF : ∀ r ∈ l.flatten,Full T K r:=fun r hr=>by
  obtain ⟨p,hp,hr⟩:=List.mem_flatten.mp hr
  exact hF p hp r hr
 have tr:=fun {x y z : Pl} (hx : Live (lenOf l) x) (hy : Live (lenOf l) y) (hz : Live (lenOf l) z)=>cmpRow_tr T K (all_full T K hF hx).ok (all_full T K hF hy).ok (all_full T K hF hz).ok (all_full T K hF hy).key
 refine ⟨⟨fun s t hs ht h=>?_,fun x y z hx hy hz h1 h2=>?_⟩,fun s t hs ht hne h=>?_,fun i o o' ho hl=>?_,fun x y z hx hy hz h1 h2=>?_⟩
 ·rw [less_false]
  have:=(less_iff T K l s t).mp h
  omega
 ·rw [less_false] at h1 h2 ⊢
  have a1:=cmpRow_anti T K (rowOf l x) (rowOf l y)
  have a2:=cmpRow_anti T K (rowOf l y) (rowOf l z)
  have a3:=cmpRow_anti T K (rowOf l x) (rowOf l z)
  have t1:=tr hx hy hz
  have t2:=tr hz hx hy
  have t3:=tr hy hz hx
  omega
 ·rw [less_false] at h
  rw [RM_iff T K l hs ht]
  rcases h with h|⟨h,h2⟩
  ·exact .inl h
  ·exact .inr ⟨h,gN_ord hs ht (by omega)⟩
 ·have hs : Live (lenOf l) (i,o):=by show o < lenOf l i;omega
  have ht : Live (lenOf l) (i,o'):=hl
  rw [RM_iff T K l hs ht]
  have hi:=live_lt ht
  have hi' : i < l.length:=hi
  have hle : cmpRow T K (rowOf l (i,o)) (rowOf l (i,o'))≤0:=by
   have h1:=(hO l[i] (List.getElem_mem hi')).at (i:=o) (j:=o') (by omega) (by rw [← lenOf_in hi'];exact hl)
   have e : l.getD i []=l[i]:=by simp [List.getD,hi']
   rw [← e] at h1
   exact h1
  have hg : gN l (i,o) < gN l (i,o'):=by unfold gN;show st l i + o < st l i + o';omega
  omega
 ·exact (ord_O T K l.flatten hFF).tr _ _ _ (gN_lt hx) (gN_lt hy) (gN_lt hz) h1 h2
theorem srcs_map (i : Nat) : (srcs l i).map (·.1)=(List.range i).filter fun i=>decide (0 < lenOf l i):=by
 unfold srcs
 rw [List.map_map]
 exact List.map_id'' (fun _=>rfl) _
theorem srcs_nodup (i : Nat) : ((srcs l i).map (·.1)).Nodup:=by
 rw [srcs_map]
 exact List.nodup_range.filter _
theorem srcs_next (i : Nat) : srcs l (i + 1)=if 0 < lenOf l i then srcs l i ++ [(i,0)] else srcs l i:=by
 unfold srcs
 rw [List.range_succ,List.filter_append,List.map_append]
 by_cases h : 0 < lenOf l i
 ·simp [h]
 ·simp [h]
theorem srcs_alive (i : Nat) : ∀ s ∈ srcs l i,Live (lenOf l) s:=by
 intro s hs
 unfold srcs at hs
 obtain ⟨k,hk,rfl⟩:=List.mem_map.mp hs
 simpa [Live] using (List.mem_filter.mp hk).2
theorem srcs_nums : ∀ i,(leftP (lenOf l) (srcs l i)).map (gN l)=List.range (st l i)
 | 0=>by simp [srcs,leftP,st]
 | i + 1=>by
  have ih:=srcs_nums i
  rw [srcs_next,st_succ]
  split
  case isTrue h =>
   have e : leftP (lenOf l) (srcs l i ++ [(i,0)])=leftP (lenOf l) (srcs l i) ++ left1 (lenOf l) (i,0):=by simp [leftP]
   rw [e,List.map_append,ih]
   have e2 : (left1 (lenOf l) (i,0)).map (gN l)=List.range' (st l i) (lenOf l i):=by
    unfold left1
    rw [List.map_map,Nat.sub_zero]
    have e3 : (gN l ∘ fun o=>(((i,0) : Pl).1,o))=fun o=>st l i + o:=rfl
    rw [e3]
    have:=List.map_add_range' (a:=st l i) 0 (lenOf l i) 1
    rw [Nat.add_zero] at this
    exact this
   rw [e2,List.range_eq_range',List.range_eq_range']
   have:=List.range'_append (s:=0) (m:=st l i) (n:=lenOf l i) (step:=1)
   rw [Nat.zero_add,Nat.one_mul] at this
   exact this
  case isFalse h=>rw [ih,show lenOf l i=0 by omega,Nat.add_zero]
theorem merge_nums (hF : ∀ p ∈ l,∀ r ∈ p,Full T K r) (hO : ∀ p ∈ l,InOrd T K p) : ∃ out : List Nat,out.Perm (List.range l.flatten.length)∧out.Pairwise (RSn T K l.flatten)∧(mergeP T K l).map (rowOf l)=out.map (fun i=>rdR l.flatten (i : Nat)):=by
 have O:=merge_ord T K l hF hO
 have hFF : ∀ r ∈ l.flatten,Full T K r:=fun r hr=>by
  obtain ⟨p,hp,hr⟩:=List.mem_flatten.mp hr
  exact hF p hp r hr
 have hperm:=initH_perm z0 (lessM T K l) (srcs l l.length).length ((srcs l l.length).length / 2) (srcs l l.length) (Nat.le_refl _)
 have hlv : ∀ s ∈ initH z0 (lessM T K l) (srcs l l.length).length ((srcs l l.length).length / 2) (srcs l l.length),Live (lenOf l) s:=fun s hs=>srcs_alive l _ s (hperm.mem_iff.mp hs)
 have hnum:=srcs_nums l l.length
 rw [st_all] at hnum
 have hlen : (leftP (lenOf l) (srcs l l.length)).length=l.flatten.length:=by
  have:=congrArg List.length hnum
  simpa using this
 have hheap:=initH_heap z0 (lessM T K l) (srcs l l.length).length (Live (lenOf l)) O.ok ((srcs l l.length).length / 2) (srcs l l.length) (Nat.le_refl _) (srcs_alive l _) (heap_half z0 (lessM T K l) _ _)
 have hfp:=flat_perm (lenOf l) hperm
 obtain ⟨g1,g2⟩:=lpM_spec (lessM T K l) (lenOf l) O l.flatten.length _ [] (by rw [hfp.length_eq,hlen];exact Nat.le_refl _) hlv ((hperm.map (·.1)).nodup_iff.mpr (srcs_nodup l _)) (by rw [hperm.length_eq];exact hheap) List.Pairwise.nil (fun x hx=>absurd hx (by simp)) (fun x hx=>absurd hx (by simp))
 rw [List.nil_append] at g1
 have g3 : (mergeP T K l).Perm (leftP (lenOf l) (srcs l l.length)):=g1.trans hfp
 have g4 : ((mergeP T K l).map (gN l)).Perm (List.range l.flatten.length):=by rw [← hnum];exact g3.map _
 have g5 : ((mergeP T K l).map (gN l)).Pairwise (RSn T K l.flatten):=List.pairwise_map.mpr g2
 have hal : ∀ s ∈ mergeP T K l,Live (lenOf l) s:=fun s hs=>by
  obtain ⟨t,ht,hst⟩:=List.mem_flatMap.mp (g3.mem_iff.mp hs)
  obtain ⟨a1,a2,a3⟩:=mem_left1 (lenOf l) hst
  show s.2 < lenOf l s.1
  rw [a1]
  exact a3
 refine ⟨_,g4,g5,?_⟩
 rw [List.map_map]
 exact List.map_congr_left fun s hs=>(gN_row (hal s hs)).symm
theorem mergeP_spec (hF : ∀ p ∈ l,∀ r ∈ p,Full T K r) (hO : ∀ p ∈ l,InOrd T K p) : (mergeP T K l).map (rowOf l)=sortR T K l.flatten []:=by
 have hFF : ∀ r ∈ l.flatten,Full T K r:=fun r hr=>by
  obtain ⟨p,hp,hr⟩:=List.mem_flatten.mp hr
  exact hF p hp r hr
 obtain ⟨out,h1,h2,h3⟩:=merge_nums T K l hF hO
 rw [h3,sort_uniq T K l.flatten hFF out h1 h2]
theorem merge_ev (b d : Int) (hT : T.length≤1000000000) (h1 : l.length≤1000000000) (h2 : l.flatten.length≤1000000000) (hF : ∀ p ∈ l,∀ r ∈ p,Full T K r) (hO : ∀ p ∈ l,InOrd T K p) : Ev (fun k=>merge_Rows.f k T K b d l) (sortR T K l.flatten []):=by
 unfold merge_Rows.f
 simp only [if_pos (And.intro hT (And.intro h1 h2)),mergeP_spec T K l hF hO]
 exact Ev.now _
end
end Go.Proofs.Ytfiandejapgkoaa.P

/- Less of the sources. -/
namespace Go.Proofs.YtfiandejapgkoaaW.PrintLast
open Go.RowKit Go.Proofs.YtfiandejapgkoaaW.PrintWords
theorem storeB_step {P : Program} {ops : Array Oper} {oi : Oper} {a : Act} {Q : Exit→Act→World→Prop} {K : Act→World→Prop} {W : World} {t : TypeId} {p x : Operand} {g : Nat} {vs cs : Array Value}
  (hw : Region.wanted oi (yielded ops a.tmps)=true) (hN : oi.dst=none) (ho : oi.op=.store t p x) (haddr : a.eval p=.pointer (some ⟨g,0,none⟩)) (hx : a.eval x=.agg vs) (hh : W.heap[g]?=some (.cells cs t (0,0))) (ht : (P.info? t).map (·.size)=some vs.toList.length) (hsz : vs.toList.length=cs.size) (h1 : vs.toList.all (·.oneCell')=true)
  (h : ∀ w1 : World,w1.heap[g]?=some (.cells vs t (0,0))→(∀ k,k≠g→w1.heap[k]?=W.heap[k]?)→(∀ (base : Nat) (w0 : World),base≤g→Below base w0 W→Below base w0 w1)→K a w1) : if Region.wanted oi (yielded ops a.tmps)=true then Oper.wp P oi a W K Q else K (a.put none undef) W:=by
 have hrun : (Instr.storeAt t (.pointer (some ⟨g,0,none⟩)) (.agg vs)).run P W=.ok () (W.setCells g 0 vs.toList):=run_store_run t (.agg vs) vs.toList hh rfl ht (by rw [hsz];omega) (fun q hq=>List.all_eq_true.mp h1 q hq)
 obtain ⟨cur',h3,h4,h5⟩:=setCells_row vs.toList 0 W cs hh (by omega)
 have e : cur'=vs:=by
  apply Array.toList_inj.mp
  rw [h5,List.take_zero,List.nil_append,List.drop_of_length_le (by rw [Array.length_toList];omega),List.append_nil]
 rw [e] at h3
 obtain ⟨s1,s2,s3,s4⟩:=setCells_same g vs.toList 0 W
 have hfar:=fun k (hk : k≠g)=>setCells_far (g:=g) vs.toList 0 (w:=W) k hk
 refine skip_ hw hN (w1:=W.setCells g 0 vs.toList) ?_ (h _ h3 hfar (fun base w0 hb hB=>hB.trans ⟨s1,s2,s3,by omega,fun k hk=>hfar k (by omega)⟩))
 unfold execOp
 simp only [ho,haddr,hx,Sem.run_bind,Sem.run_pure,Result.andThen_ok,hrun]
end Go.Proofs.YtfiandejapgkoaaW.PrintLast
namespace Go.Proofs.Ytfiandejapgkoaa.P
open Go.RowKit Go.Proofs.YtfiandejapgkoaaW.PrintWords Go.Proofs.YtfiandejapgkoaaW.PrintLast Go.Proofs.YtfiandejapgkoaaW.PrintMore
set_option linter.unusedVariables false
set_option linter.unusedSimpArgs false
def cI (x y : Nat) : Int:=if x < y then -1 else if y < x then 1 else 0
theorem ccmp_ok (x y : Nat) : cmp_Compare_int.f (x : Int) (y : Int)=some (cI x y):=by
 unfold cmp_Compare_int.f cmp_isNaN_int.f cI
 have e1 : ((x : Int) < (y : Int))=(x < y):=by simp
 have e2 : ((x : Int) > (y : Int))=(y < x):=by simp
 simp only [e1,e2]
 by_cases h1 : x < y
 ·simp [h1]
 ·by_cases h2 : y < x
  ·simp [h1,h2]
  ·simp [h1,h2]
theorem cor_ev (x y : Int) : Ev (fun k=>cmp_Or_int.f k [x,y]) (if x≠0 then x else y):=by
 simp only [cmp_Or_int.f]
 refine Ev.succ ?_
 simp only [cmp_Or_int.l0]
 show Ev (fun k=>if (0 : Int) < ((2 : Nat) : Int) then _ else _) _
 refine Ev.pos (by decide) (Ev.pos (by decide) (Ev.pos (by show (0 : Int) < ((2 : Nat) : Int);decide) ?_))
 have r0 : rd [x,y] 0=x:=rfl
 rw [r0]
 by_cases hx : x=0
 ·subst hx
  rw [if_neg (by simp)]
  refine Ev.pos rfl ?_
  rw [show wrap64 (0 + 1)=1 from w64 (by omega) (by omega)]
  refine Ev.succ ?_
  simp only [cmp_Or_int.l0]
  refine Ev.pos (by show (1 : Int) < ((2 : Nat) : Int);decide) (Ev.pos (by decide) (Ev.pos (by show (1 : Int) < ((2 : Nat) : Int);decide) ?_))
  have r1 : rd [0,y] 1=y:=rfl
  rw [r1]
  by_cases hy : y=0
  ·subst hy
   refine Ev.pos rfl ?_
   rw [show wrap64 (1 + 1)=2 from w64 (by omega) (by omega)]
   refine Ev.succ ?_
   simp only [cmp_Or_int.l0]
   exact Ev.neg (by show ¬ (2 : Int) < ((2 : Nat) : Int);decide) (Ev.now _)
  ·exact Ev.neg hy (Ev.now _)
 ·rw [if_pos hx]
  exact Ev.neg hx (Ev.now _)
structure PartsAt (w0 : World) (P1 : Nat→Prop) (l : List (List (List XV))) (ad : Nat→Addr) (cp : Nat→Nat) (RV : Nat→Nat→Value) : Prop where
 le : ∀ i,lenOf l i≤cp i
 row : ∀ i o,o < lenOf l i→∃ A0 c0,RV i o=.slice A0 (rowOf l (i,o)).length c0∧w0.cell? ((ad i).add o)=some (RV i o)∧Kd.C k31 w0 A0 (rowOf l (i,o)).length (rowOf l (i,o))∧(rowOf l (i,o)).length≤c0∧Kd.FK (Kd.slice 31 k31) w0 P1 (rowOf l (i,o)) [RV i o]
def srcV (l : List (List (List XV))) (ad : Nat→Addr) (cp : Nat→Nat) (i o : Nat) : Value:=.slice (some ((ad i).add (if o=cp i then o - 1 else o))) (lenOf l i - o) (cp i - o)
set_option maxHeartbeats 8000000 in
set_option maxRecDepth 100000 in
theorem less_any {w0 : World} {P1 : Nat→Prop} {l : List (List (List XV))} {ad : Nat→Addr} {cp : Nat→Nat} {RV : Nat→Nat→Value} (hP : PartsAt w0 P1 l ad cp RV)
  {gq go cap : Nat} {ql A : Option Addr} {c : Nat} {T : List Int} {a b d : Int} {w : World} {p : List Pl} (hT : Kd.C (Kd.int .i64) w0 A T.length T) (hc : T.length≤c) (hT8 : T.length≤1000000000)
  (h : MW w0 gq go cap ql A T.length c a b d (srcV l ad cp) w p) (i j : Nat) (hi : i < p.length) (hj : j < p.length) (li : Live (lenOf l) (gt_ z0 p i)) (lj : Live (lenOf l) (gt_ z0 p j)) :
  Calls Try.prog 68 #[.pointer (some ⟨gq,0,none⟩),.int .i64 (i : Nat),.int .i64 (j : Nat)] w fun e w'=>e=.returned (.bool (lessM T a l (gt_ z0 p i) (gt_ z0 p j)))∧Below w.heap.size w w':=by
 have mixed : Try.prog.follows Departure.mixedOrders=true:=rfl
 have hu54:=Try.underlying54
 obtain ⟨rfl,hcap,_⟩:=h.r (ne_of_lt hi)
 obtain ⟨s,hs⟩ : ∃ s,s=gt_ z0 p i:=⟨_,rfl⟩
 obtain ⟨t,ht⟩ : ∃ t,t=gt_ z0 p j:=⟨_,rfl⟩
 have hc4 : w.cell? ⟨gq,4,none⟩=some (.slice (some ⟨go,0,none⟩) p.length cap):=(blk_cell h.q 4).trans rfl
 have hq0 : w.cell? ⟨gq,0,none⟩=some (.slice A T.length c):=(blk_cell h.q 0).trans rfl
 have hq1 : w.cell? ⟨gq,1,none⟩=some (.int .i64 a):=(blk_cell h.q 1).trans rfl
 have hq2 : w.cell? ⟨gq,2,none⟩=some (.int .i64 b):=(blk_cell h.q 2).trans rfl
 have hq3 : w.cell? ⟨gq,3,none⟩=some (.int .i64 d):=(blk_cell h.q 3).trans rfl
 have hx0:=h.c0 i hi
 have hx1:=h.c1 i hi
 have hy0:=h.c0 j hj
 have hy1:=h.c1 j hj
 rw [← hs] at hx0 hx1 li ⊢
 rw [← ht] at hy0 hy1 lj ⊢
 have li' : s.2 < lenOf l s.1:=li
 have lj' : t.2 < lenOf l t.1:=lj
 obtain ⟨A1,c1,e1,r1,k1,l1,_⟩:=hP.row s.1 s.2 li
 obtain ⟨A2,c2,e2,r2,k2,l2,_⟩:=hP.row t.1 t.2 lj
 have e0x : srcV l ad cp s.1 s.2=.slice (some ((ad s.1).add s.2)) (lenOf l s.1 - s.2) (cp s.1 - s.2):=by
  unfold srcV;rw [if_neg (by have:=hP.le s.1;omega)]
 have e0y : srcV l ad cp t.1 t.2=.slice (some ((ad t.1).add t.2)) (lenOf l t.1 - t.2) (cp t.1 - t.2):=by
  unfold srcV;rw [if_neg (by have:=hP.le t.1;omega)]
 rw [e0x] at hx0
 rw [e0y] at hy0
 have hrx : w.cell? ((ad s.1).add s.2)=some (.slice A1 (rowOf l s).length c1):=(h.b.cell (World.block_lt_of_cell? w0 _ r1)).trans (r1.trans (by rw [e1]))
 have hry : w.cell? ((ad t.1).add t.2)=some (.slice A2 (rowOf l t).length c2):=(h.b.cell (World.block_lt_of_cell? w0 _ r2)).trans (r2.trans (by rw [e2]))
 obtain ⟨kc,hkc⟩:=(scmp_ev T a b d (rowOf l s) (rowOf l t) hT8).rounds
 obtain ⟨ko,hko⟩:=(cor_ev (cmpRow T a (rowOf l s) (rowOf l t)) (cI s.1 t.1)).rounds
 obtain ⟨z,hz⟩ : ∃ z,z=cmpRow T a (rowOf l s) (rowOf l t):=⟨_,rfl⟩
 have hless : lessM T a l s t=decide ((if z≠0 then z else cI s.1 t.1) < 0):=by unfold lessM cI;rw [hz]
 rw [hless]
 rw [← hz] at hkc hko
 obtain ⟨zo,hzo⟩ : ∃ zo,zo=(if z≠0 then z else cI s.1 t.1):=⟨_,rfl⟩
 rw [← hzo] at hko ⊢
 have HKC:=Aside0.mk hkc
 have HKO:=Aside0.mk hko
 have HCC:=Aside0.mk (ccmp_ok s.1 t.1)
 have HT:=Aside0.mk (And.intro (Kd.C_below hT h.b) hc)
 have HR:=Aside0.mk (And.intro (And.intro (Kd.C_below k1 h.b) l1) (And.intro (Kd.C_below k2 h.b) l2))
 have q0 : (0≤(i : Int))=True:=eq_true (by omega)
 have q1 : ((i : Int) < (p.length : Int))=True:=eq_true (by omega)
 have q2 : (0≤(j : Int))=True:=eq_true (by omega)
 have q3 : ((j : Int) < (p.length : Int))=True:=eq_true (by omega)
 have q4 : ((0 : Int) < ((lenOf l s.1 - s.2 : Nat) : Int))=True:=eq_true (by omega)
 have q5 : ((0 : Int) < ((lenOf l t.1 - t.2 : Nat) : Int))=True:=eq_true (by omega)
 have q6 : (0 < lenOf l s.1 - s.2)=True:=eq_true (by omega)
 have q7 : (0 < lenOf l t.1 - t.2)=True:=eq_true (by omega)
 generalize (ad s.1).add s.2=ax at hx0 hrx
 generalize (ad t.1).add t.2=ay at hy0 hry
 generalize lenOf l s.1 - s.2=nx at hx0 q4 q6
 generalize lenOf l t.1 - t.2=ny at hy0 q5 q7
 generalize cp s.1 - s.2=cx at hx0
 generalize cp t.1 - t.2=cy at hy0
 generalize rowOf l s=rx at hrx HKC HR
 generalize rowOf l t=ry at hry HKC HR
 generalize s.1=sx at hx1 HKO HCC
 generalize t.1=sy at hy1 HKO HCC
 generalize cI sx sy=zi at HKO HCC
 generalize p.length=np at hc4 q1 q3
 have HB:=Aside0.mk (below_drew1 (Below.refl w.heap.size w))
 clear hP hT hc hT8 h hi hj li lj li' lj' hs ht e1 e2 r1 r2 k1 k2 l1 l2 e0x e0y hkc hko hz hzo hless hcap
 go_enter Try.func68,Try.ntmps68
 try go_wp2
 refine start_ (n:=18) (S:=fun w'=>w'.cell? ⟨gq,4,none⟩=some (.slice (some ⟨go,0,none⟩) np cap)∧w'.cell? ⟨go,i * 2,none⟩=some (.slice (some ax) nx cx)∧w'.cell? ⟨go,i * 2 + 1,none⟩=some (.int .i64 (sx : Nat))∧w'.cell? ⟨go,j * 2,none⟩=some (.slice (some ay) ny cy)∧w'.cell? ⟨go,j * 2 + 1,none⟩=some (.int .i64 (sy : Nat))) (ds:=[]) #[false,false,false,false,false,false,false,false,false,false,false,false,false,false,false,false,false,false] (by kernel_rfl) rfl rfl ⟨((HB.out.cell (World.block_lt_of_cell? w _ hc4)).trans hc4),((HB.out.cell (World.block_lt_of_cell? w _ hx0)).trans hx0),((HB.out.cell (World.block_lt_of_cell? w _ hx1)).trans hx1),((HB.out.cell (World.block_lt_of_cell? w _ hy0)).trans hy0),((HB.out.cell (World.block_lt_of_cell? w _ hy1)).trans hy1)⟩ (fun hHeld=>?_)
 refine pure_ (i:=0) (N:=some 9) (v:=?_) (a':=?_) #[true,false,false,false,false,false,false,false,false,false,false,false,false,false,false,false,false,false] rfl rfl (by kernel_rfl) (fun _ _ _ h=>h) (Or.inl ⟨by rfl,?_⟩) ?_ ?_
 rotate_left;(intro w';go_simp;with_reducible rfl);rotate_left;(simp only [Act.put,List.setIfInBounds_toArray,List.set_cons_zero,List.set_cons_succ,i64_w,i32_w];rfl)
 refine pure_ (i:=1) (N:=some 10) (v:=?_) (a':=?_) #[true,true,false,false,false,false,false,false,false,false,false,false,false,false,false,false,false,false] rfl rfl (by kernel_rfl) (fun _ _ _ h=>h) (Or.inl ⟨by rfl,?_⟩) ?_ ?_
 rotate_left;(intro w';go_simp;with_reducible rfl);rotate_left;(simp only [Act.put,List.setIfInBounds_toArray,List.set_cons_zero,List.set_cons_succ,i64_w,i32_w];rfl)
 refine pure_ (i:=2) (N:=some 11) (v:=?_) (a':=?_) #[true,true,true,false,false,false,false,false,false,false,false,false,false,false,false,false,false,false] rfl rfl (by kernel_rfl) (fun _ _ _ h=>h) (Or.inl ⟨by rfl,?_⟩) ?_ ?_
 rotate_left;(intro w';go_simp;with_reducible rfl);rotate_left;(simp only [Act.put,List.setIfInBounds_toArray,List.set_cons_zero,List.set_cons_succ,i64_w,i32_w];rfl)
 refine pure_ (i:=4) (N:=some 13) (v:=?_) (a':=?_) #[true,true,true,false,true,false,false,false,false,false,false,false,false,false,false,false,false,false] rfl rfl (by kernel_rfl) (fun _ _ _ h=>h) (Or.inl ⟨by rfl,?_⟩) ?_ ?_
 rotate_left;(intro w';go_simp;with_reducible rfl);rotate_left;(simp only [Act.put,List.setIfInBounds_toArray,List.set_cons_zero,List.set_cons_succ,i64_w,i32_w];rfl)
 refine pure_ (i:=7) (N:=some 16) (v:=?_) (a':=?_) #[true,true,true,false,true,false,false,true,false,false,false,false,false,false,false,false,false,false] rfl rfl (by kernel_rfl) (fun _ _ _ h=>h) (Or.inl ⟨by rfl,?_⟩) ?_ ?_
 rotate_left;(intro w';go_simp;with_reducible rfl);rotate_left;(simp only [Act.put,List.setIfInBounds_toArray,List.set_cons_zero,List.set_cons_succ,i64_w,i32_w];rfl)
 refine pure_ (i:=8) (N:=some 17) (v:=?_) (a':=?_) #[true,true,true,false,true,false,false,true,true,false,false,false,false,false,false,false,false,false] rfl rfl (by kernel_rfl) (fun _ _ _ h=>h) (Or.inl ⟨by rfl,?_⟩) ?_ ?_
 rotate_left;(intro w';go_simp;with_reducible rfl);rotate_left;(simp only [Act.put,List.setIfInBounds_toArray,List.set_cons_zero,List.set_cons_succ,i64_w,i32_w];rfl)
 refine pure_ (i:=9) (N:=some 18) (v:=?_) (a':=?_) #[true,true,true,false,true,false,false,true,true,true,false,false,false,false,false,false,false,false] rfl rfl (by kernel_rfl) (fun _ _ _ h=>h) (Or.inl ⟨by rfl,?_⟩) ?_ ?_
 rotate_left;(intro w';go_simp;with_reducible rfl);rotate_left;(simp only [Act.put,List.setIfInBounds_toArray,List.set_cons_zero,List.set_cons_succ,i64_w,i32_w];rfl)
 refine pure_ (i:=11) (N:=some 20) (v:=?_) (a':=?_) #[true,true,true,false,true,false,false,true,true,true,false,true,false,false,false,false,false,false] rfl rfl (by kernel_rfl) (fun _ _ _ h=>h) (Or.inl ⟨by rfl,?_⟩) ?_ ?_
 rotate_left;(intro w';go_simp;with_reducible rfl);rotate_left;(simp only [Act.put,List.setIfInBounds_toArray,List.set_cons_zero,List.set_cons_succ,i64_w,i32_w];rfl)
 refine take_ (i:=3) (N:=some 12) (v:=?_) (a':=?_) #[true,true,true,true,true,false,false,true,true,true,false,true,false,false,false,false,false,false] rfl rfl (by kernel_rfl) (fun _ _ _ h=>h) (Or.inl ⟨by rfl,?_⟩) hHeld ?_ ?_
 rotate_left;(rintro w' ⟨s0,s1,s2,s3,s4⟩;go_simp;with_reducible rfl);rotate_left;(simp only [Act.put,List.setIfInBounds_toArray,List.set_cons_zero,List.set_cons_succ,i64_w,i32_w];rfl)
 refine pure_ (i:=5) (N:=some 14) (v:=?_) (a':=?_) #[true,true,true,true,true,true,false,true,true,true,false,true,false,false,false,false,false,false] rfl rfl (by kernel_rfl) (fun _ _ _ h=>h) (Or.inl ⟨by rfl,?_⟩) ?_ ?_
 rotate_left;(intro w';go_simp;with_reducible rfl);rotate_left;(simp only [Act.put,List.setIfInBounds_toArray,List.set_cons_zero,List.set_cons_succ,i64_w,i32_w];rfl)
 refine take_ (i:=6) (N:=some 15) (v:=?_) (a':=?_) #[true,true,true,true,true,true,true,true,true,true,false,true,false,false,false,false,false,false] rfl rfl (by kernel_rfl) (fun _ _ _ h=>h) (Or.inl ⟨by rfl,?_⟩) hHeld ?_ ?_
 rotate_left;(rintro w' ⟨s0,s1,s2,s3,s4⟩;go_simp;with_reducible rfl);rotate_left;(simp only [Act.put,List.setIfInBounds_toArray,List.set_cons_zero,List.set_cons_succ,i64_w,i32_w];rfl)
 refine take_ (i:=10) (N:=some 19) (v:=?_) (a':=?_) #[true,true,true,true,true,true,true,true,true,true,true,true,false,false,false,false,false,false] rfl rfl (by kernel_rfl) (fun _ _ _ h=>h) (Or.inl ⟨by rfl,?_⟩) hHeld ?_ ?_
 rotate_left;(rintro w' ⟨s0,s1,s2,s3,s4⟩;go_simp;with_reducible rfl);rotate_left;(simp only [Act.put,List.setIfInBounds_toArray,List.set_cons_zero,List.set_cons_succ,i64_w,i32_w];rfl)
 refine pure_ (i:=12) (N:=some 21) (v:=?_) (a':=?_) #[true,true,true,true,true,true,true,true,true,true,true,true,true,false,false,false,false,false] rfl rfl (by kernel_rfl) (fun _ _ _ h=>h) (Or.inl ⟨by rfl,?_⟩) ?_ ?_
 rotate_left;(intro w';go_simp;with_reducible rfl);rotate_left;(simp only [Act.put,List.setIfInBounds_toArray,List.set_cons_zero,List.set_cons_succ,i64_w,i32_w];rfl)
 refine take_ (i:=13) (N:=some 22) (v:=?_) (a':=?_) #[true,true,true,true,true,true,true,true,true,true,true,true,true,true,false,false,false,false] rfl rfl (by kernel_rfl) (fun _ _ _ h=>h) (Or.inl ⟨by rfl,?_⟩) hHeld ?_ ?_
 rotate_left;(rintro w' ⟨s0,s1,s2,s3,s4⟩;go_simp;with_reducible rfl);rotate_left;(simp only [Act.put,List.setIfInBounds_toArray,List.set_cons_zero,List.set_cons_succ,i64_w,i32_w];rfl)
 refine join_ (σ:=Nat × Nat) 2 #[true,true,true,true,true,true,true,true,true,true,true,true,true,true,true,true,false,false] (fun s=>[(7,.pointer (some ⟨s.1,0,none⟩)),(8,.pointer (some ⟨s.2,0,none⟩))]) (fun s w'=>Aside0 (w'.heap[s.1]?=some (.cells #[.slice none 0 0,.int .i64 0] 54 (0,0)))∧Aside0 (w'.heap[s.2]?=some (.cells #[.slice none 0 0,.int .i64 0] 54 (0,0)))∧Aside0 (s.1≠s.2)∧Aside0 (w.heap.size≤s.1)∧Aside0 (w.heap.size≤s.2)∧Aside0 (Below w.heap.size w w')) ?_ ?_
 rotate_left
 ·intro hCont
  refine two_ (i:=14) (j:=15) (Ni:=some 7) (Nj:=some 8) #[true,true,true,true,true,true,true,true,true,true,true,true,true,true,true,false,false,false] #[true,true,true,true,true,true,true,true,true,true,true,true,true,true,false,true,false,false] rfl rfl rfl rfl (by kernel_rfl) (by decide) (by decide) (fun K hK=>?_) (fun K hK=>?_)
  ·skip
   refine box_step ?hg (N:=7) ?hd (cs:=#[.slice none 0 0,.int .i64 0]) (t:=54) ?hr ?_
   (case hd=>rfl)
   (case hg=>rfl)
   (case hr=>first|(go_simp;done)|(go_simp;rfl))
   intro g7 hg wa hbox hb
   have n0_:=Aside0.mk (((by rw [hg];exact below_size HB.out) : w.heap.size≤g7))
   have n1_:=Aside0.mk (hbox)
   have n2_:=Aside0.mk (below_step HB.out hb)
   clear HB
   have GEg7:=n0_
   have BKg7:=n1_
   have HB:=n2_
   clear n0_ n1_ n2_
   clear hb hbox hg
   refine hK.out _ _ ⟨((HB.out.cell (World.block_lt_of_cell? w _ hc4)).trans hc4),((HB.out.cell (World.block_lt_of_cell? w _ hx0)).trans hx0),((HB.out.cell (World.block_lt_of_cell? w _ hx1)).trans hx1),((HB.out.cell (World.block_lt_of_cell? w _ hy0)).trans hy0),((HB.out.cell (World.block_lt_of_cell? w _ hy1)).trans hy1)⟩ (fun hHeld=>?_)
   clear hK K
   refine norm_ (a':=?_) ?_ ?_
   rotate_left
   ·show Act.put _ (some 7) _=_
    simp only [Act.put,List.setIfInBounds_toArray,List.set_cons_zero,List.set_cons_succ,i64_w,i32_w]
    rfl
   refine one_ (i:=15) (N:=some 8) #[true,true,true,true,true,true,true,true,true,true,true,true,true,true,true,true,false,false] rfl rfl (by kernel_rfl) (by decide) (fun K hK=>?_)
   refine box_step ?hg (N:=8) ?hd (cs:=#[.slice none 0 0,.int .i64 0]) (t:=54) ?hr ?_
   (case hd=>rfl)
   (case hg=>rfl)
   (case hr=>first|(go_simp;done)|(go_simp;rfl))
   intro g8 hg wa hbox hb
   have n0_:=Aside0.mk (((by rw [hg];exact below_size HB.out) : w.heap.size≤g8))
   have n1_:=Aside0.mk (hbox)
   have n2_:=Aside0.mk (blk_below BKg7.out hb)
   have n3_:=Aside0.mk (((by rw [hg];have:=blk_lt BKg7.out;omega) : g8≠g7))
   have n4_:=Aside0.mk (below_step HB.out hb)
   clear BKg7 HB
   have GEg8:=n0_
   have BKg8:=n1_
   have BKg7:=n2_
   have NE:=n3_
   have HB:=n4_
   clear n0_ n1_ n2_ n3_ n4_
   clear hb hbox hg
   refine hK.out _ _ ⟨((HB.out.cell (World.block_lt_of_cell? w _ hc4)).trans hc4),((HB.out.cell (World.block_lt_of_cell? w _ hx0)).trans hx0),((HB.out.cell (World.block_lt_of_cell? w _ hx1)).trans hx1),((HB.out.cell (World.block_lt_of_cell? w _ hy0)).trans hy0),((HB.out.cell (World.block_lt_of_cell? w _ hy1)).trans hy1)⟩ (fun hHeld=>?_)
   clear hK K
   refine norm_ (a':=?_) ?_ ?_
   rotate_left
   ·show Act.put _ (some 8) _=_
    simp only [Act.put,List.setIfInBounds_toArray,List.set_cons_zero,List.set_cons_succ,i64_w,i32_w]
    rfl
   exact norm_ (by simp only [putAll,Act.put,List.setIfInBounds_toArray,List.set_cons_zero,List.set_cons_succ]) (hCont (g7,g8) _ ⟨BKg7,BKg8,⟨NE.out.symm⟩,GEg7,GEg8,HB⟩)
  ·skip
   refine box_step ?hg (N:=8) ?hd (cs:=#[.slice none 0 0,.int .i64 0]) (t:=54) ?hr ?_
   (case hd=>rfl)
   (case hg=>rfl)
   (case hr=>first|(go_simp;done)|(go_simp;rfl))
   intro g8 hg wa hbox hb
   have n0_:=Aside0.mk (((by rw [hg];exact below_size HB.out) : w.heap.size≤g8))
   have n1_:=Aside0.mk (hbox)
   have n2_:=Aside0.mk (below_step HB.out hb)
   clear HB
   have GEg8:=n0_
   have BKg8:=n1_
   have HB:=n2_
   clear n0_ n1_ n2_
   clear hb hbox hg
   refine hK.out _ _ ⟨((HB.out.cell (World.block_lt_of_cell? w _ hc4)).trans hc4),((HB.out.cell (World.block_lt_of_cell? w _ hx0)).trans hx0),((HB.out.cell (World.block_lt_of_cell? w _ hx1)).trans hx1),((HB.out.cell (World.block_lt_of_cell? w _ hy0)).trans hy0),((HB.out.cell (World.block_lt_of_cell? w _ hy1)).trans hy1)⟩ (fun hHeld=>?_)
   clear hK K
   refine norm_ (a':=?_) ?_ ?_
   rotate_left
   ·show Act.put _ (some 8) _=_
    simp only [Act.put,List.setIfInBounds_toArray,List.set_cons_zero,List.set_cons_succ,i64_w,i32_w]
    rfl
   refine one_ (i:=14) (N:=some 7) #[true,true,true,true,true,true,true,true,true,true,true,true,true,true,true,true,false,false] rfl rfl (by kernel_rfl) (by decide) (fun K hK=>?_)
   refine box_step ?hg (N:=7) ?hd (cs:=#[.slice none 0 0,.int .i64 0]) (t:=54) ?hr ?_
   (case hd=>rfl)
   (case hg=>rfl)
   (case hr=>first|(go_simp;done)|(go_simp;rfl))
   intro g7 hg wa hbox hb
   have n0_:=Aside0.mk (((by rw [hg];exact below_size HB.out) : w.heap.size≤g7))
   have n1_:=Aside0.mk (hbox)
   have n2_:=Aside0.mk (blk_below BKg8.out hb)
   have n3_:=Aside0.mk (((by rw [hg];have:=blk_lt BKg8.out;omega) : g7≠g8))
   have n4_:=Aside0.mk (below_step HB.out hb)
   clear BKg8 HB
   have GEg7:=n0_
   have BKg7:=n1_
   have BKg8:=n2_
   have NE:=n3_
   have HB:=n4_
   clear n0_ n1_ n2_ n3_ n4_
   clear hb hbox hg
   refine hK.out _ _ ⟨((HB.out.cell (World.block_lt_of_cell? w _ hc4)).trans hc4),((HB.out.cell (World.block_lt_of_cell? w _ hx0)).trans hx0),((HB.out.cell (World.block_lt_of_cell? w _ hx1)).trans hx1),((HB.out.cell (World.block_lt_of_cell? w _ hy0)).trans hy0),((HB.out.cell (World.block_lt_of_cell? w _ hy1)).trans hy1)⟩ (fun hHeld=>?_)
   clear hK K
   refine norm_ (a':=?_) ?_ ?_
   rotate_left
   ·show Act.put _ (some 7) _=_
    simp only [Act.put,List.setIfInBounds_toArray,List.set_cons_zero,List.set_cons_succ,i64_w,i32_w]
    rfl
   exact norm_ (by simp only [putAll,Act.put,List.setIfInBounds_toArray,List.set_cons_zero,List.set_cons_succ]) (hCont (g7,g8) _ ⟨BKg7,BKg8,⟨NE.out⟩,GEg7,GEg8,HB⟩)
 clear HB hHeld
 rintro ⟨g7,g8⟩ w5 ⟨BKg7,BKg8,NE,GEg7,GEg8,HB⟩
 have hHeld : (fun w' : World=>w'.cell? ⟨gq,4,none⟩=some (.slice (some ⟨go,0,none⟩) np cap)∧w'.cell? ⟨go,i * 2,none⟩=some (.slice (some ax) nx cx)∧w'.cell? ⟨go,i * 2 + 1,none⟩=some (.int .i64 (sx : Nat))∧w'.cell? ⟨go,j * 2,none⟩=some (.slice (some ay) ny cy)∧w'.cell? ⟨go,j * 2 + 1,none⟩=some (.int .i64 (sy : Nat))) w5:=⟨((HB.out.cell (World.block_lt_of_cell? w _ hc4)).trans hc4),((HB.out.cell (World.block_lt_of_cell? w _ hx0)).trans hx0),((HB.out.cell (World.block_lt_of_cell? w _ hx1)).trans hx1),((HB.out.cell (World.block_lt_of_cell? w _ hy0)).trans hy0),((HB.out.cell (World.block_lt_of_cell? w _ hy1)).trans hy1)⟩
 refine norm_ (a':=?_) ?_ ?_
 rotate_left
 ·simp only [putAll,Act.put,List.setIfInBounds_toArray,List.set_cons_zero,List.set_cons_succ]
  rfl
 refine one_ (i:=16) (N:=none) #[true,true,true,true,true,true,true,true,true,true,true,true,true,true,true,true,true,false] rfl rfl (by kernel_rfl) (by decide) (fun K hK=>?_)
 refine storeB_step (g:=g7) (vs:=#[.slice (some ax) nx cx,.int .i64 (sx : Nat)]) (by rfl) rfl rfl rfl rfl BKg7.out (by kernel_rfl) rfl rfl ?_
 intro wa hs_ hf_ hb_
 have n0_:=Aside0.mk ((hf_ _ (NE.out.symm)).trans BKg8.out)
 have n1_:=Aside0.mk (hb_ _ _ GEg7.out HB.out)
 have n2_:=Aside0.mk (hs_)
 clear BKg8 HB BKg7
 have BKg8:=n0_
 have HB:=n1_
 have BKg7:=n2_
 clear n0_ n1_ n2_
 clear hs_ hf_ hb_
 refine hK.out _ _ ⟨((HB.out.cell (World.block_lt_of_cell? w _ hc4)).trans hc4),((HB.out.cell (World.block_lt_of_cell? w _ hx0)).trans hx0),((HB.out.cell (World.block_lt_of_cell? w _ hx1)).trans hx1),((HB.out.cell (World.block_lt_of_cell? w _ hy0)).trans hy0),((HB.out.cell (World.block_lt_of_cell? w _ hy1)).trans hy1)⟩ (fun hHeld=>?_)
 clear hK K
 refine one_ (i:=17) (N:=none) #[true,true,true,true,true,true,true,true,true,true,true,true,true,true,true,true,true,true] rfl rfl (by kernel_rfl) (by decide) (fun K hK=>?_)
 refine storeB_step (g:=g8) (vs:=#[.slice (some ay) ny cy,.int .i64 (sy : Nat)]) (by rfl) rfl rfl rfl rfl BKg8.out (by kernel_rfl) rfl rfl ?_
 intro wa hs_ hf_ hb_
 have n0_:=Aside0.mk ((hf_ _ (NE.out)).trans BKg7.out)
 have n1_:=Aside0.mk (hb_ _ _ GEg8.out HB.out)
 have n2_:=Aside0.mk (hs_)
 clear BKg7 HB BKg8
 have BKg7:=n0_
 have HB:=n1_
 have BKg8:=n2_
 clear n0_ n1_ n2_
 clear hs_ hf_ hb_
 refine hK.out _ _ ⟨((HB.out.cell (World.block_lt_of_cell? w _ hc4)).trans hc4),((HB.out.cell (World.block_lt_of_cell? w _ hx0)).trans hx0),((HB.out.cell (World.block_lt_of_cell? w _ hx1)).trans hx1),((HB.out.cell (World.block_lt_of_cell? w _ hy0)).trans hy0),((HB.out.cell (World.block_lt_of_cell? w _ hy1)).trans hy1)⟩ (fun hHeld=>?_)
 clear hK K
 refine done_ (by kernel_rfl) ?_
 (try clear hHeld)
 have hg0 : wa.cell? ⟨g7,0,none⟩=some (.slice (some ax) nx cx):=(blk_cell BKg7.out 0).trans rfl
 have hg1 : wa.cell? ⟨g7,1,none⟩=some (.int .i64 (sx : Nat)):=(blk_cell BKg7.out 1).trans rfl
 have hg2 : wa.cell? ⟨g8,0,none⟩=some (.slice (some ay) ny cy):=(blk_cell BKg8.out 0).trans rfl
 have hg3 : wa.cell? ⟨g8,1,none⟩=some (.int .i64 (sy : Nat)):=(blk_cell BKg8.out 1).trans rfl
 have hp0 : wa.cell? ⟨gq,0,none⟩=some (.slice A T.length c):=(HB.out.cell (World.block_lt_of_cell? w _ hq0)).trans hq0
 have hp1 : wa.cell? ⟨gq,1,none⟩=some (.int .i64 a):=(HB.out.cell (World.block_lt_of_cell? w _ hq1)).trans hq1
 have hp2 : wa.cell? ⟨gq,2,none⟩=some (.int .i64 b):=(HB.out.cell (World.block_lt_of_cell? w _ hq2)).trans hq2
 have hp3 : wa.cell? ⟨gq,3,none⟩=some (.int .i64 d):=(HB.out.cell (World.block_lt_of_cell? w _ hq3)).trans hq3
 have hr0 : wa.cell? ax=some (.slice A1 rx.length c1):=(HB.out.cell (World.block_lt_of_cell? w _ hrx)).trans hrx
 have hr1 : wa.cell? ay=some (.slice A2 ry.length c2):=(HB.out.cell (World.block_lt_of_cell? w _ hry)).trans hry
 have HT2:=Aside0.mk (And.intro (Kd.C_below HT.out.1 HB.out) HT.out.2)
 have HR2:=Aside0.mk (And.intro (And.intro (Kd.C_below HR.out.1.1 HB.out) HR.out.1.2) (And.intro (Kd.C_below HR.out.2.1 HB.out) HR.out.2.2))
 clear hc4 hq0 hq1 hq2 hq3 hx0 hx1 hy0 hy1 hrx hry HT HR BKg7 BKg8 NE GEg7 GEg8 q0 q1 q2 q3
 have HD:=Aside0.mk (below_drew1 (Below.refl wa.heap.size wa))
 try go_wp2
 refine start_ (n:=22) (S:=fun w'=>w'.cell? ⟨gq,0,none⟩=some (.slice A T.length c)∧w'.cell? ⟨gq,1,none⟩=some (.int .i64 a)∧w'.cell? ⟨gq,2,none⟩=some (.int .i64 b)∧w'.cell? ⟨gq,3,none⟩=some (.int .i64 d)∧w'.cell? ⟨g7,0,none⟩=some (.slice (some ax) nx cx)∧w'.cell? ⟨g7,1,none⟩=some (.int .i64 (sx : Nat))∧w'.cell? ⟨g8,0,none⟩=some (.slice (some ay) ny cy)∧w'.cell? ⟨g8,1,none⟩=some (.int .i64 (sy : Nat))∧w'.cell? ax=some (.slice A1 rx.length c1)∧w'.cell? ay=some (.slice A2 ry.length c2)) (ds:=[]) #[false,false,false,false,false,false,false,false,false,false,false,false,false,false,false,false,false,false,false,false,false,false] (by kernel_rfl) rfl rfl ⟨((HD.out.cell (World.block_lt_of_cell? wa _ hp0)).trans hp0),((HD.out.cell (World.block_lt_of_cell? wa _ hp1)).trans hp1),((HD.out.cell (World.block_lt_of_cell? wa _ hp2)).trans hp2),((HD.out.cell (World.block_lt_of_cell? wa _ hp3)).trans hp3),((HD.out.cell (World.block_lt_of_cell? wa _ hg0)).trans hg0),((HD.out.cell (World.block_lt_of_cell? wa _ hg1)).trans hg1),((HD.out.cell (World.block_lt_of_cell? wa _ hg2)).trans hg2),((HD.out.cell (World.block_lt_of_cell? wa _ hg3)).trans hg3),((HD.out.cell (World.block_lt_of_cell? wa _ hr0)).trans hr0),((HD.out.cell (World.block_lt_of_cell? wa _ hr1)).trans hr1)⟩ (fun hHeld=>?_)
 refine pure_ (i:=0) (N:=some 23) (v:=?_) (a':=?_) #[true,false,false,false,false,false,false,false,false,false,false,false,false,false,false,false,false,false,false,false,false,false] rfl rfl (by kernel_rfl) (fun _ _ _ h=>h) (Or.inl ⟨by rfl,?_⟩) ?_ ?_
 rotate_left;(intro w';go_simp;with_reducible rfl);rotate_left;(simp only [Act.put,List.setIfInBounds_toArray,List.set_cons_zero,List.set_cons_succ,i64_w,i32_w];rfl)
 refine pure_ (i:=1) (N:=some 24) (v:=?_) (a':=?_) #[true,true,false,false,false,false,false,false,false,false,false,false,false,false,false,false,false,false,false,false,false,false] rfl rfl (by kernel_rfl) (fun _ _ _ h=>h) (Or.inl ⟨by rfl,?_⟩) ?_ ?_
 rotate_left;(intro w';go_simp;with_reducible rfl);rotate_left;(simp only [Act.put,List.setIfInBounds_toArray,List.set_cons_zero,List.set_cons_succ,i64_w,i32_w];rfl)
 refine pure_ (i:=2) (N:=some 25) (v:=?_) (a':=?_) #[true,true,true,false,false,false,false,false,false,false,false,false,false,false,false,false,false,false,false,false,false,false] rfl rfl (by kernel_rfl) (fun _ _ _ h=>h) (Or.inl ⟨by rfl,?_⟩) ?_ ?_
 rotate_left;(intro w';go_simp;with_reducible rfl);rotate_left;(simp only [Act.put,List.setIfInBounds_toArray,List.set_cons_zero,List.set_cons_succ,i64_w,i32_w];rfl)
 refine pure_ (i:=4) (N:=some 27) (v:=?_) (a':=?_) #[true,true,true,false,true,false,false,false,false,false,false,false,false,false,false,false,false,false,false,false,false,false] rfl rfl (by kernel_rfl) (fun _ _ _ h=>h) (Or.inl ⟨by rfl,?_⟩) ?_ ?_
 rotate_left;(intro w';go_simp;with_reducible rfl);rotate_left;(simp only [Act.put,List.setIfInBounds_toArray,List.set_cons_zero,List.set_cons_succ,i64_w,i32_w];rfl)
 refine pure_ (i:=8) (N:=some 31) (v:=?_) (a':=?_) #[true,true,true,false,true,false,false,false,true,false,false,false,false,false,false,false,false,false,false,false,false,false] rfl rfl (by kernel_rfl) (fun _ _ _ h=>h) (Or.inl ⟨by rfl,?_⟩) ?_ ?_
 rotate_left;(intro w';go_simp;with_reducible rfl);rotate_left;(simp only [Act.put,List.setIfInBounds_toArray,List.set_cons_zero,List.set_cons_succ,i64_w,i32_w];rfl)
 refine pure_ (i:=13) (N:=some 36) (v:=?_) (a':=?_) #[true,true,true,false,true,false,false,false,true,false,false,false,false,true,false,false,false,false,false,false,false,false] rfl rfl (by kernel_rfl) (fun _ _ _ h=>h) (Or.inl ⟨by rfl,?_⟩) ?_ ?_
 rotate_left;(intro w';go_simp;with_reducible rfl);rotate_left;(simp only [Act.put,List.setIfInBounds_toArray,List.set_cons_zero,List.set_cons_succ,i64_w,i32_w];rfl)
 refine pure_ (i:=15) (N:=some 38) (v:=?_) (a':=?_) #[true,true,true,false,true,false,false,false,true,false,false,false,false,true,false,true,false,false,false,false,false,false] rfl rfl (by kernel_rfl) (fun _ _ _ h=>h) (Or.inl ⟨by rfl,?_⟩) ?_ ?_
 rotate_left;(intro w';go_simp;with_reducible rfl);rotate_left;(simp only [Act.put,List.setIfInBounds_toArray,List.set_cons_zero,List.set_cons_succ,i64_w,i32_w];rfl)
 refine take_ (i:=3) (N:=some 26) (v:=?_) (a':=?_) #[true,true,true,true,true,false,false,false,true,false,false,false,false,true,false,true,false,false,false,false,false,false] rfl rfl (by kernel_rfl) (fun _ _ _ h=>h) (Or.inl ⟨by rfl,?_⟩) hHeld ?_ ?_
 rotate_left;(rintro w' ⟨s0,s1,s2,s3,s4,s5,s6,s7,s8,s9⟩;go_simp;with_reducible rfl);rotate_left;(simp only [Act.put,List.setIfInBounds_toArray,List.set_cons_zero,List.set_cons_succ,i64_w,i32_w];rfl)
 refine take_ (i:=5) (N:=some 28) (v:=?_) (a':=?_) #[true,true,true,true,true,true,false,false,true,false,false,false,false,true,false,true,false,false,false,false,false,false] rfl rfl (by kernel_rfl) (fun _ _ _ h=>h) (Or.inl ⟨by rfl,?_⟩) hHeld ?_ ?_
 rotate_left;(rintro w' ⟨s0,s1,s2,s3,s4,s5,s6,s7,s8,s9⟩;go_simp;with_reducible rfl);rotate_left;(simp only [Act.put,List.setIfInBounds_toArray,List.set_cons_zero,List.set_cons_succ,i64_w,i32_w];rfl)
 refine pure_ (i:=6) (N:=some 29) (v:=?_) (a':=?_) #[true,true,true,true,true,true,true,false,true,false,false,false,false,true,false,true,false,false,false,false,false,false] rfl rfl (by kernel_rfl) (fun _ _ _ h=>h) (Or.inl ⟨by rfl,?_⟩) ?_ ?_
 rotate_left;(intro w';go_simp;with_reducible rfl);rotate_left;(simp only [Act.put,List.setIfInBounds_toArray,List.set_cons_zero,List.set_cons_succ,i64_w,i32_w];rfl)
 refine take_ (i:=7) (N:=some 30) (v:=?_) (a':=?_) #[true,true,true,true,true,true,true,true,true,false,false,false,false,true,false,true,false,false,false,false,false,false] rfl rfl (by kernel_rfl) (fun _ _ _ h=>h) (Or.inl ⟨by rfl,?_⟩) hHeld ?_ ?_
 rotate_left;(rintro w' ⟨s0,s1,s2,s3,s4,s5,s6,s7,s8,s9⟩;go_simp;with_reducible rfl);rotate_left;(simp only [Act.put,List.setIfInBounds_toArray,List.set_cons_zero,List.set_cons_succ,i64_w,i32_w];rfl)
 refine take_ (i:=9) (N:=some 32) (v:=?_) (a':=?_) #[true,true,true,true,true,true,true,true,true,true,false,false,false,true,false,true,false,false,false,false,false,false] rfl rfl (by kernel_rfl) (fun _ _ _ h=>h) (Or.inl ⟨by rfl,?_⟩) hHeld ?_ ?_
 rotate_left;(rintro w' ⟨s0,s1,s2,s3,s4,s5,s6,s7,s8,s9⟩;go_simp;with_reducible rfl);rotate_left;(simp only [Act.put,List.setIfInBounds_toArray,List.set_cons_zero,List.set_cons_succ,i64_w,i32_w];rfl)
 refine pure_ (i:=10) (N:=some 33) (v:=?_) (a':=?_) #[true,true,true,true,true,true,true,true,true,true,true,false,false,true,false,true,false,false,false,false,false,false] rfl rfl (by kernel_rfl) (fun _ _ _ h=>h) (Or.inl ⟨by rfl,?_⟩) ?_ ?_
 rotate_left;(intro w';go_simp;with_reducible rfl);rotate_left;(simp only [Act.put,List.setIfInBounds_toArray,List.set_cons_zero,List.set_cons_succ,i64_w,i32_w];rfl)
 refine take_ (i:=11) (N:=some 34) (v:=?_) (a':=?_) #[true,true,true,true,true,true,true,true,true,true,true,true,false,true,false,true,false,false,false,false,false,false] rfl rfl (by kernel_rfl) (fun _ _ _ h=>h) (Or.inl ⟨by rfl,?_⟩) hHeld ?_ ?_
 rotate_left;(rintro w' ⟨s0,s1,s2,s3,s4,s5,s6,s7,s8,s9⟩;go_simp;with_reducible rfl);rotate_left;(simp only [Act.put,List.setIfInBounds_toArray,List.set_cons_zero,List.set_cons_succ,i64_w,i32_w];rfl)
 refine take_ (i:=14) (N:=some 37) (v:=?_) (a':=?_) #[true,true,true,true,true,true,true,true,true,true,true,true,false,true,true,true,false,false,false,false,false,false] rfl rfl (by kernel_rfl) (fun _ _ _ h=>h) (Or.inl ⟨by rfl,?_⟩) hHeld ?_ ?_
 rotate_left;(rintro w' ⟨s0,s1,s2,s3,s4,s5,s6,s7,s8,s9⟩;go_simp;with_reducible rfl);rotate_left;(simp only [Act.put,List.setIfInBounds_toArray,List.set_cons_zero,List.set_cons_succ,i64_w,i32_w];rfl)
 refine take_ (i:=16) (N:=some 39) (v:=?_) (a':=?_) #[true,true,true,true,true,true,true,true,true,true,true,true,false,true,true,true,true,false,false,false,false,false] rfl rfl (by kernel_rfl) (fun _ _ _ h=>h) (Or.inl ⟨by rfl,?_⟩) hHeld ?_ ?_
 rotate_left;(rintro w' ⟨s0,s1,s2,s3,s4,s5,s6,s7,s8,s9⟩;go_simp;with_reducible rfl);rotate_left;(simp only [Act.put,List.setIfInBounds_toArray,List.set_cons_zero,List.set_cons_succ,i64_w,i32_w];rfl)
 refine one_ (i:=12) (N:=some 35) #[true,true,true,true,true,true,true,true,true,true,true,true,true,true,true,true,true,false,false,false,false,false] rfl rfl (by kernel_rfl) (by decide) (fun K hK=>?_)
 refine goes_ Try.func32 (by kernel_rfl) rfl #[.agg #[.slice A T.length c,.int .i64 a,.int .i64 b,.int .i64 d],.slice A1 rx.length c1,.slice A2 ry.length c2] (by rfl) rfl rfl (by simp only [List.map_toArray,List.map_cons,List.map_nil];rfl) ?_
 with_reducible refine (schema_Compare.calls kc A c T a b d A1 c1 rx A2 c2 ry z _ (Kd.C_below HT2.out.1 HD.out) HT2.out.2 (Kd.C_below HR2.out.1.1 HD.out) HR2.out.1.2 (Kd.C_below HR2.out.2.1 HD.out) HR2.out.2.2 HKC.out).mono ?_
 rintro e w7 ⟨rfl,hb⟩
 refine ⟨_,rfl,?_⟩
 have n0_:=Aside0.mk (below_step HD.out hb)
 clear HD
 have HD:=n0_
 clear n0_
 clear hb
 refine hK.out _ _ ⟨((HD.out.cell (World.block_lt_of_cell? wa _ hp0)).trans hp0),((HD.out.cell (World.block_lt_of_cell? wa _ hp1)).trans hp1),((HD.out.cell (World.block_lt_of_cell? wa _ hp2)).trans hp2),((HD.out.cell (World.block_lt_of_cell? wa _ hp3)).trans hp3),((HD.out.cell (World.block_lt_of_cell? wa _ hg0)).trans hg0),((HD.out.cell (World.block_lt_of_cell? wa _ hg1)).trans hg1),((HD.out.cell (World.block_lt_of_cell? wa _ hg2)).trans hg2),((HD.out.cell (World.block_lt_of_cell? wa _ hg3)).trans hg3),((HD.out.cell (World.block_lt_of_cell? wa _ hr0)).trans hr0),((HD.out.cell (World.block_lt_of_cell? wa _ hr1)).trans hr1)⟩ (fun hHeld=>?_)
 clear hK K
 refine norm_ (a':=?_) ?_ ?_
 rotate_left
 ·show Act.put _ (some 35) _=_
  simp only [Act.put,List.setIfInBounds_toArray,List.set_cons_zero,List.set_cons_succ,i64_w,i32_w]
  rfl
 refine one_ (i:=17) (N:=some 40) #[true,true,true,true,true,true,true,true,true,true,true,true,true,true,true,true,true,true,false,false,false,false] rfl rfl (by kernel_rfl) (by decide) (fun K hK=>?_)
 refine goes_ Try.func72 (by kernel_rfl) rfl #[.int .i64 (sx : Nat),.int .i64 (sy : Nat)] (by rfl) rfl rfl (by simp only [List.map_toArray,List.map_cons,List.map_nil];rfl) ?_
 with_reducible refine (cmp_Compare_int.calls (sx : Nat) (sy : Nat) zi _ HCC.out).mono ?_
 rintro e w7 ⟨rfl,⟨nd,rfl⟩⟩
 refine ⟨_,rfl,?_⟩
 have n0_:=Aside0.mk (pw_below_drewN HD.out nd)
 clear HD
 have HD:=n0_
 clear n0_
 refine hK.out _ _ ⟨((HD.out.cell (World.block_lt_of_cell? wa _ hp0)).trans hp0),((HD.out.cell (World.block_lt_of_cell? wa _ hp1)).trans hp1),((HD.out.cell (World.block_lt_of_cell? wa _ hp2)).trans hp2),((HD.out.cell (World.block_lt_of_cell? wa _ hp3)).trans hp3),((HD.out.cell (World.block_lt_of_cell? wa _ hg0)).trans hg0),((HD.out.cell (World.block_lt_of_cell? wa _ hg1)).trans hg1),((HD.out.cell (World.block_lt_of_cell? wa _ hg2)).trans hg2),((HD.out.cell (World.block_lt_of_cell? wa _ hg3)).trans hg3),((HD.out.cell (World.block_lt_of_cell? wa _ hr0)).trans hr0),((HD.out.cell (World.block_lt_of_cell? wa _ hr1)).trans hr1)⟩ (fun hHeld=>?_)
 clear hK K
 refine norm_ (a':=?_) ?_ ?_
 rotate_left
 ·show Act.put _ (some 40) _=_
  simp only [Act.put,List.setIfInBounds_toArray,List.set_cons_zero,List.set_cons_succ,i64_w,i32_w]
  rfl
 refine one_ (i:=18) (N:=some 41) #[true,true,true,true,true,true,true,true,true,true,true,true,true,true,true,true,true,true,true,false,false,false] rfl rfl (by kernel_rfl) (by decide) (fun K hK=>?_)
 refine Kd.R_lit_step (Kd.int .i64) (w0:=wa) wa.heap.size 3 ?hg (N:=41) ?hd (xs:=([z,zi] : List Int)) (inner:=[.int .i64 z,.int .i64 zi]) (ok:=fun _=>True) (okp:=fun _=>True) ?hr ?hp (fun _ hk=>hk) trivial HD.out (below_size HD.out) (by simp) ?_
 (case hd=>rfl)
 (case hg=>rfl)
 (case hr=>first|(go_simp;done)|(go_simp;rfl))
 (case hp=>exact (Reps.one (show Kd.M (Kd.int .i64) _ _ _ z [.int .i64 z] from rfl) (Reps.one (show Kd.M (Kd.int .i64) _ _ _ zi [.int .i64 zi] from rfl) (Reps.none _ _))))
 intro u41 wb ho hb hg_ hnew_
 clear hg_ hnew_
 have n0_:=Aside0.mk (ho)
 have n1_:=Aside0.mk (hb)
 clear HD
 have HO41:=n0_
 have HD:=n1_
 clear n0_ n1_
 clear hb ho
 refine hK.out _ _ ⟨((HD.out.cell (World.block_lt_of_cell? wa _ hp0)).trans hp0),((HD.out.cell (World.block_lt_of_cell? wa _ hp1)).trans hp1),((HD.out.cell (World.block_lt_of_cell? wa _ hp2)).trans hp2),((HD.out.cell (World.block_lt_of_cell? wa _ hp3)).trans hp3),((HD.out.cell (World.block_lt_of_cell? wa _ hg0)).trans hg0),((HD.out.cell (World.block_lt_of_cell? wa _ hg1)).trans hg1),((HD.out.cell (World.block_lt_of_cell? wa _ hg2)).trans hg2),((HD.out.cell (World.block_lt_of_cell? wa _ hg3)).trans hg3),((HD.out.cell (World.block_lt_of_cell? wa _ hr0)).trans hr0),((HD.out.cell (World.block_lt_of_cell? wa _ hr1)).trans hr1)⟩ (fun hHeld=>?_)
 clear hK K
 refine norm_ (a':=?_) ?_ ?_
 rotate_left
 ·show Act.put _ (some 41) _=_
  simp only [Act.put,List.setIfInBounds_toArray,List.set_cons_zero,List.set_cons_succ,i64_w,i32_w]
  rfl
 refine one_ (i:=19) (N:=some 42) #[true,true,true,true,true,true,true,true,true,true,true,true,true,true,true,true,true,true,true,true,false,false] rfl rfl (by kernel_rfl) (by decide) (fun K hK=>?_)
 obtain ⟨A41,c41,e41⟩:=Kd.R_slice HO41.out
 subst e41
 refine goes_ Try.func71 (by kernel_rfl) rfl #[.slice A41 ([z,zi] : List Int).length c41] (by rfl) rfl rfl (by simp only [List.map_toArray,List.map_cons,List.map_nil];rfl) ?_
 with_reducible refine (cmp_Or_int.calls ko A41 c41 ([z,zi] : List Int) zo _ (Kd.R_reads' HO41.out).2.2 (Kd.R_reads' HO41.out).2.1 HKO.out).mono ?_
 rintro e w7 ⟨rfl,⟨nd,rfl⟩⟩
 refine ⟨_,rfl,?_⟩
 have n0_:=Aside0.mk (pw_below_drewN HD.out nd)
 clear HD
 have HD:=n0_
 clear n0_
 clear HO41
 refine hK.out _ _ ⟨((HD.out.cell (World.block_lt_of_cell? wa _ hp0)).trans hp0),((HD.out.cell (World.block_lt_of_cell? wa _ hp1)).trans hp1),((HD.out.cell (World.block_lt_of_cell? wa _ hp2)).trans hp2),((HD.out.cell (World.block_lt_of_cell? wa _ hp3)).trans hp3),((HD.out.cell (World.block_lt_of_cell? wa _ hg0)).trans hg0),((HD.out.cell (World.block_lt_of_cell? wa _ hg1)).trans hg1),((HD.out.cell (World.block_lt_of_cell? wa _ hg2)).trans hg2),((HD.out.cell (World.block_lt_of_cell? wa _ hg3)).trans hg3),((HD.out.cell (World.block_lt_of_cell? wa _ hr0)).trans hr0),((HD.out.cell (World.block_lt_of_cell? wa _ hr1)).trans hr1)⟩ (fun hHeld=>?_)
 clear hK K
 refine norm_ (a':=?_) ?_ ?_
 rotate_left
 ·show Act.put _ (some 42) _=_
  simp only [Act.put,List.setIfInBounds_toArray,List.set_cons_zero,List.set_cons_succ,i64_w,i32_w]
  rfl
 refine pure_ (i:=20) (N:=some 43) (v:=?_) (a':=?_) #[true,true,true,true,true,true,true,true,true,true,true,true,true,true,true,true,true,true,true,true,true,false] rfl rfl (by kernel_rfl) (fun _ _ _ h=>h) (Or.inl ⟨by rfl,?_⟩) ?_ ?_
 rotate_left;(intro w';go_simp;with_reducible rfl);rotate_left;(simp only [Act.put,List.setIfInBounds_toArray,List.set_cons_zero,List.set_cons_succ,i64_w,i32_w];rfl)
 refine pure_ (i:=21) (N:=some 6) (v:=?_) (a':=?_) #[true,true,true,true,true,true,true,true,true,true,true,true,true,true,true,true,true,true,true,true,true,true] rfl rfl (by kernel_rfl) (fun _ _ _ h=>h) (Or.inl ⟨by rfl,?_⟩) ?_ ?_
 rotate_left;(intro w';go_simp;with_reducible rfl);rotate_left;(simp only [Act.put,List.setIfInBounds_toArray,List.set_cons_zero,List.set_cons_succ,i64_w,i32_w];rfl)
 refine done_ (by kernel_rfl) ?_
 (try clear hHeld)
 go_wp2
 go_ret
 exact ⟨rfl,below_step HB.out HD.out⟩
end Go.Proofs.Ytfiandejapgkoaa.P

/- Pop of the sources. -/
namespace Go.Proofs.Ytfiandejapgkoaa.P
open Go.RowKit Go.Proofs.YtfiandejapgkoaaW.PrintWords Go.Proofs.YtfiandejapgkoaaW.PrintLast Go.Proofs.YtfiandejapgkoaaW.PrintMore
set_option linter.unusedVariables false
set_option linter.unusedSimpArgs false
section
variable {w0 w : World} {gq go cap : Nat} {ql A : Option Addr} {n c : Nat} {a b d : Int} {V : Nat→Nat→Value} {p : List Pl}
theorem cellsM_append (V : Nat→Nat→Value) (p q : List Pl) : cellsM V (p ++ q)=cellsM V p ++ cellsM V q:=by simp [cellsM]
set_option maxHeartbeats 4000000 in
set_option maxRecDepth 100000 in
theorem pop_any (h : MW w0 gq go cap ql A n c a b d V w p) (hV : ∀ i o,∃ A n c,V i o=.slice A n c) (m : Nat) (hm : p.length=m + 1) (hm8 : m≤1000000000) :
  Calls Try.prog 69 #[.pointer (some ⟨gq,0,none⟩)] w fun e w'=>(∃ v,e=.returned v)∧MW w0 gq go cap ql A n c a b d V w' (p.take m)∧Kept w w' (fun k=>k=gq ∨ k=go):=by
 have mixed : Try.prog.follows Departure.mixedOrders=true:=rfl
 have hu54:=Try.underlying54
 have hm1 : m < p.length:=by omega
 obtain ⟨rfl,hcap,junk,hblk⟩:=h.r (ne_of_lt hm1)
 obtain ⟨Ax,nx,cx,hvx⟩:=hV (gt_ z0 p m).1 (gt_ z0 p m).2
 have hc4 : w.cell? ⟨gq,4,none⟩=some (.slice (some ⟨go,0,none⟩) (m + 1) cap):=(blk_cell h.q 4).trans (by rw [hm];rfl)
 have hf4:=blk_frozen h.q 4
 have hx0 : w.cell? ⟨go,m * 2,none⟩=some (.slice Ax nx cx):=by rw [h.c0 m hm1,hvx]
 have hx1:=h.c1 m hm1
 have ew : wrap64 (((m + 1 : Nat) : Int) - 1)=(m : Int):=by rw [w64 (by omega) (by omega)];omega
 have q0 : (0≤(m : Int))=True:=eq_true (by omega)
 have q1 : ((m : Int) < ((m + 1 : Nat) : Int))=True:=eq_true (by omega)
 have q2 : ((m : Int)≤(cap : Int))=True:=eq_true (by omega)
 have q3 : (cap=0)=False:=eq_false (by omega)
 have hne : gq≠go:=blk_ne h.q hblk (by decide)
 have hfin : ∀ W W2,Below w.heap.size w W→Below (W.setCell ⟨gq,4,none⟩ (.slice (some ⟨go,0,none⟩) m cap)).heap.size (W.setCell ⟨gq,4,none⟩ (.slice (some ⟨go,0,none⟩) m cap)) W2→MW w0 gq go cap (some ⟨go,0,none⟩) A n c a b d V W2 (p.take m)∧Kept w W2 (fun k=>k=gq ∨ k=go):=by
  intro W W2 hb hb2
  have h1:=h.step hb
  have hk : Kept w W2 (fun k=>k=gq ∨ k=go):=(((Kept.refl w _).below hb).setCell (p:=⟨gq,4,none⟩) (.inl (.inl rfl)) _).below hb2
  have hb3 : Below w0.heap.size w0 W2:=(h1.b.setCell (p:=⟨gq,4,none⟩) h.gq0 _).trans (hb2.mono (h1.b.setCell (p:=⟨gq,4,none⟩) h.gq0 _).size)
  have hq2:=blk_set h1.q 4 (.slice (some ⟨go,0,none⟩) m cap)
  obtain ⟨_,_,j2,hr1⟩:=h1.r (ne_of_lt hm1)
  have hlen : (p.take m).length=m:=by rw [List.length_take];omega
  have hpm : p=p.take m ++ [gt_ z0 p m]:=by
   have e:=List.take_append_drop m p
   rw [List.drop_eq_getElem_cons hm1,List.drop_of_length_le (by omega)] at e
   rw [gt_lt z0 hm1]
   exact e.symm
  refine ⟨⟨?_,fun _=>⟨rfl,by rw [hlen];omega,srcC V (gt_ z0 p m) ++ j2,?_⟩,hb3,h.gq0,h.go0⟩,hk⟩
  ·rw [hlen]
   exact blk_below hq2 hb2
  ·have h5:=blk_below (blk_far (p:=⟨gq,4,none⟩) hr1 (fun e=>hne e.symm) (.slice (some ⟨go,0,none⟩) m cap)) hb2
   rw [h5]
   have e5 : cellsM V p=cellsM V (p.take m) ++ srcC V (gt_ z0 p m):=by
    conv=>lhs;rw [hpm]
    rw [cellsM_append]
    simp [cellsM]
   rw [e5,List.append_assoc]
 have HF:=Aside0.mk hfin
 have hgl : gq < w.heap.size:=blk_lt h.q
 obtain ⟨ob,hob⟩ : ∃ ob : Obj,ob=.cells #[.slice Ax nx cx,.int .i64 ((gt_ z0 p m).1 : Nat)] 54 (0,0):=⟨_,rfl⟩
 have hB1 : Below w.heap.size w (w.alloc ob):=below_alloc (Below.refl _ _) _
 have hn1 : (w.alloc ob).heap[w.heap.size]?=some ob:=blk_new w ob
 have h14 : (w.alloc ob).cell? ⟨gq,4,none⟩=some (.slice (some ⟨go,0,none⟩) (m + 1) cap):=(hB1.cell (p:=⟨gq,4,none⟩) hgl).trans hc4
 have hf14 : (w.alloc ob).frozen? ⟨gq,4,none⟩=false:=(hB1.frozen (p:=⟨gq,4,none⟩) hgl).trans hf4
 rw [hob] at hn1
 have hn2:=blk_far (p:=⟨gq,4,none⟩) hn1 (show w.heap.size≠gq by omega) (.slice (some ⟨go,0,none⟩) m cap)
 have hn20 : _=some (Value.slice Ax nx cx):=(blk_cell hn2 0).trans rfl
 have hn21 : _=some (Value.int .i64 ((gt_ z0 p m).1 : Nat)):=(blk_cell hn2 1).trans rfl
 have HB1:=Aside0.mk hB1
 clear hn1 hn2 hB1
 rw [hob] at h14 hf14 HB1
 clear hfin h hm hm1 hblk hvx hne hob hgl
 go_enter Try.func69,Try.ntmps69
 go_wp2
 go_ret
 exact ⟨⟨_,rfl⟩,HF.out _ _ HB1.out (Below.refl _ _)⟩
end
end Go.Proofs.Ytfiandejapgkoaa.P

/- container/heap's down over the sources. -/
namespace Go.Proofs.Ytfiandejapgkoaa.P
open Go.RowKit Go.Proofs.YtfiandejapgkoaaW.PrintWords Go.Proofs.YtfiandejapgkoaaW.PrintLast Go.Proofs.YtfiandejapgkoaaW.PrintMore
set_option linter.unusedVariables false
set_option linter.unusedSimpArgs false
theorem srcV_slice (l : List (List (List XV))) (ad : Nat→Addr) (cp : Nat→Nat) : ∀ i o,∃ A n c,srcV l ad cp i o=.slice A n c:=fun i o=>⟨_,_,_,rfl⟩
theorem dn_stop {E : Type} (e0 : E) (lt : E→E→Bool) (n : Nat) : ∀ (f i : Nat) (p : List E),¬ 2 * i + 1 < n→dn e0 lt n f i p=(p,i)
 | 0,_,_,_=>rfl
 | f + 1,i,p,h=>by unfold dn;rw [if_neg h]
structure RetB (e : Ending) : Prop where
 ex : ∃ x : Bool,e=.returned (.bool x)
structure HG (w0 : World) (P1 : Nat→Prop) (l : List (List (List XV))) (ad : Nat→Addr) (cp : Nat→Nat) (RV : Nat→Nat→Value) (A : Option Addr) (c : Nat) (T : List Int) : Prop where
 parts : PartsAt w0 P1 l ad cp RV
 hT : Kd.C (Kd.int .i64) w0 A T.length T
 hc : T.length≤c
 hT8 : T.length≤1000000000
set_option maxHeartbeats 8000000 in
set_option maxRecDepth 100000 in
theorem down_any {w0 : World} {P1 : Nat→Prop} {l : List (List (List XV))} {ad : Nat→Addr} {cp : Nat→Nat} {RV : Nat→Nat→Value} {A : Option Addr} {c : Nat} {T : List Int} (hG : HG w0 P1 l ad cp RV A c T)
  {gq go cap : Nat} {ql : Option Addr} {a b d : Int} {w : World} {p : List Pl} (h : MW w0 gq go cap ql A T.length c a b d (srcV l ad cp) w p) (i0 n : Nat) (hn : n≤p.length) (hn8 : n≤1000000000) (hi8 : i0≤1000000000) (hl : ∀ k,k < n→Live (lenOf l) (gt_ z0 p k)) :
  Calls Try.prog 29 #[.iface 49 (.pointer (some ⟨gq,0,none⟩)),.int .i64 (i0 : Nat),.int .i64 (n : Nat)] w fun e w'=>RetB e∧MW w0 gq go cap ql A T.length c a b d (srcV l ad cp) w' (dn z0 (lessM T a l) n n i0 p).1∧Kept w w' (fun k=>k=gq ∨ k=go):=by
 have mixed : Try.prog.follows Departure.mixedOrders=true:=rfl
 have HG0:=Aside0.mk hG
 have H:=Aside0.mk h
 have HN:=Aside0.mk (And.intro hn (And.intro hn8 hi8))
 have HL:=Aside0.mk hl
 clear hG h hn hn8 hi8 hl
 go_enter Try.func29,Try.ntmps29
 go_wp2
 go_loopg [7] n (fun gk v7 wr=>∃ (i : Nat) (q : List Pl),v7=.int .i64 i∧Aside0 (n≤gk + i∧q.length=p.length∧i≤2000000002)∧Aside0 (∀ k,k < n→Live (lenOf l) (gt_ z0 q k))∧Aside0 (MW w0 gq go cap ql A T.length c a b d (srcV l ad cp) wr q)∧Aside0 (Kept w wr (fun k=>k=gq ∨ k=go))∧Aside0 ((dn z0 (lessM T a l) n n i0 p).1=(dn z0 (lessM T a l) n gk i q).1))
 case atStart=>exact ⟨i0,p,rfl,⟨by have:=HN.out;omega⟩,HL,H,⟨Kept.refl _ _⟩,⟨rfl⟩⟩
 case round =>
  clear H HL
  obtain ⟨i,q,rfl,HK,HL,H,HKP,HE⟩:=hrel
  obtain ⟨m2,hm2⟩ : ∃ m2,m2=2 * i:=⟨_,rfl⟩
  obtain ⟨j1,hj1⟩ : ∃ j1,j1=m2 + 1:=⟨_,rfl⟩
  obtain ⟨j2,hj2⟩ : ∃ j2,j2=j1 + 1:=⟨_,rfl⟩
  have e1 : wrap64 (2 * (i : Int))=(m2 : Int):=by rw [w64 (by omega) (by have:=HK.out;omega)];omega
  have e2 : wrap64 ((m2 : Int) + 1)=(j1 : Int):=by rw [w64 (by omega) (by have:=HK.out;omega)];omega
  have e3 : wrap64 ((j1 : Int) + 1)=(j2 : Int):=by rw [w64 (by omega) (by have:=HK.out;omega)];omega
  have c2 : decide ((j1 : Int) < 0)=false:=decide_eq_false (by omega)
  have c2b : ((j1 : Int) < 0)=False:=eq_false (by omega)
  have HJ:=Aside0.mk (And.intro hm2 (And.intro hj1 hj2))
  clear hm2 hj1 hj2
  by_cases h1 : j1 < n
  ·have c1 : decide ((j1 : Int) ≥ (n : Int))=false:=decide_eq_false (by omega)
   have c1b : ((n : Int)≤(j1 : Int))=False:=eq_false (by omega)
   obtain ⟨gk1,hgk⟩ : ∃ m,gk=m + 1:=⟨gk - 1,by have:=HK.out;have:=HJ.out;omega⟩
   have HGK:=Aside0.mk hgk
   have hE:=HE.out
   rw [hgk,dn,if_pos (show 2 * i + 1 < n by have:=HJ.out;omega)] at hE
   have HE2:=Aside0.mk hE
   clear hE HE hgk
   have H1:=Aside0.mk h1
   clear h1
   by_cases h2 : j2 < n
   ·have c3 : decide ((j2 : Int) < (n : Int))=true:=decide_eq_true (by omega)
    have c3b : ((j2 : Int) < (n : Int))=True:=eq_true (by omega)
    have H2:=Aside0.mk h2
    clear h2
    obtain ⟨x,hx⟩ : ∃ x,x=lessM T a l (gt_ z0 q j2) (gt_ z0 q j1):=⟨_,rfl⟩
    have LX:=less_any HG0.out.parts HG0.out.hT HG0.out.hc HG0.out.hT8 H.out j2 j1 (by have:=H2.out;have:=HK.out;have:=HN.out;omega) (by have:=H1.out;have:=HK.out;have:=HN.out;omega) (HL.out j2 H2.out) (HL.out j1 H1.out)
    rw [← hx] at LX
    have HLX:=Aside0.mk LX
    have HX:=Aside0.mk hx
    clear LX hx
    cases x with
    | true =>
     go_wp2_with (go_at_call 68;fail)
     refine HLX.out.mono ?_
     rintro e w9 ⟨rfl,hb⟩
     have n0_:=Aside0.mk (H.out.step hb)
     have n1_:=Aside0.mk (HKP.out.below hb)
     clear H HKP
     have H:=n0_
     have HKP:=n1_
     clear n0_ n1_
     clear hb
     have PK:=Aside0.mk (show pick z0 (lessM T a l) n i q=j2 by unfold pick;rw [show 2 * i + 2=j2 by have:=HJ.out;omega,show 2 * i + 1=j1 by have:=HJ.out;omega,if_pos ⟨H2.out,HX.out.symm⟩])
     have CC:=Aside0.mk (show j2 < n∧(j2=2 * i + 1 ∨ j2=2 * i + 2) from ⟨H2.out,by have:=HJ.out;omega⟩)
     clear HLX HX
     have hE:=HE2.out
     rw [PK.out] at hE
     have HE3:=Aside0.mk hE
     clear hE HE2
     obtain ⟨y,hy⟩ : ∃ y,y=lessM T a l (gt_ z0 q j2) (gt_ z0 q i):=⟨_,rfl⟩
     have LY:=less_any HG0.out.parts HG0.out.hT HG0.out.hc HG0.out.hT8 H.out j2 i (by have:=CC.out;have:=HK.out;have:=HN.out;omega) (by have:=CC.out;have:=HK.out;have:=HN.out;omega) (HL.out j2 CC.out.1) (HL.out i (by have:=CC.out;omega))
     rw [← hy] at LY
     have HLY:=Aside0.mk LY
     have HY:=Aside0.mk hy
     clear LY hy
     cases y with
     | true =>
      go_wp2_with (go_at_call 68;fail)
      refine HLY.out.mono ?_
      rintro e w8 ⟨rfl,hb⟩
      have n0_:=Aside0.mk (H.out.step hb)
      have n1_:=Aside0.mk (HKP.out.below hb)
      clear H HKP
      have H:=n0_
      have HKP:=n1_
      clear n0_ n1_
      clear hb
      clear HLY
      go_wp2_with (go_at_call 70;fail)
      refine (swap_any H.out (srcV_slice l ad cp) i j2 (by have:=CC.out;have:=HK.out;have:=HN.out;omega) (by have:=CC.out;have:=HK.out;have:=HN.out;omega)).mono ?_
      rintro e w7 ⟨rfl,hS,hk⟩
      have n0_:=Aside0.mk hS
      have n1_:=Aside0.mk (HKP.out.then_ hk (fun _ h2=>.inl h2))
      clear H HKP hS hk
      have H:=n0_
      have HKP:=n1_
      clear n0_ n1_
      go_wp2
      go_roundg gk1
      case measure=>have:=HGK.out;omega
      case rel =>
       refine ⟨j2,swp z0 q i j2,rfl,⟨by have:=HK.out;have:=CC.out;have:=HGK.out;have:=HN.out;rw [swp_length];omega⟩,⟨fun k hk=>?_⟩,H,HKP,⟨?_⟩⟩
       ·have hq:=HK.out.2.1
        have hc:=CC.out
        have hn:=HN.out
        rw [gt_swp z0 q i j2 k (by omega) (by omega)]
        split
        ·exact HL.out i (by omega)
        ·split
         ·exact HL.out j2 (by omega)
         ·exact HL.out k hk
       ·have hE:=HE3.out
        rw [if_pos HY.out.symm] at hE
        exact hE
     | false =>
      go_wp2_with (go_at_call 68;fail)
      refine HLY.out.mono ?_
      rintro e w8 ⟨rfl,hb⟩
      have n0_:=Aside0.mk (H.out.step hb)
      have n1_:=Aside0.mk (HKP.out.below hb)
      clear H HKP
      have H:=n0_
      have HKP:=n1_
      clear n0_ n1_
      clear hb
      clear HLY
      go_wp2
      go_ret
      refine ⟨⟨⟨_,rfl⟩⟩,?_,HKP.out⟩
      have hE:=HE3.out
      rw [← HY.out,if_neg (by simp)] at hE
      rw [hE]
      exact H.out
    | false =>
     go_wp2_with (go_at_call 68;fail)
     refine HLX.out.mono ?_
     rintro e w9 ⟨rfl,hb⟩
     have n0_:=Aside0.mk (H.out.step hb)
     have n1_:=Aside0.mk (HKP.out.below hb)
     clear H HKP
     have H:=n0_
     have HKP:=n1_
     clear n0_ n1_
     clear hb
     have PK:=Aside0.mk (show pick z0 (lessM T a l) n i q=j1 by unfold pick;rw [show 2 * i + 2=j2 by have:=HJ.out;omega,show 2 * i + 1=j1 by have:=HJ.out;omega,← HX.out,if_neg (fun h=>by simp at h)])
     have CC:=Aside0.mk (show j1 < n∧(j1=2 * i + 1 ∨ j1=2 * i + 2) from ⟨H1.out,by have:=HJ.out;omega⟩)
     clear HLX HX
     have hE:=HE2.out
     rw [PK.out] at hE
     have HE3:=Aside0.mk hE
     clear hE HE2
     obtain ⟨y,hy⟩ : ∃ y,y=lessM T a l (gt_ z0 q j1) (gt_ z0 q i):=⟨_,rfl⟩
     have LY:=less_any HG0.out.parts HG0.out.hT HG0.out.hc HG0.out.hT8 H.out j1 i (by have:=CC.out;have:=HK.out;have:=HN.out;omega) (by have:=CC.out;have:=HK.out;have:=HN.out;omega) (HL.out j1 CC.out.1) (HL.out i (by have:=CC.out;omega))
     rw [← hy] at LY
     have HLY:=Aside0.mk LY
     have HY:=Aside0.mk hy
     clear LY hy
     cases y with
     | true =>
      go_wp2_with (go_at_call 68;fail)
      refine HLY.out.mono ?_
      rintro e w8 ⟨rfl,hb⟩
      have n0_:=Aside0.mk (H.out.step hb)
      have n1_:=Aside0.mk (HKP.out.below hb)
      clear H HKP
      have H:=n0_
      have HKP:=n1_
      clear n0_ n1_
      clear hb
      clear HLY
      go_wp2_with (go_at_call 70;fail)
      refine (swap_any H.out (srcV_slice l ad cp) i j1 (by have:=CC.out;have:=HK.out;have:=HN.out;omega) (by have:=CC.out;have:=HK.out;have:=HN.out;omega)).mono ?_
      rintro e w7 ⟨rfl,hS,hk⟩
      have n0_:=Aside0.mk hS
      have n1_:=Aside0.mk (HKP.out.then_ hk (fun _ h2=>.inl h2))
      clear H HKP hS hk
      have H:=n0_
      have HKP:=n1_
      clear n0_ n1_
      go_wp2
      go_roundg gk1
      case measure=>have:=HGK.out;omega
      case rel =>
       refine ⟨j1,swp z0 q i j1,rfl,⟨by have:=HK.out;have:=CC.out;have:=HGK.out;have:=HN.out;rw [swp_length];omega⟩,⟨fun k hk=>?_⟩,H,HKP,⟨?_⟩⟩
       ·have hq:=HK.out.2.1
        have hc:=CC.out
        have hn:=HN.out
        rw [gt_swp z0 q i j1 k (by omega) (by omega)]
        split
        ·exact HL.out i (by omega)
        ·split
         ·exact HL.out j1 (by omega)
         ·exact HL.out k hk
       ·have hE:=HE3.out
        rw [if_pos HY.out.symm] at hE
        exact hE
     | false =>
      go_wp2_with (go_at_call 68;fail)
      refine HLY.out.mono ?_
      rintro e w8 ⟨rfl,hb⟩
      have n0_:=Aside0.mk (H.out.step hb)
      have n1_:=Aside0.mk (HKP.out.below hb)
      clear H HKP
      have H:=n0_
      have HKP:=n1_
      clear n0_ n1_
      clear hb
      clear HLY
      go_wp2
      go_ret
      refine ⟨⟨⟨_,rfl⟩⟩,?_,HKP.out⟩
      have hE:=HE3.out
      rw [← HY.out,if_neg (by simp)] at hE
      rw [hE]
      exact H.out
   ·have c3 : decide ((j2 : Int) < (n : Int))=false:=decide_eq_false (by omega)
    have c3b : ((j2 : Int) < (n : Int))=False:=eq_false (by omega)
    have PK:=Aside0.mk (show pick z0 (lessM T a l) n i q=j1 by unfold pick;rw [if_neg (fun h=>h2 (by have:=HJ.out;have:=h.1;omega))];have:=HJ.out;omega)
    have CC:=Aside0.mk (show j1 < n∧(j1=2 * i + 1 ∨ j1=2 * i + 2) from ⟨H1.out,by have:=HJ.out;omega⟩)
    clear h2
    have hE:=HE2.out
    rw [PK.out] at hE
    have HE3:=Aside0.mk hE
    clear hE HE2
    obtain ⟨y,hy⟩ : ∃ y,y=lessM T a l (gt_ z0 q j1) (gt_ z0 q i):=⟨_,rfl⟩
    have LY:=less_any HG0.out.parts HG0.out.hT HG0.out.hc HG0.out.hT8 H.out j1 i (by have:=CC.out;have:=HK.out;have:=HN.out;omega) (by have:=CC.out;have:=HK.out;have:=HN.out;omega) (HL.out j1 CC.out.1) (HL.out i (by have:=CC.out;omega))
    rw [← hy] at LY
    have HLY:=Aside0.mk LY
    have HY:=Aside0.mk hy
    clear LY hy
    cases y with
    | true =>
     go_wp2_with (go_at_call 68;fail)
     refine HLY.out.mono ?_
     rintro e w8 ⟨rfl,hb⟩
     have n0_:=Aside0.mk (H.out.step hb)
     have n1_:=Aside0.mk (HKP.out.below hb)
     clear H HKP
     have H:=n0_
     have HKP:=n1_
     clear n0_ n1_
     clear hb
     clear HLY
     go_wp2_with (go_at_call 70;fail)
     refine (swap_any H.out (srcV_slice l ad cp) i j1 (by have:=CC.out;have:=HK.out;have:=HN.out;omega) (by have:=CC.out;have:=HK.out;have:=HN.out;omega)).mono ?_
     rintro e w7 ⟨rfl,hS,hk⟩
     have n0_:=Aside0.mk hS
     have n1_:=Aside0.mk (HKP.out.then_ hk (fun _ h2=>.inl h2))
     clear H HKP hS hk
     have H:=n0_
     have HKP:=n1_
     clear n0_ n1_
     go_wp2
     go_roundg gk1
     case measure=>have:=HGK.out;omega
     case rel =>
      refine ⟨j1,swp z0 q i j1,rfl,⟨by have:=HK.out;have:=CC.out;have:=HGK.out;have:=HN.out;rw [swp_length];omega⟩,⟨fun k hk=>?_⟩,H,HKP,⟨?_⟩⟩
      ·have hq:=HK.out.2.1
       have hc:=CC.out
       have hn:=HN.out
       rw [gt_swp z0 q i j1 k (by omega) (by omega)]
       split
       ·exact HL.out i (by omega)
       ·split
        ·exact HL.out j1 (by omega)
        ·exact HL.out k hk
      ·have hE:=HE3.out
       rw [if_pos HY.out.symm] at hE
       exact hE
    | false =>
     go_wp2_with (go_at_call 68;fail)
     refine HLY.out.mono ?_
     rintro e w8 ⟨rfl,hb⟩
     have n0_:=Aside0.mk (H.out.step hb)
     have n1_:=Aside0.mk (HKP.out.below hb)
     clear H HKP
     have H:=n0_
     have HKP:=n1_
     clear n0_ n1_
     clear hb
     clear HLY
     go_wp2
     go_ret
     refine ⟨⟨⟨_,rfl⟩⟩,?_,HKP.out⟩
     have hE:=HE3.out
     rw [← HY.out,if_neg (by simp)] at hE
     rw [hE]
     exact H.out
  ·have c1 : decide ((j1 : Int) ≥ (n : Int))=true:=decide_eq_true (by omega)
   have c1b : ((n : Int)≤(j1 : Int))=True:=eq_true (by omega)
   have hE:=HE.out
   rw [dn_stop z0 (lessM T a l) n gk i q (by have:=HJ.out;omega)] at hE
   have HE2:=Aside0.mk hE
   clear hE HE h1
   go_wp2
   go_ret
   exact ⟨⟨⟨_,rfl⟩⟩,by rw [HE2.out];exact H.out,HKP.out⟩
end Go.Proofs.Ytfiandejapgkoaa.P

/- container/heap's up (at the first place), Fix (there), Pop and Init over the sources. -/
namespace Go.Proofs.Ytfiandejapgkoaa.P
open Go.RowKit Go.Proofs.YtfiandejapgkoaaW.PrintWords Go.Proofs.YtfiandejapgkoaaW.PrintLast Go.Proofs.YtfiandejapgkoaaW.PrintMore
set_option linter.unusedVariables false
set_option linter.unusedSimpArgs false
set_option maxHeartbeats 4000000 in
set_option maxRecDepth 100000 in
theorem up_any (gq : Nat) (w : World) :
  Calls Try.prog 30 #[.iface 49 (.pointer (some ⟨gq,0,none⟩)),.int .i64 0] w fun e w'=>e=.returned (.tuple #[])∧Below w.heap.size w w':=by
 have mixed : Try.prog.follows Departure.mixedOrders=true:=rfl
 have HB:=Aside0.mk (Below.refl w.heap.size w)
 go_enter Try.func30,Try.ntmps30
 go_wp2
 go_loopg [1] 1 (fun gk v1 wr=>v1=.int .i64 0∧gk=1∧Aside0 (Below w.heap.size w wr))
 case atStart=>exact ⟨rfl,rfl,HB⟩
 case round =>
  clear HB
  obtain ⟨rfl,rfl,HB⟩:=hrel
  have e1 : wrap64 ((0 : Int) - 1)=-1:=w64 (by omega) (by omega)
  go_wp2
  go_end0
  exact ⟨rfl,HB.out⟩
section
variable {w0 : World} {P1 : Nat→Prop} {l : List (List (List XV))} {ad : Nat→Addr} {cp : Nat→Nat} {RV : Nat→Nat→Value} {A : Option Addr} {c : Nat} {T : List Int} {gq go cap : Nat} {ql : Option Addr} {a b d : Int} {w : World} {p : List Pl}
set_option maxHeartbeats 4000000 in
set_option maxRecDepth 100000 in
theorem fix_any (hG : HG w0 P1 l ad cp RV A c T) (h : MW w0 gq go cap ql A T.length c a b d (srcV l ad cp) w p) (hp8 : p.length≤1000000000) (hl : ∀ s ∈ p,Live (lenOf l) s) :
  Calls Try.prog 22 #[.iface 49 (.pointer (some ⟨gq,0,none⟩)),.int .i64 0] w fun e w'=>e=.returned (.tuple #[])∧MW w0 gq go cap ql A T.length c a b d (srcV l ad cp) w' (fixH (lessM T a l) p)∧Kept w w' (fun k=>k=gq ∨ k=go):=by
 have mixed : Try.prog.follows Departure.mixedOrders=true:=rfl
 have HL:=Aside0.mk (len_any h)
 have H:=Aside0.mk h
 have HGG:=Aside0.mk hG
 have HLL:=Aside0.mk hl
 have HP8:=Aside0.mk hp8
 clear h hG hl hp8
 go_enter Try.func22,Try.ntmps22
 go_wp2_with (go_at_call 20;fail)
 refine HL.out.mono ?_
 rintro e w9 ⟨rfl,hb⟩
 have H2:=Aside0.mk (H.out.step hb)
 have HK:=Aside0.mk (Kept.of_below hb (fun k=>k=gq ∨ k=go))
 clear HL H hb
 go_wp2_with (go_at_call 29;fail)
 refine (down_any HGG.out H2.out 0 p.length (Nat.le_refl _) HP8.out (by omega) (fun k hk=>HLL.out _ (gt_mem z0 hk))).mono ?_
 rintro e w8 ⟨⟨⟨x,rfl⟩⟩,h3,hk⟩
 have H3:=Aside0.mk h3
 have HK3:=Aside0.mk (HK.out.then_ hk (fun _ h2=>.inl h2))
 clear H2 HK h3 hk HLL HP8 HGG
 cases x with
 | true =>
  go_wp2
  go_end0
  exact ⟨rfl,H3.out,HK3.out⟩
 | false =>
  go_wp2_with (go_at_call 30;fail)
  refine (up_any gq _).mono ?_
  rintro e w7 ⟨rfl,hb⟩
  have H4:=Aside0.mk (And.intro (H3.out.step hb) (HK3.out.below hb))
  clear H3 HK3 hb
  go_wp2
  go_end0
  exact ⟨rfl,H4.out.1,H4.out.2⟩
set_option maxHeartbeats 4000000 in
set_option maxRecDepth 100000 in
theorem hpop_any (hG : HG w0 P1 l ad cp RV A c T) (h : MW w0 gq go cap ql A T.length c a b d (srcV l ad cp) w p) (m : Nat) (hm : p.length=m + 1) (hm8 : m≤1000000000) (hl : ∀ k,0 < k→k < p.length→Live (lenOf l) (gt_ z0 p k)) :
  Calls Try.prog 21 #[.iface 49 (.pointer (some ⟨gq,0,none⟩))] w fun e w'=>(∃ v,e=.returned v)∧MW w0 gq go cap ql A T.length c a b d (srcV l ad cp) w' (popH (lessM T a l) p)∧Kept w w' (fun k=>k=gq ∨ k=go):=by
 have mixed : Try.prog.follows Departure.mixedOrders=true:=rfl
 have HL:=Aside0.mk (len_any h)
 have H:=Aside0.mk h
 have HGG:=Aside0.mk hG
 have HLL:=Aside0.mk hl
 have HM:=Aside0.mk (And.intro hm hm8)
 rw [hm] at HL
 have ew : wrap64 (m : Int)=(m : Int):=w64 (by omega) (by omega)
 clear h hG hl hm hm8
 go_enter Try.func21,Try.ntmps21
 go_wp2_with (go_at_call 20;fail)
 refine HL.out.mono ?_
 rintro e w9 ⟨rfl,hb⟩
 have H2:=Aside0.mk (H.out.step hb)
 have HK:=Aside0.mk (Kept.of_below hb (fun k=>k=gq ∨ k=go))
 clear HL H hb
 go_wp2_with (go_at_call 70;fail)
 refine (swap_any H2.out (srcV_slice l ad cp) 0 m (by have:=HM.out;omega) (by have:=HM.out;omega)).mono ?_
 rintro e w8 ⟨rfl,h3,hk⟩
 have H3:=Aside0.mk h3
 have HK3:=Aside0.mk (HK.out.then_ hk (fun _ h2=>.inl h2))
 clear H2 HK h3 hk
 go_wp2_with (go_at_call 29;fail)
 refine (down_any HGG.out H3.out 0 m (by have:=HM.out;rw [swp_length];omega) HM.out.2 (by omega) (fun k hk=>by
  have hm:=HM.out.1
  rw [gt_swp z0 p 0 m k (by omega) (by omega),if_neg (by omega)]
  split
  ·exact HLL.out m (by omega) (by omega)
  ·exact HLL.out k (by omega) (by omega))).mono ?_
 rintro e w7 ⟨⟨⟨x,rfl⟩⟩,h4,hk⟩
 have H4:=Aside0.mk h4
 have HK4:=Aside0.mk (HK3.out.then_ hk (fun _ h2=>.inl h2))
 clear H3 HK3 h4 hk HLL HGG
 go_wp2_with (go_at_call 69;fail)
 refine (pop_any H4.out (srcV_slice l ad cp) m (by rw [dn_length _ _ _ _ _ _ (by have:=HM.out;rw [swp_length];omega),swp_length];exact HM.out.1) HM.out.2).mono ?_
 rintro e w6 ⟨⟨v,rfl⟩,h5,hk⟩
 have H5:=Aside0.mk h5
 have HK5:=Aside0.mk (HK4.out.then_ hk (fun _ h2=>.inl h2))
 clear H4 HK4 h5 hk
 go_wp2
 go_ret
 refine ⟨⟨_,rfl⟩,?_,HK5.out⟩
 unfold popH
 rw [show p.length - 1=m by have:=HM.out;omega]
 exact H5.out
set_option maxHeartbeats 4000000 in
set_option maxRecDepth 100000 in
theorem init_any (hG : HG w0 P1 l ad cp RV A c T) (h : MW w0 gq go cap ql A T.length c a b d (srcV l ad cp) w p) (hp8 : p.length≤1000000000) (hl : ∀ s ∈ p,Live (lenOf l) s) :
  Calls Try.prog 19 #[.iface 49 (.pointer (some ⟨gq,0,none⟩))] w fun e w'=>e=.returned (.tuple #[])∧MW w0 gq go cap ql A T.length c a b d (srcV l ad cp) w' (initH z0 (lessM T a l) p.length (p.length / 2) p)∧Kept w w' (fun k=>k=gq ∨ k=go):=by
 have mixed : Try.prog.follows Departure.mixedOrders=true:=rfl
 have HL:=Aside0.mk (len_any h)
 have H:=Aside0.mk h
 have HGG:=Aside0.mk hG
 have HLL:=Aside0.mk hl
 have HP8:=Aside0.mk hp8
 clear h hG hl hp8
 obtain ⟨hh,hhh⟩ : ∃ hh,hh=p.length / 2:=⟨_,rfl⟩
 have e0 : wrap64 ((p.length : Int) / 2)=(hh : Int):=by rw [w64 (by omega) (by have:=HP8.out;omega)];omega
 have HH:=Aside0.mk hhh
 clear hhh
 have e1 : wrap64 ((hh : Int) - 1)=(hh : Int) - 1:=w64 (by omega) (by have:=HP8.out;have:=HH.out;omega)
 go_enter Try.func19,Try.ntmps19
 go_wp2_with (go_at_call 20;fail)
 refine HL.out.mono ?_
 rintro e w9 ⟨rfl,hb⟩
 have H2:=Aside0.mk (H.out.step hb)
 have HK:=Aside0.mk (Kept.of_below hb (fun k=>k=gq ∨ k=go))
 clear HL H hb
 go_wp2
 go_loopg [3] hh (fun gk v3 wr=>∃ (q : List Pl),v3=.int .i64 ((gk : Int) - 1)∧Aside0 (gk≤hh∧q.Perm p)∧Aside0 (MW w0 gq go cap ql A T.length c a b d (srcV l ad cp) wr q)∧Aside0 (Kept w wr (fun k=>k=gq ∨ k=go))∧Aside0 (initH z0 (lessM T a l) p.length (p.length / 2) p=initH z0 (lessM T a l) p.length gk q))
 case atStart=>exact ⟨p,by rw [e1],⟨Nat.le_refl _,List.Perm.refl _⟩,H2,HK,⟨by rw [HH.out]⟩⟩
 case round =>
  clear H2 HK e0 e1
  obtain ⟨q,rfl,HQ,H,HKP,HE⟩:=hrel
  cases gk with
  | zero =>
   have c0 : decide (((0 : Nat) : Int) - 1 ≥ 0)=false:=by decide
   go_wp2
   go_end0
   refine ⟨rfl,?_,HKP.out⟩
   rw [HE.out]
   exact H.out
  | succ m =>
   have ez : ((m + 1 : Nat) : Int) - 1=(m : Int):=by omega
   have c0 : decide ((m : Int) ≥ 0)=true:=decide_eq_true (by omega)
   have c0b : (0≤(m : Int))=True:=eq_true (by omega)
   have e2 : wrap64 ((m : Int) - 1)=(m : Int) - 1:=w64 (by omega) (by have:=HP8.out;have:=HH.out;have:=HQ.out.1;omega)
   rw [ez]
   clear ez
   go_wp2_with (go_at_call 29;fail)
   refine (down_any HGG.out H.out m p.length (by rw [HQ.out.2.length_eq];exact Nat.le_refl _) HP8.out (by have:=HP8.out;have:=HH.out;have:=HQ.out.1;omega) (fun k hk=>HLL.out _ (HQ.out.2.mem_iff.mp (gt_mem z0 (by rw [HQ.out.2.length_eq];exact hk))))).mono ?_
   rintro e w8 ⟨⟨⟨x,rfl⟩⟩,h3,hk⟩
   have H3:=Aside0.mk h3
   have HK3:=Aside0.mk (HKP.out.then_ hk (fun _ h2=>.inl h2))
   clear H HKP h3 hk
   go_wp2
   go_roundg m
   case measure=>omega
   case rel=>exact ⟨_,by rw [e2],⟨by have:=HQ.out.1;omega,(dn_perm z0 (lessM T a l) _ _ _ _ (by rw [HQ.out.2.length_eq];exact Nat.le_refl _)).trans HQ.out.2⟩,H3,HK3,HE⟩
end
end Go.Proofs.Ytfiandejapgkoaa.P

/- The parts as merge.Rows is given them. -/
namespace Go.Proofs.Ytfiandejapgkoaa.P
open Go.RowKit Go.Proofs.YtfiandejapgkoaaW.PrintWords Go.Proofs.YtfiandejapgkoaaW.PrintLast Go.Proofs.YtfiandejapgkoaaW.PrintMore
set_option linter.unusedVariables false
set_option linter.unusedSimpArgs false
theorem lenOf_ge {l : List (List (List XV))} {i : Nat} (h : ¬ i < l.length) : lenOf l i=0:=by
 unfold lenOf
 simp [List.getD,h]
theorem parts_at (w : World) (P1 : Nat→Prop) (B : Option Addr) (e : Nat) (l : List (List (List XV)))
  (h : Kd.V (Kd.slice 33 (Kd.slice 31 k31)) 28 w w.heap.size (fun k_=>P1 k_) (.slice B l.length e) l) :
  ∃ ad cp RV,PartsAt w P1 l ad cp RV∧∀ i,i < l.length→∃ adB A0,B=some adB∧w.cell? (adB.add i)=some (.slice A0 (lenOf l i) (cp i))∧(0 < lenOf l i→A0=some (ad i)):=by
 have hF:=(Kd.V_at h).2.2
 have key : ∀ i : Nat,∃ ac : Option Addr × Nat,(i < l.length→∃ adB,B=some adB∧w.cell? (adB.add i)=some (.slice ac.1 (lenOf l i) ac.2))∧lenOf l i≤ac.2∧Kd.F (Kd.slice 31 k31) w P1 ac.1 (lenOf l i) (l.getD i []):=by
  intro i
  by_cases hi : i < l.length
  ·obtain ⟨adB,cs,e1,h2,h3,h4,_⟩:=Kd.F_get hF ([] : List (List XV)) (i : Int) (by omega) (by omega)
   have h3' : Kd.FK (Kd.slice 33 (Kd.slice 31 k31)) w P1 (l.getD i []) cs:=h3
   obtain ⟨A0,c0,rfl,h5,h6⟩:=Kd.FK_slice_open h3'
   refine ⟨(A0,c0),fun _=>⟨adB,e1,?_⟩,h5,h6⟩
   have:=h4 0 _ rfl
   simpa [show (Kd.slice 33 (Kd.slice 31 k31)).sz=1 from rfl,lenOf] using this
  ·have e0 : l.getD i []=[]:=by simp [List.getD,hi]
   refine ⟨(none,0),fun h=>absurd h hi,by rw [lenOf_ge hi];exact Nat.le_refl _,?_⟩
   rw [lenOf_ge hi,e0]
   exact fun W' _=>Kd.C_nil _ _
 obtain ⟨ac,hac⟩:=Classical.axiomOfChoice key
 have rows : ∀ io : Nat × Nat,∃ v,io.2 < lenOf l io.1→∃ A0 c0,v=Value.slice A0 (rowOf l io).length c0∧(∃ ad,(ac io.1).1=some ad∧w.cell? (ad.add io.2)=some v)∧Kd.C k31 w A0 (rowOf l io).length (rowOf l io)∧(rowOf l io).length≤c0∧Kd.FK (Kd.slice 31 k31) w P1 (rowOf l io) [v]:=by
  rintro ⟨i,o⟩
  by_cases ho : o < lenOf l i
  ·obtain ⟨ad,cs,e1,h2,h3,h4,_⟩:=Kd.F_get (hac i).2.2 ([] : List XV) (o : Int) (by omega) (by omega)
   have h3' : Kd.FK (Kd.slice 31 k31) w P1 (rowOf l (i,o)) cs:=h3
   obtain ⟨A0,c0,rfl,h5,h6⟩:=Kd.FK_slice_open h3'
   refine ⟨_,fun _=>⟨A0,c0,rfl,⟨ad,e1,?_⟩,Kd.F_now h6,h5,h3'⟩⟩
   have:=h4 0 _ rfl
   simpa [show (Kd.slice 31 k31).sz=1 from rfl] using this
  ·exact ⟨.nilIface,fun h=>absurd h ho⟩
 obtain ⟨RV,hRV⟩:=Classical.axiomOfChoice rows
 refine ⟨fun i=>(ac i).1.getD ⟨0,0,none⟩,fun i=>(ac i).2,fun i o=>RV (i,o),⟨fun i=>(hac i).2.1,fun i o ho=>?_⟩,fun i hi=>?_⟩
 ·obtain ⟨A0,c0,e1,⟨ad,e2,h2⟩,h3,h4,h5⟩:=hRV (i,o) ho
  refine ⟨A0,c0,e1,?_,h3,h4,h5⟩
  show w.cell? (((ac i).1.getD ⟨0,0,none⟩).add o)=some (RV (i,o))
  rw [e2]
  exact h2
 ·obtain ⟨adB,e1,h2⟩:=(hac i).1 hi
  refine ⟨adB,(ac i).1,e1,h2,fun h0=>?_⟩
  obtain ⟨A0,c0,_,⟨ad,e2,_⟩,_⟩:=hRV (i,0) h0
  show (ac i).1=some ((ac i).1.getD ⟨0,0,none⟩)
  rw [show (ac i).1=some ad from e2]
  rfl
theorem srcs_succ (l : List (List (List XV))) (i : Nat) : srcs l (i + 1)=if 0 < lenOf l i then srcs l i ++ [(i,0)] else srcs l i:=by
 unfold srcs
 rw [List.range_succ,List.filter_append,List.map_append]
 by_cases h : 0 < lenOf l i
 ·simp [h]
 ·simp [h]
theorem srcs_length (l : List (List (List XV))) : ∀ i,(srcs l i).length≤i
 | 0=>by simp [srcs]
 | i + 1=>by
  have:=srcs_length l i
  rw [srcs_succ]
  split
  ·rw [List.length_append,List.length_singleton];omega
  ·omega
theorem srcs_live (l : List (List (List XV))) (i : Nat) : ∀ s ∈ srcs l i,Live (lenOf l) s:=by
 intro s hs
 unfold srcs at hs
 obtain ⟨k,hk,rfl⟩:=List.mem_map.mp hs
 simpa [Live] using (List.mem_filter.mp hk).2
theorem srcV_zero {l : List (List (List XV))} {ad : Nat→Addr} {cp : Nat→Nat} {i : Nat} (h : 0 < lenOf l i) (hc : lenOf l i≤cp i) : srcV l ad cp i 0=.slice (some (ad i)) (lenOf l i) (cp i):=by
 unfold srcV
 rw [if_neg (by omega),Addr.add_zero']
 rfl
theorem srcV_at {l : List (List (List XV))} {ad : Nat→Addr} {cp : Nat→Nat} {i o : Nat} (h : o < lenOf l i) (hc : lenOf l i≤cp i) : srcV l ad cp i o=.slice (some ((ad i).add o)) (lenOf l i - o) (cp i - o):=by
 unfold srcV
 rw [if_neg (by omega)]
theorem add_add' (a : Addr) (m n : Nat) : (a.add m).add n=a.add (m + n):=by
 unfold Addr.add
 by_cases h1 : m=0
 ·subst h1;simp
 ·by_cases h2 : n=0
  ·subst h2;simp [h1]
  ·simp only [if_neg h1,if_neg h2,if_neg (show ¬ m + n=0 by omega),Nat.add_assoc]
theorem srcV_next1 {l : List (List (List XV))} {ad : Nat→Addr} {cp : Nat→Nat} {i o : Nat} (h : o < lenOf l i) (hc : lenOf l i≤cp i) (h1 : cp i - o=1) : srcV l ad cp i (o + 1)=.slice (some ((ad i).add o)) (lenOf l i - o - 1) (cp i - o - 1):=by
 unfold srcV
 rw [if_pos (by omega),Nat.add_sub_cancel,Nat.sub_add_eq,Nat.sub_add_eq]
theorem srcV_next2 {l : List (List (List XV))} {ad : Nat→Addr} {cp : Nat→Nat} {i o : Nat} (h : o < lenOf l i) (hc : lenOf l i≤cp i) (h1 : ¬ cp i - o=1) : srcV l ad cp i (o + 1)=.slice (some (((ad i).add o).add 1)) (lenOf l i - o - 1) (cp i - o - 1):=by
 unfold srcV
 rw [if_neg (by omega),add_add',Nat.sub_add_eq,Nat.sub_add_eq]
end Go.Proofs.Ytfiandejapgkoaa.P

/- merge.Rows, by hand. -/
namespace Go.Proofs.Ytfiandejapgkoaa.P
open Go.RowKit Go.Proofs.YtfiandejapgkoaaW.PrintWords Go.Proofs.YtfiandejapgkoaaW.PrintLast Go.Proofs.YtfiandejapgkoaaW.PrintMore
set_option linter.unusedVariables false
set_option linter.unusedSimpArgs false
structure LW (w0 : World) (gq : Nat) (A : Option Addr) (n c : Nat) (a b d : Int) (V : Nat→Nat→Value) (W : World) (p : List Pl) (ql : Option Addr) (cap : Nat) : Prop where
 q : W.heap[gq]?=some (.cells #[.slice A n c,.int .i64 a,.int .i64 b,.int .i64 d,.slice ql p.length cap] 52 (0,0))
 own : W.ownsRow w0.heap.size 54 2 (.slice ql p.length cap) p.length (cellsM V p)
 b : Below w0.heap.size w0 W
 gq0 : w0.heap.size≤gq
section
variable {w0 W W' : World} {gq cap : Nat} {ql A : Option Addr} {n c : Nat} {a b d : Int} {V : Nat→Nat→Value} {p : List Pl}
theorem LW.step (h : LW w0 gq A n c a b d V W p ql cap) (hb : Below W.heap.size W W') : LW w0 gq A n c a b d V W' p ql cap:=by
 refine ⟨blk_below h.q hb,⟨h.own.1,?_⟩,below_step h.b hb,h.gq0⟩
 rcases h.own.2 with h1|⟨g,cp,cur,h1,h2,h3,h4⟩
 ·exact .inl h1
 ·exact .inr ⟨g,cp,cur,h1,h2,blk_below h3 hb,h4⟩
theorem LW.away (h : LW w0 gq A n c a b d V W p ql cap) : some gq≠(Value.slice ql p.length cap).ownBlock:=by
 rcases h.own.2 with ⟨h1,_⟩|⟨g,cp,cur,h1,h2,h3,h4⟩
 ·rw [h1];simp [Value.ownBlock]
 ·rw [h1]
  intro e
  have : gq=g:=by simpa [Value.ownBlock] using e
  subst this
  have:=h.q.symm.trans h3
  simp at this
theorem LW.mw (h : LW w0 gq A n c a b d V W p ql cap) : ∃ go,MW w0 gq go cap ql A n c a b d V W p:=by
 rcases h.own.2 with ⟨h1,h0⟩|⟨g,cp,cur,h1,h2,h3,h4,h5,h6,h7⟩
 ·exact ⟨w0.heap.size,⟨h.q,fun hp=>absurd (List.eq_nil_of_length_eq_zero h0) hp,h.b,h.gq0,Nat.le_refl _⟩⟩
 ·injection h1 with e1 e2 e3
  subst e1 e3
  refine ⟨g,⟨h.q,fun _=>⟨rfl,h4,cur.toList.drop (p.length * 2),?_⟩,h.b,h.gq0,h2⟩⟩
  rw [h3]
  congr 2
  apply Array.toList_inj.mp
  show cur.toList=cellsM V p ++ _
  rw [← h7,List.take_append_drop]
theorem LW.more (h : LW w0 gq A n c a b d V W p ql cap) (s : Pl) {W1 W2 : World} {v' : Value} (hb : Below W.heap.size W W1) (hg : W1.grownBy W2 (Value.slice ql p.length cap).ownBlock)
  (hown : W2.ownsRow w0.heap.size 54 2 v' (p.length + 1) (cellsM V p ++ srcC V s)) (hat : v'.ownBlock=(Value.slice ql p.length cap).ownBlock ∨ v'.ownBlock=some W1.heap.size) :
  ∃ ql' cap',v'=.slice ql' (p.length + 1) cap'∧W2.heap[gq]?=some (.cells #[.slice A n c,.int .i64 a,.int .i64 b,.int .i64 d,.slice ql p.length cap] 52 (0,0))∧LW w0 gq A n c a b d V (W2.setCell ⟨gq,4,none⟩ v') (p ++ [s]) ql' cap':=by
 have h1:=h.step hb
 have hq2 : W2.heap[gq]?=_:=blk_grown h1.q hg h1.away
 have hB2 : Below w0.heap.size w0 W2:=h1.b.grown hg h1.b.size (fun k hk=>by
  obtain ⟨e,_⟩:=h.own.lt k hk
  exact e)
 rcases hown.2 with ⟨_,h0⟩|⟨g,cp,cur,e1,h2,h3,h4,h5,h6,h7⟩
 ·omega
 ·subst e1
  have hne : gq≠g:=by
   intro e
   subst e
   have:=hq2.symm.trans h3
   simp at this
  have e5 : cellsM V (p ++ [s])=cellsM V p ++ srcC V s:=by rw [cellsM_append];simp [cellsM]
  refine ⟨_,_,rfl,hq2,⟨?_,?_,hB2.setCell h.gq0 _,h.gq0⟩⟩
  ·rw [List.length_append,List.length_singleton]
   exact blk_set hq2 4 _
  ·rw [e5,List.length_append,List.length_singleton]
   exact ⟨hown.1,.inr ⟨g,cp,cur,rfl,h2,blk_far (p:=⟨gq,4,none⟩) h3 (fun e=>hne e.symm) _,h4,h5,h6,h7⟩⟩
end
section
variable {w0 W W' : World} {gq go cap : Nat} {ql A : Option Addr} {n c : Nat} {a b d : Int} {V : Nat→Nat→Value} {p : List Pl}
theorem MW.grown (h : MW w0 gq go cap ql A n c a b d V W p) {row : Option Nat} (hg : W.grownBy W' row) (h1 : some gq≠row) (h2 : some go≠row) (h3 : ∀ k,row=some k→w0.heap.size≤k) : MW w0 gq go cap ql A n c a b d V W' p :=
 ⟨blk_grown h.q hg h1,fun hp=>by obtain ⟨e1,e2,j,e3⟩:=h.r hp;exact ⟨e1,e2,j,blk_grown e3 hg h2⟩,h.b.grown hg h.b.size h3,h.gq0,h.go0⟩
theorem MW.set0 (h : MW w0 gq go cap ql A n c a b d V W p) (hp : p≠[]) : MW w0 gq go cap ql A n c a b d V (W.setCell ⟨go,0,none⟩ (V (gt_ z0 p 0).1 ((gt_ z0 p 0).2 + 1))) (stepH p):=by
 obtain ⟨h1,h2,j,h3⟩:=h.r hp
 have hne : gq≠go:=blk_ne h.q h3 (by decide)
 refine ⟨?_,fun _=>⟨h1,by rw [stepH_length];exact h2,j,?_⟩,h.b.setCell h.go0 _,h.gq0,h.go0⟩
 ·rw [stepH_length]
  exact blk_far h.q hne _
 ·cases p with
  | nil=>exact absurd rfl hp
  | cons s p =>
   have h4:=blk_set h3 0 (V (gt_ z0 (s :: p) 0).1 ((gt_ z0 (s :: p) 0).2 + 1))
   rw [h4]
   rfl
end
theorem lpM_end (lt : Pl→Pl→Bool) (len : Nat→Nat) : ∀ (f : Nat) (p out : List Pl),p.length=0→lpM lt len f p out=out
 | 0,_,_,_=>rfl
 | f + 1,p,out,h=>by unfold lpM;rw [if_pos h]
theorem leftP_append (len : Nat→Nat) (p q : List Pl) : leftP len (p ++ q)=leftP len p ++ leftP len q:=by simp [leftP]
theorem srcs_left (l : List (List (List XV))) : ∀ i,i≤l.length→(leftP (lenOf l) (srcs l i)).length=(l.take i).flatten.length
 | 0,_=>by simp [srcs,leftP]
 | i + 1,h=>by
  have ih:=srcs_left l i (by omega)
  have e : (l.take (i + 1)).flatten.length=(l.take i).flatten.length + lenOf l i:=by
   rw [List.take_succ_eq_append_getElem (by omega : i < l.length),List.flatten_append,List.length_append]
   simp [lenOf,List.getD,show i < l.length by omega]
  rw [e,srcs_succ,← ih]
  split
  ·rw [leftP_append,List.length_append]
   simp [leftP,left1]
  ·omega
theorem leftP_pos {len : Nat→Nat} {p : List Pl} (h0 : p≠[]) (hl : ∀ s ∈ p,Live len s) : 0 < (leftP len p).length:=by
 cases p with
 | nil=>exact absurd rfl h0
 | cons s p =>
  have e : leftP len (s :: p)=left1 len s ++ leftP len p:=rfl
  rw [e,left1_cons len s (hl s (by simp))]
  simp
theorem new_cells {wr : World} {V : Nat→Nat→Value} {i : Nat} {x : Value} (h : V i 0=x) {j : Nat} {u : Value} (hj : (srcC V (i,0))[j]?=some u) : (wr.alloc (.cells #[x,.int .i64 (i : Nat)] 54 (0,0))).cell? ((⟨wr.heap.size,0,none⟩ : Addr).add j)=some u:=by
 subst h
 have hb:=blk_new wr (.cells #[V i 0,.int .i64 (i : Nat)] 54 (0,0))
 match j,hj with
 | 0,hj=>exact (blk_cell hb 0).trans hj
 | 1,hj=>exact (blk_cell hb 1).trans hj
 | j + 2,hj=>simp [srcC] at hj
theorem new_one {l : List (List (List XV))} {ad : Nat→Addr} {cp : Nat→Nat} {i : Nat} : ∀ u ∈ srcC (srcV l ad cp) (i,0),u.oneCell'=true:=by
 intro u hu
 rcases List.mem_cons.mp hu with rfl|hu
 ·rfl
 ·rcases List.mem_cons.mp hu with rfl|hu
  ·rfl
  ·exact absurd hu (by simp)
set_option maxHeartbeats 8000000 in
set_option maxRecDepth 100000 in
theorem merge_Rows.calls (k : Nat) (A : Option Addr) (c : Nat) (T : List Int) (a b d : Int) (P1_ : Nat→Prop) (B : Option Addr) (e : Nat) (l : List (List (List S31))) (r : List (List S31)) (w : World)
  (hT : Kd.C (Kd.int .i64) w A T.length T) (hc : T.length≤c) (hs1 : Kd.V (Kd.slice 33 (Kd.slice 31 k31)) 28 w w.heap.size (fun k_=>P1_ k_) (.slice B l.length e) l)
  (h : merge_Rows.f k T a b d l=some r) :
  Calls Try.prog 9 #[.agg #[.slice A T.length c,.int .i64 a,.int .i64 b,.int .i64 d],.slice B l.length e] w fun e w'=>∃ v0_ : Value,e=.returned (v0_)∧Kd.N (Kd.slice 31 k31) 33 w' w.heap.size (fun k_=>(P1_ k_ ∨ w.heap.size≤k_)) v0_ r∧Below w.heap.size w w':=by
 unfold merge_Rows.f at h
 split at h
 case isFalse=>exact absurd h (by simp)
 case isTrue hn =>
 injection h with h
 subst h
 have mixed : Try.prog.follows Departure.mixedOrders=true:=rfl
 have hu54:=Try.underlying54
 have hu50:=Try.underlying50
 obtain ⟨ad,cp,RV,hP,hcells⟩:=parts_at w P1_ B e l hs1
 have HG0:=Aside0.mk (show HG w P1_ l ad cp RV A c T from ⟨hP,hT,hc,hn.1⟩)
 have HP:=Aside0.mk hP
 have HC:=Aside0.mk hcells
 have HN:=Aside0.mk hn
 have HB:=Aside0.mk (Below.refl w.heap.size w)
 clear hP hcells hn hs1 hT hc
 go_enter Try.func9,Try.ntmps9
 go_wp2_with (first|((with_reducible refine gate_dst (N:=2) rfl ?_);refine box_event ?hg (N:=2) ?hd (cs:=#[.slice A T.length c,.int .i64 a,.int .i64 b,.int .i64 d]) (t:=26) ?hr ?_;(case hd=>rfl);(case hg=>rfl);(case hr=>first|(go_simp;done)|(go_simp;rfl));intro gs hg w4 hbox hb;have GEgs:=Aside0.mk ((by rw [hg];exact below_size HB.out) : w.heap.size≤gs);have n0_:=Aside0.mk (below_step HB.out hb);clear HB;have HB:=n0_;clear n0_;have BKgs:=Aside0.mk hbox;clear hb hbox hg;have hs0 : w4.cell? ⟨gs,0,none⟩=some (.slice A T.length c):=((blk_cell BKgs.out 0).trans rfl);have hs1 : w4.cell? ⟨gs,1,none⟩=some (.int .i64 a):=((blk_cell BKgs.out 1).trans rfl);have hs2 : w4.cell? ⟨gs,2,none⟩=some (.int .i64 b):=((blk_cell BKgs.out 2).trans rfl);have hs3 : w4.cell? ⟨gs,3,none⟩=some (.int .i64 d):=((blk_cell BKgs.out 3).trans rfl))|((with_reducible refine gate_dst (N:=12) rfl ?_);refine box_event ?hg (N:=12) ?hd (cs:=#[.slice A T.length c,.int .i64 a,.int .i64 b,.int .i64 d,.slice none 0 0]) (t:=52) ?hr ?_;(case hd=>rfl);(case hg=>rfl);(case hr=>first|(go_simp;done)|(go_simp;rfl));intro gq hg w5 hbox hb;have GEgq:=Aside0.mk ((by rw [hg];exact below_size HB.out) : w.heap.size≤gq);have n0_:=Aside0.mk (below_step HB.out hb);clear HB;have HB:=n0_;clear n0_;have BKgq:=Aside0.mk hbox;clear hb hbox hg))
 clear hs0 hs1 hs2 hs3 BKgs GEgs
 have LW0:=Aside0.mk (show LW w gq A T.length c a b d (srcV l ad cp) w5 (srcs l 0) none 0 from ⟨BKgq.out,⟨rfl,.inl ⟨rfl,rfl⟩⟩,HB.out,GEgq.out⟩)
 clear HB BKgq GEgq
 obtain ⟨i0,hi0,hz0⟩:=Option.map_eq_some_iff.1 (show (Try.prog.info? 54).map (fun i=>(i.zero,i.size,i.bytes))=some (some (.agg #[.slice none 0 0,.int .i64 0]),2,32) by kernel_rfl)
 simp only [Prod.mk.injEq] at hz0
 have HINF:=Aside0.mk (And.intro hi0 hz0)
 clear hi0 hz0
 go_loopg [15] l.length (fun gk v15 wr=>∃ (i : Nat) (ql : Option Addr) (cap : Nat),v15=.int .i64 i∧Aside0 (i + gk=l.length)∧Aside0 (LW w gq A T.length c a b d (srcV l ad cp) wr (srcs l i) ql cap))
 case atStart=>exact ⟨0,none,0,rfl,⟨by omega⟩,LW0⟩
 case round =>
  clear LW0
  obtain ⟨i,ql,cap,rfl,HI,HL⟩:=hrel
  by_cases hi : i < l.length
  ·obtain ⟨m1,hm1⟩ : ∃ m,gk=m + 1:=⟨gk - 1,by have:=HI.out;omega⟩
   have HM:=Aside0.mk hm1
   obtain ⟨adB,A0,e1,h2,h3⟩:=HC.out i hi
   subst e1
   have hcB : wr.cell? (adB.add i)=some (.slice A0 (lenOf l i) (cp i)):=(HL.out.b.cell (World.block_lt_of_cell? w _ h2)).trans h2
   have q0 : (0≤(i : Int))=True:=eq_true (by omega)
   have q1 : ((i : Int) < (l.length : Int))=True:=eq_true (by omega)
   have c0 : decide ((i : Int) < (l.length : Int))=true:=decide_eq_true (by omega)
   have ei : wrap64 ((i : Int) + 1)=((i + 1 : Nat) : Int):=by rw [w64 (by omega) (by have:=HN.out;omega)];omega
   by_cases h0 : 0 < lenOf l i
   ·have e0:=h3 h0
    subst e0
    have c1 : decide (((lenOf l i : Nat) : Int) > 0)=true:=decide_eq_true (by omega)
    have c1b : (0 < ((lenOf l i : Nat) : Int))=True:=eq_true (by omega)
    have c1c : (0 < lenOf l i)=True:=eq_true h0
    have hq4 : wr.cell? ⟨gq,4,none⟩=some (.slice ql (srcs l i).length cap):=(blk_cell HL.out.q 4).trans rfl
    have HVZ:=Aside0.mk (srcV_zero (ad:=ad) h0 (HP.out.le i))
    have HS:=Aside0.mk (show srcs l (i + 1)=srcs l i ++ [(i,0)] by rw [srcs_succ,if_pos h0])
    have HI1:=Aside0.mk hi
    clear hi hm1 h2 h3 h0
    go_wp2_with (first|((with_reducible refine gate_builtin (b:=.append) (xs:=#[.tmp 27,.tmp 31]) rfl ?_);refine wpList_append_own_at (w:=(wr.alloc (.cells #[.slice (some (ad i)) (lenOf l i) (cp i),.int .i64 (i : Nat)] 54 (0,0)))) rfl (.tmp 27) (.tmp 31) 50 rfl w.heap.size 54 i0 (.agg #[.slice none 0 0,.int .i64 0]) 2 32 hu50 HINF.out.1 HINF.out.2.1 HINF.out.2.2.1 HINF.out.2.2.2 rfl (by omega) (.slice ql (srcs l i).length cap) (srcs l i).length (cellsM (srcV l ad cp) (srcs l i)) rfl (HL.out.step (below_alloc (Below.refl _ _) _)).own ⟨wr.heap.size,0,none⟩ 1 1 (srcC (srcV l ad cp) (i,0)) rfl rfl (fun j u hj=>new_cells HVZ.out hj) new_one (by have:=srcs_length l i;have:=HN.out;have:=HI1.out;simp only [maxLen];omega) (by have:=srcs_length l i;have:=HN.out;have:=HI1.out;omega) (HL.out.step (below_alloc (Below.refl _ _) _)).b.size ?_;intro v2 w2 hown hg hnil hat;obtain ⟨ql2,cap2,e2,hq2,hL2⟩:=HL.out.more (i,0) (below_alloc (Below.refl _ _) _) hg hown hat;subst e2;have hq5 : w2.cell? ⟨gq,4,none⟩=some (.slice ql (srcs l i).length cap):=(blk_cell hq2 4).trans rfl;have hqf:=blk_frozen hq2 4;rw [← HS.out] at hL2;have HL2:=Aside0.mk hL2;clear hown hg hnil hat hq2 hL2))
    go_roundg m1
    case measure=>have:=HM.out;omega
    case rel=>exact ⟨i + 1,ql2,cap2,by rw [ei],⟨by have:=HI.out;have:=HM.out;omega⟩,HL2⟩
   ·have hz : lenOf l i=0:=by omega
    rw [hz] at hcB
    have HS:=Aside0.mk (show srcs l (i + 1)=srcs l i by rw [srcs_succ,if_neg h0])
    clear hi hm1 h2 h3 h0 hz
    go_wp2
    go_roundg m1
    case measure=>have:=HM.out;omega
    case rel=>exact ⟨i + 1,ql,cap,by rw [ei],⟨by have:=HI.out;have:=HM.out;omega⟩,by rw [HS.out];exact HL⟩
  ·have c0 : decide ((i : Int) < (l.length : Int))=false:=decide_eq_false (by omega)
   have hil : i=l.length:=by have:=HI.out;omega
   subst hil
   clear hi
   obtain ⟨go,hM⟩:=HL.out.mw
   have HMW:=Aside0.mk hM
   have HP0:=Aside0.mk (show (srcs l l.length).length≤1000000000 by have:=srcs_length l l.length;have:=HN.out;omega)
   clear hM HL HI
   go_wp2_with (go_at_call 19;fail)
   refine (init_any HG0.out HMW.out HP0.out (srcs_live l l.length)).mono ?_
   rintro e w8 ⟨rfl,h8,_⟩
   have HPL:=Aside0.mk (initH_perm z0 (lessM T a l) (srcs l l.length).length ((srcs l l.length).length / 2) (srcs l l.length) (Nat.le_refl _))
   have HE:=Aside0.mk (show mergeP T a l=lpM (lessM T a l) (lenOf l) l.flatten.length (initH z0 (lessM T a l) (srcs l l.length).length ((srcs l l.length).length / 2) (srcs l l.length)) [] from rfl)
   generalize initH z0 (lessM T a l) (srcs l l.length).length ((srcs l l.length).length / 2) (srcs l l.length)=p0 at h8 HPL HE
   have HM8:=Aside0.mk h8
   clear h8 HMW
   have HO0:=Aside0.mk (Kd.N_nil (Kd.slice 31 k31) 33 w8 w.heap.size (fun k_=>(P1_ k_ ∨ w.heap.size≤k_)∧k_≠gq∧k_≠go))
   have HQ0:=Aside0.mk (show (leftP (lenOf l) p0).length=l.flatten.length∧p0.length≤1000000000 by
    refine ⟨?_,by rw [HPL.out.length_eq];exact HP0.out⟩
    rw [(flat_perm (lenOf l) HPL.out).length_eq,srcs_left l _ (Nat.le_refl _),List.take_length])
   have HL0:=Aside0.mk (show ∀ s ∈ p0,Live (lenOf l) s from fun s hs=>srcs_live l l.length s (HPL.out.mem_iff.mp hs))
   clear HPL HP0
   go_wp2
   go_loopg [8] l.flatten.length (fun gk v8 wr=>∃ (p out : List Pl),Aside0 (Kd.N (Kd.slice 31 k31) 33 wr w.heap.size (fun k_=>(P1_ k_ ∨ w.heap.size≤k_)∧k_≠gq∧k_≠go) v8 (out.map (rowOf l)))∧Aside0 ((leftP (lenOf l) p).length≤gk∧out.length + (leftP (lenOf l) p).length=l.flatten.length∧p.length≤1000000000)∧Aside0 (∀ s ∈ p,Live (lenOf l) s)∧Aside0 (MW w gq go cap ql A T.length c a b d (srcV l ad cp) wr p)∧Aside0 (mergeP T a l=lpM (lessM T a l) (lenOf l) gk p out))
   case atStart=>exact ⟨p0,[],HO0,⟨by have:=HQ0.out;simp only [List.length_nil];omega⟩,HL0,HM8,HE⟩
   case round =>
    clear HO0 HQ0 HL0 HM8 HE
    obtain ⟨p,out,HO,HQ,HL,HM,HE⟩:=hrel
    by_cases hp : p.length=0
    ·have hL:=len_any HM.out
     rw [hp] at hL
     have HLN:=Aside0.mk hL
     have hE:=HE.out
     rw [lpM_end _ _ _ _ _ hp] at hE
     have HE2:=Aside0.mk hE
     clear hL hE HE hp
     obtain ⟨Ao,co,eo⟩:=Kd.N_slice HO.out
     rw [List.length_map] at eo
     subst eo
     go_wp2_with (go_at_call 20;fail)
     refine HLN.out.mono ?_
     rintro e w9 ⟨rfl,hb⟩
     have HO9:=Aside0.mk (Kd.N_below HO.out hb)
     have HB9:=Aside0.mk (HM.out.step hb).b
     clear HO HM HLN hb
     go_wp2
     go_ret
     refine ⟨_,rfl,?_,HB9.out⟩
     rw [HE2.out]
     exact Kd.N_mono HO9.out (fun _ hk=>hk.1)
    ·have hpn : p≠[]:=fun e=>hp (by rw [e];rfl)
     have hpos:=leftP_pos hpn HL.out
     obtain ⟨m1,hm1⟩ : ∃ m,gk=m + 1:=⟨gk - 1,by have:=HQ.out;omega⟩
     have HMM:=Aside0.mk hm1
     have hE:=HE.out
     rw [hm1,lpM,if_neg hp] at hE
     have HE2:=Aside0.mk hE
     have hL:=len_any HM.out
     have HLN:=Aside0.mk hL
     have HPN:=Aside0.mk (And.intro hpn (And.intro hpos hp))
     have c0 : decide (((p.length : Nat) : Int) > 0)=true:=decide_eq_true (by omega)
     have c0b : (0 < ((p.length : Nat) : Int))=True:=eq_true (by omega)
     have c0c : (0 < p.length)=True:=eq_true (by omega)
     clear hL hE HE hp hm1 hpn hpos
     obtain ⟨Ao,co,eo⟩:=Kd.N_slice HO.out
     rw [List.length_map] at eo
     subst eo
     go_wp2_with (go_at_call 20;fail)
     refine HLN.out.mono ?_
     rintro e w9 ⟨rfl,hb⟩
     have HO9:=Aside0.mk (Kd.N_below HO.out hb)
     have HM9:=Aside0.mk (HM.out.step hb)
     clear HO HM HLN hb
     obtain ⟨s,hs⟩ : ∃ s,s=gt_ z0 p 0:=⟨_,rfl⟩
     have hsm : s ∈ p:=by rw [hs];exact gt_mem z0 (by have:=HPN.out;omega)
     have hsl : s.2 < lenOf l s.1:=HL.out s hsm
     obtain ⟨rfl,hcap,_⟩:=HM9.out.r HPN.out.1
     have hx0 : w9.cell? ⟨go,0,none⟩=some (srcV l ad cp s.1 s.2):=by have h9:=HM9.out.c0 0 (by have:=HPN.out;omega);rw [← hs] at h9;exact h9
     have hq4 : w9.cell? ⟨gq,4,none⟩=some (.slice (some ⟨go,0,none⟩) p.length cap):=(blk_cell HM9.out.q 4).trans rfl
     obtain ⟨A1,c1,e1,r1,k1_,l1_,f1_⟩:=HP.out.row s.1 s.2 hsl
     have hrx : w9.cell? ((ad s.1).add s.2)=some (.slice A1 (rowOf l s).length c1):=(HM9.out.b.cell (World.block_lt_of_cell? w _ r1)).trans (r1.trans (by rw [e1]))
     obtain ⟨k1,hk1⟩ : ∃ k1,lenOf l s.1 - s.2=k1 + 1:=⟨lenOf l s.1 - s.2 - 1,by omega⟩
     obtain ⟨cc,hcc⟩ : ∃ cc,cp s.1 - s.2=cc + 1:=⟨cp s.1 - s.2 - 1,by have:=HP.out.le s.1;omega⟩
     have e0x:=srcV_at (ad:=ad) hsl (HP.out.le s.1)
     rw [hk1,hcc] at e0x
     have HF:=Aside0.mk (show Kd.FK (Kd.slice 31 k31) w (fun k_=>P1_ k_∧k_ < w.heap.size) (rowOf l s) [.slice A1 (rowOf l s).length c1] by have h9:=Kd.FK_bound f1_;rw [e1] at h9;exact h9)
     rw [e0x] at hx0
     have HSL:=Aside0.mk (And.intro hsl (And.intro hk1 (And.intro hcc e0x)))
     have HS:=Aside0.mk hs
     generalize hax : (ad s.1).add s.2=ax at hx0 hrx
     have HAX:=Aside0.mk hax
     clear hax hs hsm hsl hcap e1 r1 k1_ l1_ f1_ hk1 hcc e0x
     have q0 : ((1 : Int)≤((k1 + 1 : Nat) : Int))=True:=eq_true (by omega)
     cases cc with
     | zero =>
      cases k1 with
      | zero =>
       have HV:=Aside0.mk (show srcV l ad cp s.1 (s.2 + 1)=.slice (some ax) (0) (0) by
        have h9:=srcV_next1 (ad:=ad) HSL.out.1 (HP.out.le s.1) (by have:=HSL.out.2.2.1;omega)
        rw [HAX.out,HSL.out.2.1,HSL.out.2.2.1] at h9
        exact h9)
       go_wp2_with (first|((with_reducible refine gate_builtin (b:=.append) (xs:=#[.tmp 47,.tmp 54]) rfl ?_);refine Kd.N_append (Kd.slice 31 k31) (w0:=w) w.heap.size rfl (.tmp 47) (.tmp 54) 28 33 (.slice none 0 0) 24 rfl Try.underlying28 info33 rfl (by decide) (by omega) (.slice Ao out.length co) (out.map (rowOf l)) (rowOf l s) [.slice A1 (rowOf l s).length c1] (fun k_=>(P1_ k_ ∨ w.heap.size≤k_)∧k_≠gq∧k_≠go) (fun k_=>P1_ k_∧k_ < w.heap.size) rfl rfl ?aP ?aK ?aF HO9.out HM9.out.b HM9.out.b.size ?aL ?_;(case aP=>exact Kd.FK_step HF.out (fun k hk _=>HM9.out.b.block k hk.2));(case aK=>exact (fun k hk=>⟨⟨.inl hk.1,by have:=HM9.out.gq0;have:=hk.2;omega,by have:=HM9.out.go0;have:=hk.2;omega⟩,fun e=>by have:=Kd.N_base HO9.out k e.symm;have:=hk.2;omega⟩));(case aF=>exact (fun k hk=>⟨.inr (Nat.le_trans HM9.out.b.size hk),by have:=blk_lt HM9.out.q;omega,by obtain ⟨_,_,_,h9⟩:=HM9.out.r HPN.out.1;have:=blk_lt h9;omega⟩));(case aL=>have:=HQ.out;have:=HN.out;rw [List.length_map];omega);intro v2 w2 ho hb hg hat;obtain ⟨Ao2,co2,eo2⟩:=Kd.N_slice ho;rw [List.length_append,List.length_map,List.length_singleton] at eo2;subst eo2;have HO2:=Aside0.mk ho;have HM2:=Aside0.mk (HM9.out.grown hg (Kd.N_away HO9.out (fun k hk=>hk.2.1)) (Kd.N_away HO9.out (fun k hk=>hk.2.2)) (fun k hk=>Kd.N_base HO9.out k hk));have hy0 : w2.cell? ⟨go,0,none⟩=some (.slice (some ax) (0 + 1) (0 + 1)):=(hg.cell hx0 (Kd.N_away HO9.out (fun k hk=>hk.2.2)));have hyf : w2.frozen? ⟨go,0,none⟩=false:=(by obtain ⟨_,_,_,h9⟩:=HM2.out.r HPN.out.1;exact blk_frozen h9 0);clear ho hb hg hat HO9 HM9 HF)|(go_at_call 21;fail))
       have hset:=HM2.out.set0 HPN.out.1
       rw [← HS.out,HV.out] at hset
       have HM3:=Aside0.mk hset
       have HO3:=Aside0.mk (Kd.N_far HO2.out (p:=⟨go,0,none⟩) (fun k hk=>hk.2.2) (.slice (some ax) (0) (0)))
       clear hset HM2 HO2 hx0 hy0 hyf hq4 hrx
       have hnx : nextH (lessM T a l) (lenOf l) p=popH (lessM T a l) (stepH p):=by unfold nextH;rw [← HS.out,if_pos (by have:=HSL.out;omega)]
       have HNX:=Aside0.mk hnx
       clear hnx
       obtain ⟨m,hm⟩ : ∃ m,(stepH p).length=m + 1:=⟨(stepH p).length - 1,by have:=HPN.out;rw [stepH_length];omega⟩
       refine (hpop_any HG0.out HM3.out m hm (by have:=HQ.out;rw [stepH_length] at hm;omega) (fun k h0 hk=>by
        rw [stepH_length] at hk
        rw [show gt_ z0 (stepH p) k=gt_ z0 p k by unfold stepH gt_;simp only [List.getD_eq_getElem?_getD,List.getElem?_set];rw [if_neg (by omega)]]
        exact HL.out _ (gt_mem z0 hk))).mono ?_
       rintro e w7 ⟨⟨v,rfl⟩,h4,hk⟩
       rw [← HNX.out] at h4
       have HM4:=Aside0.mk h4
       have HO4:=Aside0.mk (Kd.N_kept HO3.out hk (fun k hk h9=>by rcases h9 with h9|h9;exact hk.2.1 h9;exact hk.2.2 h9))
       clear h4 hk HM3 HO3
       go_wp2
       go_roundg m1
       case measure=>have:=HMM.out;omega
       case rel =>
        have h1:=next_mem (lessM T a l) (lenOf l) p HPN.out.1 HL.out
        have h2:=(nextH_left (lessM T a l) (lenOf l) p HPN.out.1 HL.out).length_eq
        rw [List.length_cons] at h2
        refine ⟨nextH (lessM T a l) (lenOf l) p,out ++ [s],?_,⟨?_⟩,⟨h1.2.1⟩,HM4,⟨by rw [HE2.out,← HS.out]⟩⟩
        ·rw [List.map_append]
         exact HO4
        ·have h3:=HQ.out
         have h4:=HMM.out
         have h5:=h1.1
         rw [List.length_append,List.length_singleton]
         omega
      | succ k2=>have:=HSL.out;have:=HP.out.le s.1;omega
     | succ c2 =>
      cases k1 with
      | zero =>
       have HV:=Aside0.mk (show srcV l ad cp s.1 (s.2 + 1)=.slice (some ⟨ax.block,ax.off + 1,none⟩) (0) (c2 + 1) by
        have h9:=srcV_next2 (ad:=ad) HSL.out.1 (HP.out.le s.1) (by have:=HSL.out.2.2.1;omega)
        rw [HAX.out,HSL.out.2.1,HSL.out.2.2.1] at h9
        exact h9)
       go_wp2_with (first|((with_reducible refine gate_builtin (b:=.append) (xs:=#[.tmp 47,.tmp 54]) rfl ?_);refine Kd.N_append (Kd.slice 31 k31) (w0:=w) w.heap.size rfl (.tmp 47) (.tmp 54) 28 33 (.slice none 0 0) 24 rfl Try.underlying28 info33 rfl (by decide) (by omega) (.slice Ao out.length co) (out.map (rowOf l)) (rowOf l s) [.slice A1 (rowOf l s).length c1] (fun k_=>(P1_ k_ ∨ w.heap.size≤k_)∧k_≠gq∧k_≠go) (fun k_=>P1_ k_∧k_ < w.heap.size) rfl rfl ?aP ?aK ?aF HO9.out HM9.out.b HM9.out.b.size ?aL ?_;(case aP=>exact Kd.FK_step HF.out (fun k hk _=>HM9.out.b.block k hk.2));(case aK=>exact (fun k hk=>⟨⟨.inl hk.1,by have:=HM9.out.gq0;have:=hk.2;omega,by have:=HM9.out.go0;have:=hk.2;omega⟩,fun e=>by have:=Kd.N_base HO9.out k e.symm;have:=hk.2;omega⟩));(case aF=>exact (fun k hk=>⟨.inr (Nat.le_trans HM9.out.b.size hk),by have:=blk_lt HM9.out.q;omega,by obtain ⟨_,_,_,h9⟩:=HM9.out.r HPN.out.1;have:=blk_lt h9;omega⟩));(case aL=>have:=HQ.out;have:=HN.out;rw [List.length_map];omega);intro v2 w2 ho hb hg hat;obtain ⟨Ao2,co2,eo2⟩:=Kd.N_slice ho;rw [List.length_append,List.length_map,List.length_singleton] at eo2;subst eo2;have HO2:=Aside0.mk ho;have HM2:=Aside0.mk (HM9.out.grown hg (Kd.N_away HO9.out (fun k hk=>hk.2.1)) (Kd.N_away HO9.out (fun k hk=>hk.2.2)) (fun k hk=>Kd.N_base HO9.out k hk));have hy0 : w2.cell? ⟨go,0,none⟩=some (.slice (some ax) (0 + 1) (c2 + 1 + 1)):=(hg.cell hx0 (Kd.N_away HO9.out (fun k hk=>hk.2.2)));have hyf : w2.frozen? ⟨go,0,none⟩=false:=(by obtain ⟨_,_,_,h9⟩:=HM2.out.r HPN.out.1;exact blk_frozen h9 0);clear ho hb hg hat HO9 HM9 HF)|(go_at_call 21;fail))
       have hset:=HM2.out.set0 HPN.out.1
       rw [← HS.out,HV.out] at hset
       have HM3:=Aside0.mk hset
       have HO3:=Aside0.mk (Kd.N_far HO2.out (p:=⟨go,0,none⟩) (fun k hk=>hk.2.2) (.slice (some ⟨ax.block,ax.off + 1,none⟩) (0) (c2 + 1)))
       clear hset HM2 HO2 hx0 hy0 hyf hq4 hrx
       have hnx : nextH (lessM T a l) (lenOf l) p=popH (lessM T a l) (stepH p):=by unfold nextH;rw [← HS.out,if_pos (by have:=HSL.out;omega)]
       have HNX:=Aside0.mk hnx
       clear hnx
       obtain ⟨m,hm⟩ : ∃ m,(stepH p).length=m + 1:=⟨(stepH p).length - 1,by have:=HPN.out;rw [stepH_length];omega⟩
       refine (hpop_any HG0.out HM3.out m hm (by have:=HQ.out;rw [stepH_length] at hm;omega) (fun k h0 hk=>by
        rw [stepH_length] at hk
        rw [show gt_ z0 (stepH p) k=gt_ z0 p k by unfold stepH gt_;simp only [List.getD_eq_getElem?_getD,List.getElem?_set];rw [if_neg (by omega)]]
        exact HL.out _ (gt_mem z0 hk))).mono ?_
       rintro e w7 ⟨⟨v,rfl⟩,h4,hk⟩
       rw [← HNX.out] at h4
       have HM4:=Aside0.mk h4
       have HO4:=Aside0.mk (Kd.N_kept HO3.out hk (fun k hk h9=>by rcases h9 with h9|h9;exact hk.2.1 h9;exact hk.2.2 h9))
       clear h4 hk HM3 HO3
       go_wp2
       go_roundg m1
       case measure=>have:=HMM.out;omega
       case rel =>
        have h1:=next_mem (lessM T a l) (lenOf l) p HPN.out.1 HL.out
        have h2:=(nextH_left (lessM T a l) (lenOf l) p HPN.out.1 HL.out).length_eq
        rw [List.length_cons] at h2
        refine ⟨nextH (lessM T a l) (lenOf l) p,out ++ [s],?_,⟨?_⟩,⟨h1.2.1⟩,HM4,⟨by rw [HE2.out,← HS.out]⟩⟩
        ·rw [List.map_append]
         exact HO4
        ·have h3:=HQ.out
         have h4:=HMM.out
         have h5:=h1.1
         rw [List.length_append,List.length_singleton]
         omega
      | succ k2 =>
       have HV:=Aside0.mk (show srcV l ad cp s.1 (s.2 + 1)=.slice (some ⟨ax.block,ax.off + 1,none⟩) (k2 + 1) (c2 + 1) by
        have h9:=srcV_next2 (ad:=ad) HSL.out.1 (HP.out.le s.1) (by have:=HSL.out.2.2.1;omega)
        rw [HAX.out,HSL.out.2.1,HSL.out.2.2.1] at h9
        exact h9)
       go_wp2_with (first|((with_reducible refine gate_builtin (b:=.append) (xs:=#[.tmp 47,.tmp 54]) rfl ?_);refine Kd.N_append (Kd.slice 31 k31) (w0:=w) w.heap.size rfl (.tmp 47) (.tmp 54) 28 33 (.slice none 0 0) 24 rfl Try.underlying28 info33 rfl (by decide) (by omega) (.slice Ao out.length co) (out.map (rowOf l)) (rowOf l s) [.slice A1 (rowOf l s).length c1] (fun k_=>(P1_ k_ ∨ w.heap.size≤k_)∧k_≠gq∧k_≠go) (fun k_=>P1_ k_∧k_ < w.heap.size) rfl rfl ?aP ?aK ?aF HO9.out HM9.out.b HM9.out.b.size ?aL ?_;(case aP=>exact Kd.FK_step HF.out (fun k hk _=>HM9.out.b.block k hk.2));(case aK=>exact (fun k hk=>⟨⟨.inl hk.1,by have:=HM9.out.gq0;have:=hk.2;omega,by have:=HM9.out.go0;have:=hk.2;omega⟩,fun e=>by have:=Kd.N_base HO9.out k e.symm;have:=hk.2;omega⟩));(case aF=>exact (fun k hk=>⟨.inr (Nat.le_trans HM9.out.b.size hk),by have:=blk_lt HM9.out.q;omega,by obtain ⟨_,_,_,h9⟩:=HM9.out.r HPN.out.1;have:=blk_lt h9;omega⟩));(case aL=>have:=HQ.out;have:=HN.out;rw [List.length_map];omega);intro v2 w2 ho hb hg hat;obtain ⟨Ao2,co2,eo2⟩:=Kd.N_slice ho;rw [List.length_append,List.length_map,List.length_singleton] at eo2;subst eo2;have HO2:=Aside0.mk ho;have HM2:=Aside0.mk (HM9.out.grown hg (Kd.N_away HO9.out (fun k hk=>hk.2.1)) (Kd.N_away HO9.out (fun k hk=>hk.2.2)) (fun k hk=>Kd.N_base HO9.out k hk));have hy0 : w2.cell? ⟨go,0,none⟩=some (.slice (some ax) (k2 + 1 + 1) (c2 + 1 + 1)):=(hg.cell hx0 (Kd.N_away HO9.out (fun k hk=>hk.2.2)));have hyf : w2.frozen? ⟨go,0,none⟩=false:=(by obtain ⟨_,_,_,h9⟩:=HM2.out.r HPN.out.1;exact blk_frozen h9 0);clear ho hb hg hat HO9 HM9 HF)|(go_at_call 22;fail))
       have hset:=HM2.out.set0 HPN.out.1
       rw [← HS.out,HV.out] at hset
       have HM3:=Aside0.mk hset
       have HO3:=Aside0.mk (Kd.N_far HO2.out (p:=⟨go,0,none⟩) (fun k hk=>hk.2.2) (.slice (some ⟨ax.block,ax.off + 1,none⟩) (k2 + 1) (c2 + 1)))
       clear hset HM2 HO2 hx0 hy0 hyf hq4 hrx
       have hnx : nextH (lessM T a l) (lenOf l) p=fixH (lessM T a l) (stepH p):=by unfold nextH;rw [← HS.out,if_neg (by have:=HSL.out;omega)]
       have HNX:=Aside0.mk hnx
       clear hnx
       refine (fix_any HG0.out HM3.out (by have:=HQ.out;rw [stepH_length];omega) (fun t ht=>by
        obtain ⟨z,q,hz⟩ : ∃ z q,p=z :: q:=by cases p with|nil=>exact absurd rfl HPN.out.1|cons z q=>exact ⟨z,q,rfl⟩
        have h1:=HS.out
        have h2:=HL.out
        have h3:=HSL.out
        rw [hz] at h1 h2 ht
        rw [step_cons] at ht
        have h4 : s=z:=h1
        subst h4
        rcases List.mem_cons.mp ht with rfl|ht
        ·show s.2 + 1 < lenOf l s.1
         omega
        ·exact h2 t (List.mem_cons_of_mem _ ht))).mono ?_
       rintro e w7 ⟨rfl,h4,hk⟩
       rw [← HNX.out] at h4
       have HM4:=Aside0.mk h4
       have HO4:=Aside0.mk (Kd.N_kept HO3.out hk (fun k hk h9=>by rcases h9 with h9|h9;exact hk.2.1 h9;exact hk.2.2 h9))
       clear h4 hk HM3 HO3
       go_wp2
       go_roundg m1
       case measure=>have:=HMM.out;omega
       case rel =>
        have h1:=next_mem (lessM T a l) (lenOf l) p HPN.out.1 HL.out
        have h2:=(nextH_left (lessM T a l) (lenOf l) p HPN.out.1 HL.out).length_eq
        rw [List.length_cons] at h2
        refine ⟨nextH (lessM T a l) (lenOf l) p,out ++ [s],?_,⟨?_⟩,⟨h1.2.1⟩,HM4,⟨by rw [HE2.out,← HS.out]⟩⟩
        ·rw [List.map_append]
         exact HO4
        ·have h3:=HQ.out
         have h4:=HMM.out
         have h5:=h1.1
         rw [List.length_append,List.length_singleton]
         omega
end Go.Proofs.Ytfiandejapgkoaa.P

