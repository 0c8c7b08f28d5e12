/- Texts of FoldLast. Merged: HFoldB. -/
import Derived.Test.YtmanchjamkpklaaQFoldLastPx2
import Derived.Test.YtmanchjamkpklaaQFoldLastHFoldA
import Derived.Test.YtmanchjamkpklaaQFoldLastWMore
/- fold.One, by hand: two rows of one key as one. -/
namespace Go.Proofs.YtmanchjamkpklaaW.PrintLast
open Go.RowKit Go.Proofs.YtmanchjamkpklaaW.PrintWords
theorem goesV_ {P : Program} {ops : Array Oper} {Q : Exit→Act→World→Prop} {oi : Oper} {N : Option Tmp} {a : Act} {w : World} {K : Act→World→Prop} {f : FuncId} {fn : Func} {x : Operand} {xs : Array Operand} {ts : Array TypeId} (hf : P.funcs[f]?=some fn) (hname : (fn.name == "runtime.NumGoroutine")=false) (hb : fn.body.isSome=true) (args : Array Value)
  (hw : Region.wanted oi (yielded ops a.tmps)=true) (hN : oi.dst=N) (hop : oi.op=.call { callee:=.value x,args:=xs,argTypes:=ts }) (hx : a.eval x=.func (.func f) #[] #[]) (hargs : xs.map a.eval=args)
  (h : Calls P f args w fun e w'=>∃ v,e=.returned v∧K (a.put N v) w') : if Region.wanted oi (yielded ops a.tmps)=true then Oper.wp P oi a w K Q else K (a.put N undef) w:=by
 refine call_ f args hw hN ?_ h
 have he:=enters_ hf hname hb args w
 unfold execOp
 simp [hop,resolve,Deferred.ofValue,invoke,hargs,he,hx]
theorem add0 (g n : Nat) : (⟨g,0,none⟩ : Addr).add n=⟨g,n,none⟩:=by
 unfold Addr.add
 split
 ·rename_i h;rw [h]
 ·simp
theorem R_shape {α : Type} {d : Kd α} {e base B : Nat} {W : World} {ok : Nat→Prop} {v : Value} {xs : List α} (h : d.R e W base ok v xs) (hb : ∃ b,v.ownBlock=some b∧B≤b) : ∃ g c,v=.slice (some ⟨g,0,none⟩) xs.length c∧B≤g:=by
 obtain ⟨b,h1,h2⟩:=hb
 obtain ⟨_,inner,ho,hr⟩:=h
 rcases ho.2 with ⟨hv,_⟩|⟨g,cap',cur,hv,_⟩
 ·rw [hv] at h1;simp [Value.ownBlock] at h1
 ·rw [hv] at h1
  simp only [Value.ownBlock,Option.some.injEq] at h1
  exact ⟨g,cap',hv,by omega⟩
theorem R_storeW_step {P : Program} {ops : Array Oper} {o : Oper} {a : Act} {Q : Exit→Act→World→Prop} {Kc : Act→World→Prop} {α : Type} (d : Kd α) {w0 W : World} (base : Nat) (hw : Region.wanted o (yielded ops a.tmps)=true) (hN : o.dst=none) (t : TypeId) (p x : Operand) (ho : o.op=.store t p x) (e : TypeId) {g n cap : Nat} (i : Nat) (xs : List α) (x' : α) (u : Value) (seg : List Value) (ok okp : Nat→Prop)
  (haddr : a.eval p=.pointer (some ⟨g,i * d.sz,none⟩)) (hx : a.eval x=u) (hu : u.cells.toList=seg) (ht : (P.info? t).map (·.size)=some seg.length) (h1 : ∀ q ∈ seg,q.oneCell'=true) (hsz : seg.length=d.sz)
  (HO : d.R e W base ok (.slice (some ⟨g,0,none⟩) n cap) xs) (hi : i < n) (hM : d.M W base okp x' seg) (hokp : ∀ k,okp k→ok k∧k≠g) (HB : Below base w0 W)
  (h : ∀ w1,d.R e w1 base ok (.slice (some ⟨g,0,none⟩) n cap) (xs.set i x')→Below base w0 w1→W.grownBy w1 (some g)→Kc a w1) : if Region.wanted o (yielded ops a.tmps)=true then Oper.wp P o a W Kc Q else Kc (a.put none undef) W:=by
 obtain ⟨c,hcl,_,hcc⟩:=Go.Proofs.YtmanchjamkpklaaW.PrintMore.Kd.R_get HO x' (i : Int) (by omega) (by omega)
 rw [Int.toNat_natCast] at hcc
 have hcc' : ∀ j u,c[j]?=some u→W.cell? ⟨g,(i : Int).toNat * d.sz + j,none⟩=some u:=fun j u hj=>by
  have:=hcc j u hj
  rw [add0] at this
  rw [Int.toNat_natCast]
  exact this
 obtain ⟨hrow,hg⟩:=Kd.R_seg HO (i : Int) (by omega) (by omega) (j:=0) (seg:=seg) hcl hcc' (by omega) (x':=x') (okp:=okp) (by
  rw [List.take_zero,List.nil_append,List.drop_of_length_le (by omega),List.append_nil]
  exact hM) hokp
 rw [Int.toNat_natCast,Nat.add_zero] at hrow hg
 have hbg : base≤g:=Kd.R_base HO g (by simp [Value.ownBlock])
 have hB : Below base w0 (W.setCells g (i * d.sz) seg):=HB.trans ⟨hg.os,hg.tape,hg.output,hg.size,fun k hk=>by
  rcases Nat.lt_or_ge k W.heap.size with hlt|hge
  ·exact hg.block k hlt (fun he=>by injection he with he;omega)
  ·exact setCells_far seg _ k (by omega)⟩
 have hrun : (Instr.storeAt t (.pointer (some ⟨g,i * d.sz,none⟩)) u).run P W=.ok () (W.setCells g (i * d.sz) seg):=by
  obtain ⟨_,inner,hown,hr⟩:=HO
  rcases hown.2 with ⟨hv,_⟩|⟨g',cap',cur,hv,hb,hh,hnc,hcm,hcs,_⟩
  ·cases hv
  injection hv with ha _ hc
  injection ha with ha
  injection ha with hg'
  subst hg';subst hc
  refine run_store_run t u seg hh hu ht ?_ h1
  have h2 : i * d.sz + d.sz≤n * d.sz:=by rw [← Nat.succ_mul];exact Nat.mul_le_mul_right _ hi
  have h3 : n * d.sz≤cap * d.sz:=Nat.mul_le_mul_right _ (by omega)
  omega
 refine skip_ hw hN ?_ (h _ hrow hB hg)
 unfold execOp
 simp only [ho,haddr,hx,Sem.run_bind,Sem.run_pure,Result.andThen_ok,hrun]
theorem all_oneK {l : List Value} (h : l.all (·.oneCell')=true) : ∀ q ∈ l,q.oneCell'=true:=fun q hq=>List.all_eq_true.mp h q hq
theorem lookD_ {P : Program} {ops : Array Oper} {Q : Exit→Act→World→Prop} {oi : Oper} {N : Option Tmp} {a : Act} {W : World} {K : Act→World→Prop} {t : TypeId} {m k : Operand} {B : Nat} {key v : Value}
  (hw : Region.wanted oi (yielded ops a.tmps)=true) (hN : oi.dst=N) (ho : oi.op=.lookup t m k false) (hm : a.eval m=.map (some B)) (hk : a.eval k=key)
  (hrun : (Instr.lookup t (.map (some B)) key false).run P W=.ok v W) (h : K (a.put N v) W) : if Region.wanted oi (yielded ops a.tmps)=true then Oper.wp P oi a W K Q else K (a.put N undef) W:=by
 refine value_ hw hN ?_ h
 unfold execOp
 simp only [ho,hm,hk,Sem.run_bind,Sem.run_pure,Result.andThen_ok,hrun]
 try rfl
theorem store_boxK {P : Program} {ops : Array Oper} {rest : List Oper} {o : Oper} {a : Act} {Q : Exit→Act→World→Prop} {W : World} {t : TypeId} {p x : Operand} {g : Nat} {vs cs : Array Value}
  (hN : o.dst=none) (hgd : o.guard=none) (ho : o.op=.store t p x) (haddr : a.eval p=.pointer (some ⟨g,0,none⟩)) (hx : a.eval x=.agg vs) (hh : W.heap[g]?=some (.cells cs t (0,0))) (ht : (P.info? t).map (·.size)=some vs.toList.length) (hsz : vs.toList.length=cs.size) (h1 : ∀ q ∈ vs.toList,q.oneCell'=true)
  (h : ∀ w1 : World,w1.heap[g]?=some (.cells vs t (0,0))→(∀ k,k≠g→w1.heap[k]?=W.heap[k]?)→w1.heap.size=W.heap.size→(∀ (base : Nat) (w0 : World),base≤g→Below base w0 W→Below base w0 w1)→wpList P ops Q rest a w1) : wpList P ops Q (o :: rest) a W:=by
 have hrun : (Instr.storeAt t (.pointer (some ⟨g,0,none⟩)) (.agg vs)).run P W=.ok () (W.setCells g 0 vs.toList):=run_store_run t (.agg vs) vs.toList hh rfl ht (by rw [hsz];omega) h1
 obtain ⟨cur',h3,h4,h5⟩:=setCells_row vs.toList 0 W cs hh (by omega)
 have e : cur'=vs:=by
  apply Array.toList_inj.mp
  rw [h5,List.take_zero,List.nil_append,List.drop_of_length_le (by rw [Array.length_toList];omega),List.append_nil]
 rw [e] at h3
 obtain ⟨s1,s2,s3,s4⟩:=setCells_same g vs.toList 0 W
 have hfar:=fun k (hk : k≠g)=>setCells_far (g:=g) vs.toList 0 (w:=W) k hk
 refine wpList_plain hgd fun K hK=>?_
 unfold Oper.wp execOp
 simp only [ho,haddr,hx,Sem.run_bind,Sem.run_pure,Result.andThen_ok,hrun]
 show K (a.put o.dst undef) _
 rw [hN]
 exact hK a _ (h _ h3 hfar s4 (fun base w0 hb hB=>hB.trans ⟨s1,s2,s3,by omega,fun k hk=>hfar k (by omega)⟩))
end Go.Proofs.YtmanchjamkpklaaW.PrintLast
namespace Go.Proofs.YtmanchjamkpklaaW.PrintMore
open Go.RowKit Go.Proofs.YtmanchjamkpklaaW.PrintWords
namespace Kd
open Go.Proofs.YtmanchjamkpklaaW.PrintWords.Kd
end Kd
end Go.Proofs.YtmanchjamkpklaaW.PrintMore
namespace Go.Proofs.Ytmanchjamkpklaa.P
open Go.RowKit Go.Proofs.YtmanchjamkpklaaW.PrintWords Go.Proofs.YtmanchjamkpklaaW.PrintLast Go.Proofs.YtmanchjamkpklaaW.PrintMore
set_option linter.unusedVariables false
set_option linter.unusedSimpArgs false
theorem JMap.drew {W : World} {B : Nat} {D : Nat→Bool} (h : JMap W B D) : JMap W.drew B D:=h.same rfl
theorem JMap.grown {W W' : World} {B : Nat} {D : Nat→Bool} {row : Option Nat} (h : JMap W B D) (hg : W.grownBy W' row) (hne : some B≠row) : JMap W' B D:=h.same (hg.block B h.lt hne)
set_option maxHeartbeats 2000000 in
theorem last_any (t a0 b0 : Int) (a1 b1 : ByteArray) (w : World) : Calls Try.prog 29 #[.int .i64 t,.agg #[.int .i64 a0,.string a1],.agg #[.int .i64 b0,.string b1]] w fun e w'=>e=.returned (.agg #[.int .i64 b0,.string b1])∧Below w.heap.size w w':=by
 have HB:=Aside0.mk (Below.refl w.heap.size w)
 have hu45:=Try.underlying45
 go_enter Try.func29,Try.ntmps29
 go_wp2_with (first|((with_reducible refine gate_dst (N:=4) rfl ?_);refine box_event ?hg (N:=4) ?hd (cs:=#[.int .i64 a0,.string a1]) (t:=45) ?hr ?_;(case hd=>rfl);(case hg=>rfl);(case hr=>first|(go_simp;done)|(go_simp;rfl));intro ga hg w4 hbox hb;have GEga:=Aside0.mk ((by rw [hg];exact below_size HB.out) : w.heap.size≤ga);have n0_:=Aside0.mk (below_step HB.out hb);clear HB;have HB:=n0_;clear n0_;have BKga:=Aside0.mk hbox;clear hb hbox hg)|((with_reducible refine gate_dst (N:=5) rfl ?_);refine box_event ?hg (N:=5) ?hd (cs:=#[.int .i64 b0,.string b1]) (t:=45) ?hr ?_;(case hd=>rfl);(case hg=>rfl);(case hr=>first|(go_simp;done)|(go_simp;rfl));intro gb hg w5 hbox hb;have GEgb:=Aside0.mk ((by rw [hg];exact below_size HB.out) : w.heap.size≤gb);have n0_:=Aside0.mk (blk_below BKga.out hb);have n1_:=Aside0.mk (below_step HB.out hb);clear BKga HB;have BKga:=n0_;have HB:=n1_;clear n0_ n1_;have BKgb:=Aside0.mk hbox;clear hb hbox hg)|((with_reducible refine gate_dst (N:=6) rfl ?_);refine box_event ?hg (N:=6) ?hd (cs:=#[.int .i64 0,.string (⟨#[]⟩ : ByteArray)]) (t:=45) ?hr ?_;(case hd=>rfl);(case hg=>rfl);(case hr=>first|(go_simp;done)|(go_simp;rfl));intro gr hg w6 hbox hb;have GEgr:=Aside0.mk ((by rw [hg];exact below_size HB.out) : w.heap.size≤gr);have n0_:=Aside0.mk (blk_below BKga.out hb);have n1_:=Aside0.mk (blk_below BKgb.out hb);have n2_:=Aside0.mk (below_step HB.out hb);clear BKga BKgb HB;have BKga:=n0_;have BKgb:=n1_;have HB:=n2_;clear n0_ n1_ n2_;have BKgr:=Aside0.mk hbox;clear hb hbox hg;have cgb0 : w6.cell? ⟨gb,0,none⟩=some (.int .i64 b0):=(blk_cell BKgb.out 0).trans rfl;have cgb1 : w6.cell? ⟨gb,1,none⟩=some (.string b1):=(blk_cell BKgb.out 1).trans rfl)|((with_reducible refine gate_ (.store 45 (.tmp 6) (.tmp 7)) rfl ?_);refine store_boxK (g:=gr) (vs:=#[.int .i64 b0,.string b1]) rfl rfl rfl ?ha ?hx BKgr.out ?ht ?hsz ?h1 ?_;(case ha=>rfl);(case hx=>rfl);(case ht=>kernel_rfl);(case hsz=>rfl);(case h1=>(apply all_oneK;rfl));intro w8 hs_ hf_ hz_ hb_;have n0_:=Aside0.mk (hb_ _ _ GEgr.out HB.out);have n1_:=Aside0.mk (hs_);clear HB BKgr;have HB:=n0_;have BKgr:=n1_;clear n0_ n1_;clear hs_ hf_ hz_ hb_))
 refine bodyPost_ret (results_cell_row rfl _ _ gr 45 #[.int .i64 b0,.string b1] (0,0) _ rfl BKgr.out Try.underlying45 rfl (by kernel_rfl)) rfl ?_
 exact ⟨rfl,HB.out⟩
def foldJ (k : Nat) (K M t : Int) (i : Nat) (x y : S45) : Option S45 :=
 if M=3∧¬ (i : Int) < K then (value_Add.f k t x.f0 x.f1 y.f0 y.f1).bind fun p=>some ⟨p.1,p.2⟩ else some y
def foldGo (k : Nat) (K M : Int) : Nat→List Int→List S45→List S45→Option (List S45)
 | _,[],_,[]=>some []
 | i,t :: T,x :: la,y :: lb=>(foldJ k K M t i x y).bind fun z=>(foldGo k K M (i + 1) T la lb).bind fun zs=>some (z :: zs)
 | _,_,_,_=>none
def fold_One.f (k : Nat) (T : List Int) (K M G : Int) (la lb : List S45) : Option (List S45) :=
 if T.length≤1000000∧1≤M∧M≤3∧lb.length=T.length then foldGo k K M 0 T la lb else none
theorem foldJ_mono (K M t : Int) (i : Nat) (x y : S45) (k : Nat) : LeO (foldJ k K M t i x y) (foldJ (k + 1) K M t i x y):=by
 unfold foldJ
 split
 ·exact LeO.bind (value_Add.mono _ _ _ _ _ _) (fun _=>LeO.refl _)
 ·exact LeO.refl _
theorem foldGo_mono (K M : Int) (k : Nat) : ∀ (T : List Int) (i : Nat) (la lb : List S45),LeO (foldGo k K M i T la lb) (foldGo (k + 1) K M i T la lb)
 | [],i,la,[]=>LeO.refl _
 | [],i,la,_ :: _=>LeO.refl _
 | t :: T,i,[],lb=>LeO.refl _
 | t :: T,i,_ :: _,[]=>LeO.refl _
 | t :: T,i,x :: la,y :: lb=>by
  unfold foldGo
  exact LeO.bind (foldJ_mono _ _ _ _ _ _ _) (fun _=>LeO.bind (foldGo_mono K M k T (i + 1) la lb) (fun _=>LeO.refl _))
theorem fold_One.mono (T : List Int) (K M G : Int) (la lb : List S45) (k : Nat) : LeO (fold_One.f k T K M G la lb) (fold_One.f (k + 1) T K M G la lb):=by
 unfold fold_One.f
 split
 ·exact foldGo_mono _ _ _ _ _ _ _
 ·exact LeO.refl _
theorem foldGo_step {k : Nat} {K M : Int} {T : List Int} {la lb : List S45} {i : Nat} (hT : i < T.length) (hlb : lb.length=T.length) {rest : List S45} (h : foldGo k K M i (T.drop i) (la.drop i) (lb.drop i)=some rest) :
  i < la.length∧∃ z rest',foldJ k K M (rd T (i : Int)) i (rd_T45 la (i : Int)) (rd_T45 lb (i : Int))=some z∧foldGo k K M (i + 1) (T.drop (i + 1)) (la.drop (i + 1)) (lb.drop (i + 1))=some rest'∧rest=z :: rest':=by
 have h2 : i < lb.length:=by omega
 rw [List.drop_eq_getElem_cons hT,List.drop_eq_getElem_cons h2] at h
 rcases Nat.lt_or_ge i la.length with h1|h1
 ·have e0 : rd T (i : Int)=T[i]:=by simp [rd,List.getD,hT]
  have e1 : rd_T45 la (i : Int)=la[i]:=by simp [rd_T45,List.getD,h1]
  have e2 : rd_T45 lb (i : Int)=lb[i]:=by simp [rd_T45,List.getD,h2]
  rw [List.drop_eq_getElem_cons h1] at h
  rw [e0,e1,e2]
  unfold foldGo at h
  obtain ⟨z,q1,h⟩:=Option.bind_eq_some_iff.mp h
  obtain ⟨rs,q2,h⟩:=Option.bind_eq_some_iff.mp h
  exact ⟨h1,z,rs,q1,q2,(Option.some.inj h).symm⟩
 ·rw [List.drop_of_length_le h1] at h
  exact absurd h (by simp [foldGo])
theorem foldGo_end {k : Nat} {K M : Int} {la : List S45} {i : Nat} {rest : List S45} (h : foldGo k K M i [] la []=some rest) : rest=[]:=by
 unfold foldGo at h
 exact (Option.some.inj h).symm
theorem set_next (zs : List S45) (z z0 : S45) (n i : Nat) (hz : zs.length=i) (hi : i < n) : (zs ++ List.replicate (n - i) z0).set i z=(zs ++ [z]) ++ List.replicate (n - (i + 1)) z0:=by
 obtain ⟨m,hm⟩ : ∃ m,n - i=m + 1:=⟨n - i - 1,by omega⟩
 rw [hm,List.replicate_succ,List.set_append,if_neg (by omega),show i - zs.length=0 by omega,List.set_cons_zero,List.append_assoc,show n - (i + 1)=m by omega]
 rfl
structure JoinOk (k : Nat) (K M t : Int) (i : Nat) (f : FuncId) : Prop where
 fn : ∃ fv,Try.prog.funcs[f]?=some fv∧(fv.name == "runtime.NumGoroutine")=false∧fv.body.isSome=true
 call : ∀ (x y z : S45) (W : World),foldJ k K M t i x y=some z→Calls Try.prog f #[.int .i64 t,.agg #[.int .i64 x.f0,.string x.f1],.agg #[.int .i64 y.f0,.string y.f1]] W fun e w'=>e=.returned (.agg #[.int .i64 z.f0,.string z.f1])∧Below W.heap.size W w'
theorem join_look (k : Nat) (K M t : Int) (i : Nat) (h1 : 1≤M) (h3 : M≤3) : ∃ f,JoinOk k K M t i f∧∀ (W : World) (B : Nat),JMap W B (fun _=>true)→(Instr.lookup 51 (.map (some B)) (.agg #[.int .i64 M,.bool (decide ((i : Int) < K))]) false).run Try.prog W=.ok (.func (.func f) #[] #[]) W:=by
 have last : ∀ (h : ¬ (M=3∧¬ (i : Int) < K)),JoinOk k K M t i 29:=fun h=>⟨⟨_,Try.func29,by kernel_rfl,rfl⟩,fun x y z W hj=>by
  unfold foldJ at hj
  rw [if_neg h] at hj
  obtain rfl:=Option.some.inj hj
  exact last_any _ _ _ _ _ _⟩
 have hM : M=1 ∨ M=2 ∨ M=3:=by omega
 by_cases c : (i : Int) < K
 ·rw [decide_eq_true c]
  refine ⟨29,last (fun h=>h.2 c),fun W B hj=>?_⟩
  rcases hM with rfl|rfl|rfl
  ·exact hj.look (j:=0) (by omega) rfl
  ·exact hj.look (j:=2) (by omega) rfl
  ·exact hj.look (j:=4) (by omega) rfl
 ·rw [decide_eq_false c]
  rcases hM with rfl|rfl|rfl
  ·exact ⟨29,last (fun h=>by omega),fun W B hj=>hj.look (j:=1) (by omega) rfl⟩
  ·exact ⟨29,last (fun h=>by omega),fun W B hj=>hj.look (j:=3) (by omega) rfl⟩
  ·refine ⟨30,⟨⟨_,Try.func30,by kernel_rfl,rfl⟩,fun x y z W hj=>?_⟩,fun W B hj=>hj.look (j:=5) (by omega) rfl⟩
   unfold foldJ at hj
   rw [if_pos ⟨rfl,c⟩] at hj
   obtain ⟨⟨p1,p2⟩,q1,q2⟩:=Option.bind_eq_some_iff.mp hj
   obtain rfl:=Option.some.inj q2
   exact value_Add.calls k _ _ _ _ _ _ _ W q1
set_option maxHeartbeats 8000000 in
set_option maxRecDepth 100000 in
theorem fold_One.calls (k : Nat) (A : Option Addr) (c : Nat) (T : List Int) (K M G : Int) (AA : Option Addr) (cA : Nat) (la : List (S45)) (AB : Option Addr) (cB : Nat) (lb : List (S45)) (r : List (S45)) (w : World)
  (hT : Kd.C (Kd.int .i64) w A T.length T) (hc : T.length≤c) (hA : Kd.C k45 w AA la.length la) (hcA : la.length≤cA) (hL : Kd.C k45 w AB lb.length lb) (hcL : lb.length≤cB) (h : fold_One.f k T K M G la lb=some r) :
  Calls Try.prog 17 #[.agg #[.slice A T.length c,.int .i64 K,.int .i64 M,.int .i64 G],.slice AA la.length cA,.slice AB lb.length cB] w fun e w'=>∃ v0_ : Value,e=.returned (v0_)∧Kd.R k45 45 w' w.heap.size (fun _=>True) v0_ r∧Below w.heap.size w w':=by
 unfold fold_One.f at h
 by_cases hn : T.length≤1000000∧1≤M∧M≤3∧lb.length=T.length
 case neg=>rw [if_neg hn] at h;exact absurd h (by simp)
 rw [if_pos hn] at h
 obtain ⟨hn1,hm1,hm3,hlb⟩:=hn
 have hu29:=Try.underlying29
 have hu45:=Try.underlying45
 have hu55:=Try.underlying55
 have HT:=Aside0.mk hT
 have HLA:=Aside0.mk hA
 have HLB:=Aside0.mk hL
 have HC:=Aside0.mk (And.intro hc (And.intro hcA hcL))
 have HLN:=Aside0.mk hn1
 have HMM:=Aside0.mk (And.intro hm1 hm3)
 have HEQ:=Aside0.mk hlb
 have HH:=Aside0.mk (show ∃ rest,foldGo k K M 0 (T.drop 0) (la.drop 0) (lb.drop 0)=some rest∧r=[] ++ rest from ⟨r,by rw [List.drop_zero,List.drop_zero,List.drop_zero];exact h,rfl⟩)
 have HB:=Aside0.mk (Below.refl w.heap.size w)
 clear hT hc hA hcA hL hcL h hn1 hm1 hm3 hlb
 go_enter Try.func17,Try.ntmps17
 go_wp2_with (first|((with_reducible refine gate_dst (N:=3) rfl ?_);refine box_event ?hg (N:=3) ?hd (cs:=#[.slice A T.length c,.int .i64 K,.int .i64 M,.int .i64 G]) (t:=29) ?hr ?_;(case hd=>rfl);(case hg=>rfl);(case hr=>first|(go_simp;done)|(go_simp;rfl));intro gs hg w4 hbox hb;have GEgs:=Aside0.mk ((by rw [hg];exact below_size HB.out) : w.heap.size≤gs);have n0_:=Aside0.mk (below_step HB.out hb);clear HB;have HB:=n0_;clear n0_;have BKgs:=Aside0.mk hbox;clear hb hbox hg)|(go_at_call 24;(with_reducible refine (joins_any _).mono ?_);rintro e w5 ⟨B,rfl,hj,hb⟩;have HBM:=Aside0.mk (below_size (below_step HB.out hb));have n0_:=Aside0.mk (blk_below BKgs.out hb);have n1_:=Aside0.mk (below_step HB.out hb);clear BKgs HB;have BKgs:=n0_;have HB:=n1_;clear n0_ n1_;have HJ:=Aside0.mk hj;have HBL:=Aside0.mk hj.lt;clear hj hb)|((with_reducible refine gate_dst (N:=14) rfl ?_);refine Kd.R_make k45 (w0:=w) w.heap.size 45 rfl (N:=14) rfl 36 _ _ rfl ((lb.length : Nat) : Int) rfl rfl Try.underlying36 (.agg #[(.int .i64 0),(.string ⟨#[]⟩)]) 24 info45 rfl (by decide) (by omega) (⟨0,⟨#[]⟩⟩ : S45) (ok:=fun _=>True) (okp:=fun _=>False) ?mz (fun _ hk=>hk.elim) trivial (by omega) ?ml HB.out HBM.out ?_;(case mz=>exact k45_mkM _ _ _ (⟨0,⟨#[]⟩⟩ : S45));(case ml=>have:=HLN.out;have:=HEQ.out;rw [Int.toNat_natCast];omega);intro v7 w7 ho hb hg hat;have n0_:=Aside0.mk (blk_grown BKgs.out hg (by simp));have n1_:=Aside0.mk (HJ.out.grown hg (by simp));have n2_:=Aside0.mk (HBM.out);have n3_:=Aside0.mk (HBL.out);clear BKgs HJ HBM HBL;have BKgs:=n0_;have HJ:=n1_;have HBM:=n2_;have HBL:=n3_;clear n0_ n1_ n2_ n3_;clear HB;have HB:=Aside0.mk hb;have HO:=Aside0.mk ho;clear hb ho hg;have cgs0 : w7.cell? ⟨gs,0,none⟩=some (.slice A T.length c):=(blk_cell BKgs.out 0).trans rfl))
 obtain ⟨g,cg,rfl,hgb⟩:=R_shape HO.out hat
 have hlen : (List.replicate ((lb.length : Int)).toNat (⟨0,⟨#[]⟩⟩ : S45)).length=lb.length:=by rw [List.length_replicate,Int.toNat_natCast]
 rw [hlen]
 have hHO:=HO.out
 rw [hlen,Int.toNat_natCast] at hHO
 have HNB:=Aside0.mk (show B≠g by have:=HBL.out;omega)
 have HO2:=Aside0.mk (show Kd.R k45 45 w7 w.heap.size (fun _=>True) (.slice (some ⟨g,0,none⟩) lb.length cg) ([] ++ List.replicate (T.length - 0) (⟨0,⟨#[]⟩⟩ : S45)) by rw [List.nil_append,Nat.sub_zero,← HEQ.out];exact hHO)
 clear hHO hlen hgb hat HO HBM HBL
 clear cgs0
 go_loopg [18] T.length (fun kq v18 w'=>∃ (i : Nat) (zs : List (S45)),v18=.int .i64 i∧Aside0 (i + kq=T.length)∧Aside0 (zs.length=i)∧Aside0 (∃ rest,foldGo k K M i (T.drop i) (la.drop i) (lb.drop i)=some rest∧r=zs ++ rest)∧Aside0 (Kd.R k45 45 w' w.heap.size (fun _=>True) (.slice (some ⟨g,0,none⟩) lb.length cg) (zs ++ List.replicate (T.length - i) (⟨0,⟨#[]⟩⟩ : S45)))∧Aside0 (w'.heap[gs]?=some (.cells #[.slice A T.length c,.int .i64 K,.int .i64 M,.int .i64 G] 29 (0,0)))∧Aside0 (JMap w' B (fun _=>true))∧Aside0 (Below w.heap.size w w'))
 case atStart=>exact ⟨0,[],rfl,⟨by omega⟩,⟨rfl⟩,HH,HO2,BKgs,HJ,HB⟩
 case round =>
  clear HH HO2 BKgs HJ HB
  obtain ⟨i,zs,rfl,HK1,HON,HA,HO,BKgs,HJ,HB⟩:=hrel
  by_cases hlt : i < T.length
  ·obtain ⟨m1,hm1⟩ : ∃ m,m + 1=gk:=⟨gk - 1,by have:=HK1.out;omega⟩
   have HM:=Aside0.mk hm1
   have HI:=Aside0.mk hlt
   clear hm1
   obtain ⟨rest,ha,hr⟩:=HA.out
   obtain ⟨hia,z,rest',h1,h2,h3⟩:=foldGo_step hlt HEQ.out ha
   have hib : i < lb.length:=by have:=HEQ.out;omega
   have HA':=Aside0.mk (show ∃ rest,foldGo k K M (i + 1) (T.drop (i + 1)) (la.drop (i + 1)) (lb.drop (i + 1))=some rest∧r=(zs ++ [z]) ++ rest from ⟨rest',h2,by rw [hr,h3];simp⟩)
   clear HA hr h2 h3 ha
   obtain ⟨adT,eT,hT0⟩:=Kd.at_int HT.out (i : Int) (by omega) (by omega)
   obtain ⟨adp,ep,hp0,hp1⟩:=at_T45 HLA.out (i : Int) (by omega) (by omega)
   obtain ⟨adq,eq,hq0,hq1⟩:=at_T45 HLB.out (i : Int) (by omega) (by omega)
   simp only [Int.toNat_natCast] at hT0 hp0 hp1 hq0 hq1
   obtain ⟨t,ht⟩ : ∃ x,x=rd T (i : Int):=⟨_,rfl⟩
   obtain ⟨x,hx⟩ : ∃ x,x=rd_T45 la (i : Int):=⟨_,rfl⟩
   obtain ⟨y,hy⟩ : ∃ x,x=rd_T45 lb (i : Int):=⟨_,rfl⟩
   rw [← ht] at h1 hT0
   rw [← hx] at h1 hp0 hp1
   rw [← hy] at h1 hq0 hq1
   clear ht hx hy
   cases eT
   cases ep
   cases eq
   obtain ⟨f,hjo,hlook⟩:=join_look k K M t i HMM.out.1 HMM.out.2
   obtain ⟨fnv,hf1,hf2,hf3⟩:=hjo.fn
   have HJO:=Aside0.mk hjo
   have HLK:=Aside0.mk hlook
   have HF1:=Aside0.mk hf1
   have HF2:=Aside0.mk hf2
   have HF3:=Aside0.mk hf3
   have HF:=Aside0.mk h1
   have HPQ:=Aside0.mk (And.intro hp0 (And.intro hp1 (And.intro hq0 hq1)))
   clear hjo hlook hf1 hf2 hf3 h1 hp0 hp1 hq0 hq1
   replace hT0:=(HB.out.cell (World.block_lt_of_cell? w _ hT0)).trans hT0
   have hlt' : decide ((i : Int) < (T.length : Int))=true:=decide_eq_true (by omega)
   have p2 : (0≤(i : Int))=True:=eq_true (by omega)
   have p3 : ((i : Int) < (T.length : Int))=True:=eq_true (by omega)
   have p4 : ((i : Int) < (la.length : Int))=True:=eq_true (by omega)
   have p5 : ((i : Int) < (lb.length : Int))=True:=eq_true (by omega)
   have HIB:=Aside0.mk hib
   clear hlt hia hib
   go_wp2
   clear hT0
   obtain ⟨hp0,hp1,hq0,hq1⟩:=HPQ.out
   have n0_:=Aside0.mk (blk_drew BKgs.out);have n1_:=Aside0.mk (HJ.out.drew);have n2_:=Aside0.mk (Kd.R_drew HO.out);have n3_:=Aside0.mk (below_drew1 HB.out);clear BKgs HJ HO HB;have BKgs:=n0_;have HJ:=n1_;have HO:=n2_;have HB:=n3_;clear n0_ n1_ n2_ n3_
   refine start_ (n:=23) (S:=fun w'=>w'.cell? ⟨gs,1,none⟩=some (.int .i64 K)∧w'.cell? ⟨gs,2,none⟩=some (.int .i64 M)∧w'.cell? (adp.add (i * 2))=some (.int .i64 x.f0)∧w'.cell? ⟨(adp.add (i * 2)).block,(adp.add (i * 2)).off + 1,none⟩=some (.string x.f1)∧w'.cell? (adq.add (i * 2))=some (.int .i64 y.f0)∧w'.cell? ⟨(adq.add (i * 2)).block,(adq.add (i * 2)).off + 1,none⟩=some (.string y.f1)) (ds:=[22]) #[false,false,false,false,false,false,false,false,false,false,false,false,false,false,false,false,false,false,false,false,false,false,false] (by kernel_rfl) rfl rfl ⟨((blk_cell BKgs.out 1).trans rfl),((blk_cell BKgs.out 2).trans rfl),((HB.out.cell (World.block_lt_of_cell? w _ hp0)).trans hp0),((HB.out.cell (World.block_lt_of_cell? w _ hp1)).trans hp1),((HB.out.cell (World.block_lt_of_cell? w _ hq0)).trans hq0),((HB.out.cell (World.block_lt_of_cell? w _ hq1)).trans hq1)⟩ (fun hHeld=>?_)
   refine pure_ (i:=0) (N:=some 23) (v:=?_) (a':=?_) #[true,false,false,false,false,false,false,false,false,false,false,false,false,false,false,false,false,false,false,false,false,false,false] rfl rfl (by kernel_rfl) (fun _ _ _ h=>h) (Or.inl ⟨by rfl,?_⟩) ?_ ?_
   rotate_left;(intro w';go_simp;with_reducible rfl);rotate_left;(simp only [Act.put,List.setIfInBounds_toArray,List.set_cons_zero,List.set_cons_succ,i64_w,i32_w];rfl)
   refine pure_ (i:=1) (N:=some 24) (v:=?_) (a':=?_) #[true,true,false,false,false,false,false,false,false,false,false,false,false,false,false,false,false,false,false,false,false,false,false] rfl rfl (by kernel_rfl) (fun _ _ _ h=>h) (Or.inl ⟨by rfl,?_⟩) ?_ ?_
   rotate_left;(intro w';go_simp;with_reducible rfl);rotate_left;(simp only [Act.put,List.setIfInBounds_toArray,List.set_cons_zero,List.set_cons_succ,i64_w,i32_w];rfl)
   refine pure_ (i:=2) (N:=some 25) (v:=?_) (a':=?_) #[true,true,true,false,false,false,false,false,false,false,false,false,false,false,false,false,false,false,false,false,false,false,false] rfl rfl (by kernel_rfl) (fun _ _ _ h=>h) (Or.inl ⟨by rfl,?_⟩) ?_ ?_
   rotate_left;(intro w';go_simp;with_reducible rfl);rotate_left;(simp only [Act.put,List.setIfInBounds_toArray,List.set_cons_zero,List.set_cons_succ,i64_w,i32_w];rfl)
   refine pure_ (i:=3) (N:=some 26) (v:=?_) (a':=?_) #[true,true,true,true,false,false,false,false,false,false,false,false,false,false,false,false,false,false,false,false,false,false,false] rfl rfl (by kernel_rfl) (fun _ _ _ h=>h) (Or.inl ⟨by rfl,?_⟩) ?_ ?_
   rotate_left;(intro w';go_simp;with_reducible rfl);rotate_left;(simp only [Act.put,List.setIfInBounds_toArray,List.set_cons_zero,List.set_cons_succ,i64_w,i32_w];rfl)
   refine pure_ (i:=5) (N:=some 28) (v:=?_) (a':=?_) #[true,true,true,true,false,true,false,false,false,false,false,false,false,false,false,false,false,false,false,false,false,false,false] rfl rfl (by kernel_rfl) (fun _ _ _ h=>h) (Or.inl ⟨by rfl,?_⟩) ?_ ?_
   rotate_left;(intro w';go_simp;with_reducible rfl);rotate_left;(simp only [Act.put,List.setIfInBounds_toArray,List.set_cons_zero,List.set_cons_succ,i64_w,i32_w];rfl)
   refine pure_ (i:=6) (N:=some 29) (v:=?_) (a':=?_) #[true,true,true,true,false,true,true,false,false,false,false,false,false,false,false,false,false,false,false,false,false,false,false] rfl rfl (by kernel_rfl) (fun _ _ _ h=>h) (Or.inl ⟨by rfl,?_⟩) ?_ ?_
   rotate_left;(intro w';go_simp;with_reducible rfl);rotate_left;(simp only [Act.put,List.setIfInBounds_toArray,List.set_cons_zero,List.set_cons_succ,i64_w,i32_w];rfl)
   refine pure_ (i:=11) (N:=some 34) (v:=?_) (a':=?_) #[true,true,true,true,false,true,true,false,false,false,false,true,false,false,false,false,false,false,false,false,false,false,false] rfl rfl (by kernel_rfl) (fun _ _ _ h=>h) (Or.inl ⟨by rfl,?_⟩) ?_ ?_
   rotate_left;(intro w';go_simp;with_reducible rfl);rotate_left;(simp only [Act.put,List.setIfInBounds_toArray,List.set_cons_zero,List.set_cons_succ,i64_w,i32_w];rfl)
   refine pure_ (i:=12) (N:=some 35) (v:=?_) (a':=?_) #[true,true,true,true,false,true,true,false,false,false,false,true,true,false,false,false,false,false,false,false,false,false,false] rfl rfl (by kernel_rfl) (fun _ _ _ h=>h) (Or.inl ⟨by rfl,?_⟩) ?_ ?_
   rotate_left;(intro w';go_simp;with_reducible rfl);rotate_left;(simp only [Act.put,List.setIfInBounds_toArray,List.set_cons_zero,List.set_cons_succ,i64_w,i32_w];rfl)
   refine pure_ (i:=13) (N:=some 36) (v:=?_) (a':=?_) #[true,true,true,true,false,true,true,false,false,false,false,true,true,true,false,false,false,false,false,false,false,false,false] rfl rfl (by kernel_rfl) (fun _ _ _ h=>h) (Or.inl ⟨by rfl,?_⟩) ?_ ?_
   rotate_left;(intro w';go_simp;with_reducible rfl);rotate_left;(simp only [Act.put,List.setIfInBounds_toArray,List.set_cons_zero,List.set_cons_succ,i64_w,i32_w];rfl)
   refine pure_ (i:=14) (N:=some 37) (v:=?_) (a':=?_) #[true,true,true,true,false,true,true,false,false,false,false,true,true,true,true,false,false,false,false,false,false,false,false] rfl rfl (by kernel_rfl) (fun _ _ _ h=>h) (Or.inl ⟨by rfl,?_⟩) ?_ ?_
   rotate_left;(intro w';go_simp;with_reducible rfl);rotate_left;(simp only [Act.put,List.setIfInBounds_toArray,List.set_cons_zero,List.set_cons_succ,i64_w,i32_w];rfl)
   refine pure_ (i:=16) (N:=some 39) (v:=?_) (a':=?_) #[true,true,true,true,false,true,true,false,false,false,false,true,true,true,true,false,true,false,false,false,false,false,false] rfl rfl (by kernel_rfl) (fun _ _ _ h=>h) (Or.inl ⟨by rfl,?_⟩) ?_ ?_
   rotate_left;(intro w';go_simp;with_reducible rfl);rotate_left;(simp only [Act.put,List.setIfInBounds_toArray,List.set_cons_zero,List.set_cons_succ,i64_w,i32_w];rfl)
   refine pure_ (i:=17) (N:=some 40) (v:=?_) (a':=?_) #[true,true,true,true,false,true,true,false,false,false,false,true,true,true,true,false,true,true,false,false,false,false,false] rfl rfl (by kernel_rfl) (fun _ _ _ h=>h) (Or.inl ⟨by rfl,?_⟩) ?_ ?_
   rotate_left;(intro w';go_simp;with_reducible rfl);rotate_left;(simp only [Act.put,List.setIfInBounds_toArray,List.set_cons_zero,List.set_cons_succ,i64_w,i32_w];rfl)
   refine pure_ (i:=18) (N:=some 41) (v:=?_) (a':=?_) #[true,true,true,true,false,true,true,false,false,false,false,true,true,true,true,false,true,true,true,false,false,false,false] rfl rfl (by kernel_rfl) (fun _ _ _ h=>h) (Or.inl ⟨by rfl,?_⟩) ?_ ?_
   rotate_left;(intro w';go_simp;with_reducible rfl);rotate_left;(simp only [Act.put,List.setIfInBounds_toArray,List.set_cons_zero,List.set_cons_succ,i64_w,i32_w];rfl)
   refine take_ (i:=4) (N:=some 27) (v:=?_) (a':=?_) #[true,true,true,true,true,true,true,false,false,false,false,true,true,true,true,false,true,true,true,false,false,false,false] rfl rfl (by kernel_rfl) (fun _ _ _ h=>h) (Or.inl ⟨by rfl,?_⟩) hHeld ?_ ?_
   rotate_left;(rintro w' ⟨s0,s1,s2,s3,s4,s5⟩;go_simp;with_reducible rfl);rotate_left;(simp only [Act.put,List.setIfInBounds_toArray,List.set_cons_zero,List.set_cons_succ,i64_w,i32_w];rfl)
   refine take_ (i:=7) (N:=some 30) (v:=?_) (a':=?_) #[true,true,true,true,true,true,true,true,false,false,false,true,true,true,true,false,true,true,true,false,false,false,false] rfl rfl (by kernel_rfl) (fun _ _ _ h=>h) (Or.inl ⟨by rfl,?_⟩) hHeld ?_ ?_
   rotate_left;(rintro w' ⟨s0,s1,s2,s3,s4,s5⟩;go_simp;with_reducible rfl);rotate_left;(simp only [Act.put,List.setIfInBounds_toArray,List.set_cons_zero,List.set_cons_succ,i64_w,i32_w];rfl)
   refine pure_ (i:=8) (N:=some 31) (v:=?_) (a':=?_) #[true,true,true,true,true,true,true,true,true,false,false,true,true,true,true,false,true,true,true,false,false,false,false] rfl rfl (by kernel_rfl) (fun _ _ _ h=>h) (Or.inl ⟨by rfl,?_⟩) ?_ ?_
   rotate_left;(intro w';go_simp;with_reducible rfl);rotate_left;(simp only [Act.put,List.setIfInBounds_toArray,List.set_cons_zero,List.set_cons_succ,i64_w,i32_w];rfl)
   refine pure_ (i:=9) (N:=some 32) (v:=?_) (a':=?_) #[true,true,true,true,true,true,true,true,true,true,false,true,true,true,true,false,true,true,true,false,false,false,false] rfl rfl (by kernel_rfl) (fun _ _ _ h=>h) (Or.inl ⟨by rfl,?_⟩) ?_ ?_
   rotate_left;(intro w';go_simp;with_reducible rfl);rotate_left;(simp only [Act.put,List.setIfInBounds_toArray,List.set_cons_zero,List.set_cons_succ,i64_w,i32_w];rfl)
   refine take_ (i:=15) (N:=some 38) (v:=?_) (a':=?_) #[true,true,true,true,true,true,true,true,true,true,false,true,true,true,true,true,true,true,true,false,false,false,false] rfl rfl (by kernel_rfl) (fun _ _ _ h=>h) (Or.inl ⟨by rfl,?_⟩) hHeld ?_ ?_
   rotate_left;(rintro w' ⟨s0,s1,s2,s3,s4,s5⟩;go_simp;with_reducible rfl);rotate_left;(simp only [Act.put,List.setIfInBounds_toArray,List.set_cons_zero,List.set_cons_succ,i64_w,i32_w];rfl)
   refine take_ (i:=19) (N:=some 42) (v:=?_) (a':=?_) #[true,true,true,true,true,true,true,true,true,true,false,true,true,true,true,true,true,true,true,true,false,false,false] rfl rfl (by kernel_rfl) (fun _ _ _ h=>h) (Or.inl ⟨by rfl,?_⟩) hHeld ?_ ?_
   rotate_left;(rintro w' ⟨s0,s1,s2,s3,s4,s5⟩;go_simp;with_reducible rfl);rotate_left;(simp only [Act.put,List.setIfInBounds_toArray,List.set_cons_zero,List.set_cons_succ,i64_w,i32_w];rfl)
   refine one_ (i:=10) (N:=some 33) #[true,true,true,true,true,true,true,true,true,true,true,true,true,true,true,true,true,true,true,true,false,false,false] rfl rfl (by kernel_rfl) (by decide) (fun K hK=>?_)
   refine lookD_ (by rfl) rfl rfl rfl rfl (HLK.out _ _ HJ.out) ?_
   refine hK.out _ _ ⟨((blk_cell BKgs.out 1).trans rfl),((blk_cell BKgs.out 2).trans rfl),((HB.out.cell (World.block_lt_of_cell? w _ hp0)).trans hp0),((HB.out.cell (World.block_lt_of_cell? w _ hp1)).trans hp1),((HB.out.cell (World.block_lt_of_cell? w _ hq0)).trans hq0),((HB.out.cell (World.block_lt_of_cell? w _ hq1)).trans hq1)⟩ (fun hHeld=>?_)
   clear hK K
   refine norm_ (a':=?_) ?_ ?_
   rotate_left
   ·show Act.put _ (some 33) _=_
    simp only [Act.put,List.setIfInBounds_toArray,List.set_cons_zero,List.set_cons_succ,i64_w,i32_w]
    rfl
   refine one_ (i:=20) (N:=some 43) #[true,true,true,true,true,true,true,true,true,true,true,true,true,true,true,true,true,true,true,true,true,false,false] rfl rfl (by kernel_rfl) (by decide) (fun K hK=>?_)
   refine goesV_ HF1.out HF2.out HF3.out #[.int .i64 t,.agg #[.int .i64 x.f0,.string x.f1],.agg #[.int .i64 y.f0,.string y.f1]] (by rfl) rfl rfl rfl (by simp only [List.map_toArray,List.map_cons,List.map_nil];rfl) ?_
   with_reducible refine (HJO.out.call x y z _ HF.out).mono ?_
   rintro e w3 ⟨rfl,hb⟩
   refine ⟨_,rfl,?_⟩
   have n0_:=Aside0.mk (blk_below BKgs.out hb);have n1_:=Aside0.mk (HJ.out.below hb);have n2_:=Aside0.mk (Kd.R_below HO.out hb);have n3_:=Aside0.mk (below_step HB.out hb);clear BKgs HJ HO HB;have BKgs:=n0_;have HJ:=n1_;have HO:=n2_;have HB:=n3_;clear n0_ n1_ n2_ n3_
   clear hb
   refine hK.out _ _ ⟨((blk_cell BKgs.out 1).trans rfl),((blk_cell BKgs.out 2).trans rfl),((HB.out.cell (World.block_lt_of_cell? w _ hp0)).trans hp0),((HB.out.cell (World.block_lt_of_cell? w _ hp1)).trans hp1),((HB.out.cell (World.block_lt_of_cell? w _ hq0)).trans hq0),((HB.out.cell (World.block_lt_of_cell? w _ hq1)).trans hq1)⟩ (fun hHeld=>?_)
   clear hK K
   refine norm_ (a':=?_) ?_ ?_
   rotate_left
   ·show Act.put _ (some 43) _=_
    simp only [Act.put,List.setIfInBounds_toArray,List.set_cons_zero,List.set_cons_succ,i64_w,i32_w]
    rfl
   refine pure_ (i:=21) (N:=some 44) (v:=?_) (a':=?_) #[true,true,true,true,true,true,true,true,true,true,true,true,true,true,true,true,true,true,true,true,true,true,false] rfl rfl (by kernel_rfl) (fun _ _ _ h=>h) (Or.inl ⟨by rfl,?_⟩) ?_ ?_
   rotate_left;(intro w';go_simp;with_reducible rfl);rotate_left;(simp only [Act.put,List.setIfInBounds_toArray,List.set_cons_zero,List.set_cons_succ,i64_w,i32_w];rfl)
   refine last_ (i:=22) (N:=none) #[true,true,true,true,true,true,true,true,true,true,true,true,true,true,true,true,true,true,true,true,true,true,true] rfl rfl (by kernel_rfl) (by decide) (fun K hK=>?_)
   refine R_storeW_step k45 (w0:=w) w.heap.size (by rfl) rfl 45 (.tmp 44) (.tmp 43) rfl 45 (g:=g) (n:=lb.length) (cap:=cg) i (zs ++ List.replicate (T.length - i) (⟨0,⟨#[]⟩⟩ : S45)) z (.agg #[.int .i64 z.f0,.string z.f1]) [.int .i64 z.f0,.string z.f1] (fun _=>True) (fun _=>False) ?sa rfl rfl (by kernel_rfl) ?so rfl HO.out HIB.out (k45_mkM _ _ _ z) (fun _ hk=>hk.elim) HB.out ?_
   (case sa=>first|rfl|(show Value.pointer (some ((⟨g,0,none⟩ : Addr).add (i * 2)))=_;rw [add0];rfl))
   (case so=>(apply all_oneK;rfl))
   intro w9 ho hb hg
   rw [set_next zs z _ T.length i HON.out HI.out] at ho
   have n0_:=Aside0.mk (blk_grown BKgs.out hg (fun q=>by injection q with q;exact blk_ne BKgs.out (Kd.R_typed HO.out g rfl).choose_spec (by decide) q));have n1_:=Aside0.mk (HJ.out.grown hg (fun q=>by injection q with q;exact HNB.out q));clear BKgs HJ;have BKgs:=n0_;have HJ:=n1_;clear n0_ n1_;clear HB HO;have HB:=Aside0.mk hb;have HO:=Aside0.mk ho;clear hb ho hg
   refine hK.out _ _ ?_
   clear hK K
   refine done_ (by kernel_rfl) ?_
   (try clear hHeld)
   clear hp0 hp1 hq0 hq1 p2 p3 p4 p5
   try go_wp2
   go_roundg m1
   case measure=>have:=HM.out;omega
   case rel=>exact ⟨i + 1,zs ++ [z],by have:=HI.out;have:=HLN.out;rw [w64 (by omega) (by omega)];rfl,⟨by have:=HK1.out;have:=HM.out;omega⟩,⟨by rw [List.length_append];have:=HON.out;simp;omega⟩,HA',HO,BKgs,HJ,HB⟩
  ·have hlt' : decide ((i : Int) < (T.length : Int))=false:=decide_eq_false (by omega)
   obtain ⟨rest,ha,hr⟩:=HA.out
   have hlq:=HEQ.out
   rw [List.drop_of_length_le (by omega),List.drop_of_length_le (show lb.length≤i by omega)] at ha
   obtain rfl:=foldGo_end ha
   rw [List.append_nil] at hr
   have hO:=HO.out
   rw [← hr,show T.length - i=0 by omega,List.replicate_zero,List.append_nil] at hO
   have HO2:=Aside0.mk hO
   clear hO hr ha HA HO hlq
   go_wp2
   go_ret
   exact ⟨_,rfl,HO2.out,HB.out⟩
end Go.Proofs.Ytmanchjamkpklaa.P

