/- Texts of AggEnds. Merged: HAggC. -/
import Derived.Test.YtapaldcdoahfeaaQAggEndsHAggB
/- agg.Rows, by hand: what it computes, in plain Lean, and small words for its walk. -/
namespace Go.Proofs.YtapaldcdoahfeaaW.PrintLast
open Go.RowKit Go.Proofs.YtapaldcdoahfeaaW.PrintWords
theorem goesV_ {P : Program} {ops : Array Oper} {Q : Exit→Act→World→Prop} {oi : Oper} {N : Option Tmp} {a : Act} {w : World} {K : Act→World→Prop} {f : FuncId} {fn : Func} {x : Operand} {xs : Array Operand} {ts : Array TypeId} (hf : P.funcs[f]?=some fn) (hname : (fn.name == "runtime.NumGoroutine")=false) (hb : fn.body.isSome=true) (args : Array Value)
  (hw : Region.wanted oi (yielded ops a.tmps)=true) (hN : oi.dst=N) (hop : oi.op=.call { callee:=.value x,args:=xs,argTypes:=ts }) (hx : a.eval x=.func (.func f) #[] #[]) (hargs : xs.map a.eval=args)
  (h : Calls P f args w fun e w'=>∃ v,e=.returned v∧K (a.put N v) w') : if Region.wanted oi (yielded ops a.tmps)=true then Oper.wp P oi a w K Q else K (a.put N undef) w:=by
 refine call_ f args hw hN ?_ h
 have he:=enters_ hf hname hb args w
 unfold execOp
 simp [hop,resolve,Deferred.ofValue,invoke,hargs,he,hx]
theorem boxD_ {P : Program} {ops : Array Oper} {Q : Exit→Act→World→Prop} {oi : Oper} {N : Option Tmp} {a : Act} {W : World} {K : Act→World→Prop} {cs : Array Value} {t : TypeId}
  (hw : Region.wanted oi (yielded ops a.tmps)=true) (hN : oi.dst=N) (hrun : (execOp a.eval oi).run P W=.ok (.value (.pointer (some ⟨W.heap.size,0,none⟩))) (W.alloc (.cells cs t (0,0))))
  (h : ∀ g,g=W.heap.size→∀ w1,w1.heap[g]?=some (.cells cs t (0,0))→Below W.heap.size W w1→K (a.put N (.pointer (some ⟨g,0,none⟩))) w1) : if Region.wanted oi (yielded ops a.tmps)=true then Oper.wp P oi a W K Q else K (a.put N undef) W :=
 value_ hw hN hrun (h _ rfl _ (blk_new W _) (below_alloc (Below.refl _ _) _))
theorem storeD_ {P : Program} {ops : Array Oper} {Q : Exit→Act→World→Prop} {oi : Oper} {a : Act} {W : World} {K : Act→World→Prop} {t : TypeId} {p x : Operand} {g : Nat} {vs cs : Array Value}
  (hw : Region.wanted oi (yielded ops a.tmps)=true) (hN : oi.dst=none) (ho : oi.op=.store t p x) (haddr : a.eval p=.pointer (some ⟨g,0,none⟩)) (hx : a.eval x=.agg vs) (hh : W.heap[g]?=some (.cells cs t (0,0))) (ht : (P.info? t).map (·.size)=some vs.size) (hsz : vs.size=cs.size) (h1 : ∀ q ∈ vs.toList,q.oneCell'=true)
  (h : ∀ w1 : World,w1.heap[g]?=some (.cells vs t (0,0))→(∀ k,k≠g→w1.heap[k]?=W.heap[k]?)→w1.heap.size=W.heap.size→(∀ (base : Nat) (w0 : World),base≤g→Below base w0 W→Below base w0 w1)→K a w1) :
  if Region.wanted oi (yielded ops a.tmps)=true then Oper.wp P oi a W K Q else K (a.put none undef) W:=by
 have hrun : (Instr.storeAt t (.pointer (some ⟨g,0,none⟩)) (.agg vs)).run P W=.ok () (W.setCells g 0 vs.toList):=run_store_run t (.agg vs) vs.toList hh rfl ht (by rw [Array.length_toList];omega) h1
 obtain ⟨cur',h3,h4,h5⟩:=setCells_row vs.toList 0 W cs hh (by rw [Array.length_toList];omega)
 have e : cur'=vs:=by
  apply Array.toList_inj.mp
  rw [h5,List.take_zero,List.nil_append,List.drop_of_length_le (by have hh4:=h4;rw [← hsz] at hh4;simp only [Array.length_toList];omega),List.append_nil]
 rw [e] at h3
 obtain ⟨s1,s2,s3,s4⟩:=setCells_same g vs.toList 0 W
 have hfar:=fun k (hk : k≠g)=>setCells_far (g:=g) vs.toList 0 (w:=W) k hk
 refine skip_ hw hN ?_ (h _ h3 hfar s4 (fun base w0 hb hB=>hB.trans ⟨s1,s2,s3,by omega,fun k hk=>hfar k (by omega)⟩))
 unfold execOp
 simp only [ho,haddr,hx,Sem.run_bind,Sem.run_pure,Result.andThen_ok,hrun]
end Go.Proofs.YtapaldcdoahfeaaW.PrintLast
namespace Go.Proofs.Ytapaldcdoahfeaa.P
open Go.RowKit Go.Proofs.YtapaldcdoahfeaaW.PrintWords Go.Proofs.YtapaldcdoahfeaaW.PrintLast Go.Proofs.YtapaldcdoahfeaaW.PrintMore
set_option linter.unusedVariables false
set_option linter.unusedSimpArgs false
def aggOf (kd : Int) (v : S40) : S40:=if kd=1 then ⟨1,⟨#[]⟩⟩ else v
def aggJ (k : Nat) (kd t : Int) (a b : S40) : Option (Int × ByteArray) :=
 if kd≤2 then agg_plus.f t a.f0 a.f1 b.f0 b.f1 else if kd=3 then agg_least.f k t a.f0 a.f1 b.f0 b.f1 else agg_most.f k t a.f0 a.f1 b.f0 b.f1
def aggBoth (k : Nat) (kd t : Int) (c : S42) (v : S40) : Option S42 :=
 if c.f0=true then (aggJ k kd t c.f1 v).bind fun p=>some ⟨true,⟨p.1,p.2⟩⟩ else some ⟨true,v⟩
def aggFold (k : Nat) (kd t col : Int) : S42→List (List S40)→Option S42
 | c,[]=>some c
 | c,r :: rs=>if col < (r.length : Int) then (aggBoth k kd t c (aggOf kd (rd_T40 r col))).bind fun c=>aggFold k kd t col c rs else none
def aggFirst (kd : Int) : S42:=⟨decide (kd≤2),⟨0,⟨#[]⟩⟩⟩
def aggOne (k : Nat) (T : List Int) (x : S33) (rows : List (List S40)) : Option S42 :=
 if 1≤x.f0∧x.f0≤4∧0≤x.f1∧x.f1 < (T.length : Int) then aggFold k x.f0 (rd T x.f1) x.f1 (aggFirst x.f0) rows else none
def aggAll (k : Nat) (T : List Int) (rows : List (List S40)) : List S33→Option (List S42)
 | []=>some []
 | x :: l=>(aggOne k T x rows).bind fun c=>(aggAll k T rows l).bind fun cs=>some (c :: cs)
def agg_Rows.f (k : Nat) (T : List Int) (a b d : Int) (l : List S33) (rows : List (List S40)) : Option (List S42) :=
 if l.length≤1000000∧rows.length≤1000000000 then aggAll k T rows l else none
theorem aggJ_mono (kd t : Int) (a b : S40) (k : Nat) : LeO (aggJ k kd t a b) (aggJ (k + 1) kd t a b):=by
 unfold aggJ
 split
 ·exact LeO.refl _
 ·split
  ·exact agg_least.mono _ _ _ _ _ _
  ·exact agg_most.mono _ _ _ _ _ _
theorem aggBoth_mono (kd t : Int) (c : S42) (v : S40) (k : Nat) : LeO (aggBoth k kd t c v) (aggBoth (k + 1) kd t c v):=by
 unfold aggBoth
 split
 ·exact LeO.bind (aggJ_mono _ _ _ _ _) (fun _=>LeO.refl _)
 ·exact LeO.refl _
theorem aggFold_mono (kd t col : Int) (k : Nat) : ∀ (rs : List (List S40)) (c : S42),LeO (aggFold k kd t col c rs) (aggFold (k + 1) kd t col c rs)
 | [],c=>LeO.refl _
 | r :: rs,c=>by
  unfold aggFold
  split
  ·exact LeO.bind (aggBoth_mono _ _ _ _ _) (fun c=>aggFold_mono kd t col k rs c)
  ·exact LeO.refl _
theorem aggOne_mono (T : List Int) (x : S33) (rows : List (List S40)) (k : Nat) : LeO (aggOne k T x rows) (aggOne (k + 1) T x rows):=by
 unfold aggOne
 split
 ·exact aggFold_mono _ _ _ _ _ _
 ·exact LeO.refl _
theorem aggAll_mono (T : List Int) (rows : List (List S40)) (k : Nat) : ∀ l : List S33,LeO (aggAll k T rows l) (aggAll (k + 1) T rows l)
 | []=>LeO.refl _
 | x :: l=>by
  unfold aggAll
  exact LeO.bind (aggOne_mono _ _ _ _) (fun _=>LeO.bind (aggAll_mono T rows k l) (fun _=>LeO.refl _))
theorem agg_Rows.mono (T : List Int) (a b d : Int) (l : List S33) (rows : List (List S40)) (k : Nat) : LeO (agg_Rows.f k T a b d l rows) (agg_Rows.f (k + 1) T a b d l rows):=by
 unfold agg_Rows.f
 split
 ·exact aggAll_mono _ _ _ _
 ·exact LeO.refl _
theorem aggAll_step {k : Nat} {T : List Int} {rows : List (List S40)} {l : List S33} {i : Nat} (hi : i < l.length) {rest : List S42} (h : aggAll k T rows (l.drop i)=some rest) :
  ∃ c rest',aggOne k T (rd_T33 l (i : Int)) rows=some c∧aggAll k T rows (l.drop (i + 1))=some rest'∧rest=c :: rest':=by
 rw [List.drop_eq_getElem_cons hi] at h
 unfold aggAll at h
 obtain ⟨c,h1,h⟩:=Option.bind_eq_some_iff.mp h
 obtain ⟨cs,h2,h⟩:=Option.bind_eq_some_iff.mp h
 refine ⟨c,cs,?_,h2,(Option.some.inj h).symm⟩
 rw [← h1]
 simp [rd_T33,List.getD,hi]
theorem aggFold_step {k : Nat} {kd t col : Int} {c : S42} {rows : List (List S40)} {i : Nat} (hi : i < rows.length) {cr : S42} (h : aggFold k kd t col c (rows.drop i)=some cr) :
  col < ((rd_L7 rows (i : Int)).length : Int)∧∃ c',aggBoth k kd t c (aggOf kd (rd_T40 (rd_L7 rows (i : Int)) col))=some c'∧aggFold k kd t col c' (rows.drop (i + 1))=some cr:=by
 rw [List.drop_eq_getElem_cons hi] at h
 unfold aggFold at h
 have e : rd_L7 rows (i : Int)=rows[i]:=by simp [rd_L7,List.getD,hi]
 rw [e]
 by_cases hc : col < ((rows[i]).length : Int)
 ·rw [if_pos hc] at h
  obtain ⟨c',h1,h⟩:=Option.bind_eq_some_iff.mp h
  exact ⟨hc,c',h1,h⟩
 ·rw [if_neg hc] at h
  exact absurd h (by simp)
structure WayOk (k : Nat) (kd : Int) (b0 : Bool) (fo fj : Nat) : Prop where
 of : ∀ (n : Int) (s : ByteArray) (W : World),Calls Try.prog fo #[.agg #[.int .i64 n,.string s]] W fun e w'=>e=.returned (.agg #[.int .i64 (aggOf kd ⟨n,s⟩).f0,.string (aggOf kd ⟨n,s⟩).f1])∧Below W.heap.size W w'
 fn : ∃ f,Try.prog.funcs[fo]?=some f∧(f.name == "runtime.NumGoroutine")=false∧f.body.isSome=true
 both : ∀ (t : Int) (c : S42) (n : Int) (s : ByteArray) (r : S42) (W : World),aggBoth k kd t c ⟨n,s⟩=some r→Calls Try.prog 22 #[.agg #[.bool b0,.int .i64 0,.string (⟨#[]⟩ : ByteArray),.func (.func fo) #[] #[],.func (.func fj) #[] #[]],.int .i64 t,.agg #[.bool c.f0,.int .i64 c.f1.f0,.string c.f1.f1],.agg #[.bool true,.int .i64 n,.string s]] W fun e w'=>e=.returned (.agg #[.bool r.f0,.int .i64 r.f1.f0,.string r.f1.f1])∧Below W.heap.size W w'
theorem both_of {k : Nat} {kd t : Int} {c : S42} {n : Int} {s : ByteArray} {r : S42} {W : World} {vw : Value}
  (h0 : ∀ (a1 : Int) (a2 : ByteArray),Calls Try.prog 22 #[vw,.int .i64 t,.agg #[.bool false,.int .i64 a1,.string a2],.agg #[.bool true,.int .i64 n,.string s]] W fun e w'=>e=.returned (.agg #[.bool true,.int .i64 n,.string s])∧Below W.heap.size W w')
  (h2 : ∀ (a1 : Int) (a2 : ByteArray) (j1 : Int) (j2 : ByteArray),aggJ k kd t ⟨a1,a2⟩ ⟨n,s⟩=some (j1,j2)→Calls Try.prog 22 #[vw,.int .i64 t,.agg #[.bool true,.int .i64 a1,.string a2],.agg #[.bool true,.int .i64 n,.string s]] W fun e w'=>e=.returned (.agg #[.bool true,.int .i64 j1,.string j2])∧Below W.heap.size W w')
  (h : aggBoth k kd t c ⟨n,s⟩=some r) : Calls Try.prog 22 #[vw,.int .i64 t,.agg #[.bool c.f0,.int .i64 c.f1.f0,.string c.f1.f1],.agg #[.bool true,.int .i64 n,.string s]] W fun e w'=>e=.returned (.agg #[.bool r.f0,.int .i64 r.f1.f0,.string r.f1.f1])∧Below W.heap.size W w':=by
 obtain ⟨c0,c1,c2⟩:=c
 unfold aggBoth at h
 cases c0 with
 | false =>
  rw [if_neg (by simp)] at h
  obtain rfl:=Option.some.inj h
  exact h0 _ _
 | true =>
  rw [if_pos rfl] at h
  obtain ⟨⟨j1,j2⟩,hj,h⟩:=Option.bind_eq_some_iff.mp h
  obtain rfl:=Option.some.inj h
  exact h2 _ _ _ _ hj
theorem ways_index (k : Nat) (kd : Int) (h1 : 1≤kd) (h4 : kd≤4) : ∃ b0 fo fj,b0=decide (kd≤2)∧WayOk k kd b0 fo fj∧∀ W : World,(Instr.index 60 (.agg waysA) (.int .i64 kd)).run Try.prog W=.ok (.agg #[.bool b0,.int .i64 0,.string (⟨#[]⟩ : ByteArray),.func (.func fo) #[] #[],.func (.func fj) #[] #[]]) W:=by
 have hk : kd=1 ∨ kd=2 ∨ kd=3 ∨ kd=4:=by omega
 rcases hk with rfl|rfl|rfl|rfl
 ·refine ⟨true,25,26,rfl,⟨fun n s W=>agg_single.calls n s _ _ W rfl,⟨_,Try.func25,by kernel_rfl,rfl⟩,fun t c n s r W h=>both_of (k:=k) (kd:=1) (fun a1 a2=>both26_0 _ _ _ _ _ _ _ _ _ _ _) (fun a1 a2 j1 j2 hj=>both26_2 _ _ _ _ _ _ _ _ _ _ _ _ (fun W=>agg_plus.calls _ _ _ _ _ _ _ W (by simpa [aggJ] using hj))) h⟩,?_⟩
  intro W
  rfl
 ·refine ⟨true,27,26,rfl,⟨fun n s W=>agg_as.calls n s _ _ W rfl,⟨_,Try.func27,by kernel_rfl,rfl⟩,fun t c n s r W h=>both_of (k:=k) (kd:=2) (fun a1 a2=>both26_0 _ _ _ _ _ _ _ _ _ _ _) (fun a1 a2 j1 j2 hj=>both26_2 _ _ _ _ _ _ _ _ _ _ _ _ (fun W=>agg_plus.calls _ _ _ _ _ _ _ W (by simpa [aggJ] using hj))) h⟩,?_⟩
  intro W
  rfl
 ·refine ⟨false,27,28,rfl,⟨fun n s W=>agg_as.calls n s _ _ W rfl,⟨_,Try.func27,by kernel_rfl,rfl⟩,fun t c n s r W h=>both_of (k:=k) (kd:=3) (fun a1 a2=>both28_0 _ _ _ _ _ _ _ _ _ _ _) (fun a1 a2 j1 j2 hj=>both28_2 _ _ _ _ _ _ _ _ _ _ _ _ (fun W=>agg_least.calls k _ _ _ _ _ _ _ W (by simpa [aggJ] using hj))) h⟩,?_⟩
  intro W
  rfl
 ·refine ⟨false,27,29,rfl,⟨fun n s W=>agg_as.calls n s _ _ W rfl,⟨_,Try.func27,by kernel_rfl,rfl⟩,fun t c n s r W h=>both_of (k:=k) (kd:=4) (fun a1 a2=>both29_0 _ _ _ _ _ _ _ _ _ _ _) (fun a1 a2 j1 j2 hj=>both29_2 _ _ _ _ _ _ _ _ _ _ _ _ (fun W=>agg_most.calls k _ _ _ _ _ _ _ W (by simpa [aggJ] using hj))) h⟩,?_⟩
  intro W
  rfl
end Go.Proofs.Ytapaldcdoahfeaa.P

