/- Texts of MergeFirst. Merged: HCmp, HFoldA, XBase, XStable, XFit, XHeap, XMade, XOne, XOrd, XStabB, XFitOk, XFits, XRVal, XShape, XRCmp, XRowOk, XSort, XOrdN, XSixty. -/
import Derived.Test.YtfiandejapgkoaaQMergeFirstPx0
import Derived.Lib.Strings
import Derived.Lib.Walk
import Derived.Lib.Bytealg
import Derived.Test.YtfiandejapgkoaaQMergeFirstHBase
import Derived.MapKept
import Derived.WideKeyRuns
import Derived.KernelRfl
import Derived.Test.YtfiandejapgkoaaQMergeFirstPx9
import Derived.Test.YtfiandejapgkoaaQMergeFirstPx5
import Derived.Test.YtfiandejapgkoaaQMergeFirstPx10
import Derived.Test.YtfiandejapgkoaaQMergeFirstPx6
import Derived.Test.YtfiandejapgkoaaQMergeFirstO
import Derived.Test.YtfiandejapgkoaaQMergeFirstPx7
import Derived.Test.YtfiandejapgkoaaQMergeFirstPx8
/- strings.Compare, by hand: the order of two texts by their bytes. -/
namespace Go.Proofs.Ytfiandejapgkoaa.P
open Go.RowKit Go.Proofs.YtfiandejapgkoaaW.PrintWords Go.Proofs.YtfiandejapgkoaaW.PrintLast Go.Proofs.YtfiandejapgkoaaW.PrintMore
set_option linter.unusedVariables false
set_option linter.unusedSimpArgs false
def strings_Compare.f (a0 a1 : ByteArray) : Option Int:=some (Lib.compareBytes a0.data.toList a1.data.toList)
set_option maxHeartbeats 1000000 in
set_option maxRecDepth 100000 in
theorem compareString_any (a b : ByteArray) (w : World) :
  Calls Try.prog 48 #[.string a,.string b] w fun e w'=>e=.returned (.int .i64 (Lib.compareBytes a.data.toList b.data.toList))∧w=w':=by
 go_enter Try.func48,Try.ntmps48
 go_wp2
 rw [run_callFunc_extern Try.func51 (by kernel_rfl) (by kernel_rfl) (by kernel_rfl) (e:=Extern.BytealgCompare.compare) (by kernel_rfl),Lib.run_compareString]
 simp only [Result.andThen]
 rw [Oper.upon_value]
 go_wp2
 go_ret
 exact ⟨rfl,rfl⟩
set_option maxHeartbeats 1000000 in
set_option maxRecDepth 100000 in
theorem strings_Compare.calls (a0 : ByteArray) (a1 : ByteArray) (r : Int) (w : World) (h : strings_Compare.f a0 a1=some r) :
  Calls Try.prog 42 #[.string a0,.string a1] w fun e w'=>e=.returned (.int .i64 r)∧Drawn0 w w':=by
 obtain rfl:=Option.some.inj h
 go_enter Try.func42,Try.ntmps42
 go_wp2_with (go_at_call 48;refine (compareString_any _ _ _).mono ?_;rintro e w' ⟨rfl,rfl⟩)
 go_ret
 exact ⟨rfl,Drawn0.refl _⟩
end Go.Proofs.Ytfiandejapgkoaa.P

/- fold.joins, by hand: a map whose keys are structs; its six entries are laid in any order. -/
namespace Go.Proofs.YtfiandejapgkoaaW.PrintLast
open Go.RowKit Go.Proofs.YtfiandejapgkoaaW.PrintWords
theorem insD_ {P : Program} {ops : Array Oper} {Q : Exit→Act→World→Prop} {oi : Oper} {a : Act} {W w1 : World} {K : Act→World→Prop} {t : TypeId} {m k x : Operand} {B : Nat} {key v : Value}
  (hg : oi.guard=none) (hN : oi.dst=none) (ho : oi.op=.insert t m k x) (hm : a.eval m=.map (some B)) (hk : a.eval k=key) (hx : a.eval x=v)
  (hrun : (Instr.mapUpdate t (.map (some B)) key v).run P W=.ok () w1) (h : K a w1) :
  if Region.wanted oi (yielded ops a.tmps)=true then Oper.wp P oi a W K Q else K (a.put oi.dst undef) W:=by
 have hw : Region.wanted oi (yielded ops a.tmps)=true:=by unfold Region.wanted;rw [hg]
 rw [hN]
 refine skip_ hw hN ?_ h
 unfold execOp
 simp only [ho,hm,hk,hx,Sem.run_bind,Sem.run_pure,Result.andThen_ok,hrun]
end Go.Proofs.YtfiandejapgkoaaW.PrintLast
namespace Go.Proofs.Ytfiandejapgkoaa.P
open Go.RowKit Go.Proofs.YtfiandejapgkoaaW.PrintWords Go.Proofs.YtfiandejapgkoaaW.PrintLast
set_option linter.unusedVariables false
set_option linter.unusedSimpArgs false
def jkey : Nat→Value
 | 0=>.agg #[.int .i64 1,.bool true]
 | 1=>.agg #[.int .i64 1,.bool false]
 | 2=>.agg #[.int .i64 2,.bool true]
 | 3=>.agg #[.int .i64 2,.bool false]
 | 4=>.agg #[.int .i64 3,.bool true]
 | _=>.agg #[.int .i64 3,.bool false]
def jval (i : Nat) : Value:=if i=5 then .func (.func 46) #[] #[] else .func (.func 45) #[] #[]
def jkv (i : Nat) : Value × Value:=(jkey i,jval i)
theorem six {p : Nat→Prop} (h0 : p 0) (h1 : p 1) (h2 : p 2) (h3 : p 3) (h4 : p 4) (h5 : p 5) : ∀ i,i < 6→p i:=by
 intro i hi
 have : i=0 ∨ i=1 ∨ i=2 ∨ i=3 ∨ i=4 ∨ i=5:=by omega
 rcases this with rfl|rfl|rfl|rfl|rfl|rfl <;> assumption
theorem jcheck (e : Bool) (w : World) : ∀ i,i < 6→(Instr.checkKey e 10000 77 (jkey i)).run Try.prog w=.ok () w:=six rfl rfl rfl rfl rfl rfl
theorem jeq (w : World) : ∀ i,i < 6→∀ j,j < 6→(Op.equal 77 (jkey i) (jkey j)).run Try.prog w=.ok (i == j) w:=by
 refine six ?_ ?_ ?_ ?_ ?_ ?_ <;> (refine six ?_ ?_ ?_ ?_ ?_ ?_ <;> kernel_rfl)
theorem jfind (w : World) : ∀ (es : List MapEntry) (is : List Nat) (n j : Nat),es.map (fun e=>(e.key,e.val))=is.map jkv→(∀ i ∈ is,i < 6)→j < 6 →
  (j ∉ is→(Instr.findAsking 77 (jkey j) es n).run Try.prog w=.ok none w)∧(j ∈ is→∃ p,(Instr.findAsking 77 (jkey j) es n).run Try.prog w=.ok (some (p,jval j)) w)
 | [],is,n,j,he,hi,hj=>by
  obtain rfl : is=[]:=by cases is with|nil=>rfl|cons x xs=>simp at he
  exact ⟨fun _=>by simp only [Instr.findAsking,Sem.run_pure],fun h=>absurd h (by simp)⟩
 | e :: es,is,n,j,he,hi,hj=>by
  cases is with
  | nil=>simp at he
  | cons x xs =>
   simp only [List.map_cons,List.cons.injEq] at he
   obtain ⟨h1,h2⟩:=he
   have hk : e.key=jkey x:=congrArg Prod.fst h1
   have hv : e.val=jval x:=congrArg Prod.snd h1
   obtain ⟨a1,a2⟩:=jfind w es xs (n + 1) j h2 (fun i h=>hi i (List.mem_cons_of_mem _ h)) hj
   have heq:=jeq w j hj x (hi x List.mem_cons_self)
   by_cases c : j=x
   ·subst c
    refine ⟨fun h=>absurd List.mem_cons_self h,fun _=>⟨n,?_⟩⟩
    simp only [Instr.findAsking,Sem.run_bind,hk,heq,Result.andThen_ok,beq_self_eq_true,if_true,Sem.run_pure,hv]
   ·have hb : (j == x)=false:=by simpa using c
    have e1 : (Instr.findAsking 77 (jkey j) (e :: es) n).run Try.prog w=(Instr.findAsking 77 (jkey j) es (n + 1)).run Try.prog w:=by
     simp only [Instr.findAsking,Sem.run_bind,hk,heq,Result.andThen_ok,hb,Bool.false_eq_true,if_false]
    rw [e1]
    refine ⟨fun h=>a1 (fun q=>h (List.mem_cons_of_mem _ q)),fun h=>a2 ?_⟩
    rcases List.mem_cons.mp h with q|q
    ·exact absurd q c
    ·exact q
def JMap (W : World) (B : Nat) (D : Nat→Bool) : Prop:=∃ (es : Array MapEntry) (clock : Nat) (is : List Nat),W.heap[B]?=some (.map es clock)∧es.toList.map (fun e=>(e.key,e.val))=is.map jkv∧(∀ i ∈ is,i < 6)∧∀ i,i < 6→(i ∈ is ↔ D i=true)
theorem JMap.same {W W' : World} {B : Nat} {D : Nat→Bool} (h : JMap W B D) (he : W'.heap[B]?=W.heap[B]?) : JMap W' B D:=by
 obtain ⟨es,c,is,h1,h2⟩:=h
 exact ⟨es,c,is,he.trans h1,h2⟩
theorem JMap.lt {W : World} {B : Nat} {D : Nat→Bool} (h : JMap W B D) : B < W.heap.size:=by
 obtain ⟨es,c,is,h1,h2⟩:=h
 exact (Array.getElem?_eq_some_iff.1 h1).1
theorem JMap.below {W W' : World} {B : Nat} {D : Nat→Bool} (h : JMap W B D) (hb : Below W.heap.size W W') : JMap W' B D:=h.same (hb.block B h.lt)
theorem JMap.new (W : World) : JMap (W.alloc (.map #[] 0)) W.heap.size (fun _=>false):=⟨#[],0,[],blk_new W _,rfl,by simp,by simp⟩
theorem jfindKey (w : World) (es : List MapEntry) (k : Value) : (Instr.findKey 77 k es).run Try.prog w=(Instr.findAsking 77 k es).run Try.prog w :=
 run_findKey_eq w (by rw [Try.underlying77]) k es
def upd (D : Nat→Bool) (j : Nat) : Nat→Bool:=fun i=>i == j || D i
theorem JMap.insert {W : World} {B : Nat} {D : Nat→Bool} (h : JMap W B D) {j : Nat} (hj : j < 6) (hD : D j=false) :
  ∃ w1,(Instr.mapUpdate 73 (.map (some B)) (jkey j) (jval j)).run Try.prog W=.ok () w1∧JMap w1 B (upd D j)∧∀ (base : Nat) (w0 : World),base≤B→Below base w0 W→Below base w0 w1:=by
 obtain ⟨es,clock,is,h1,h2,h3,h4⟩:=h
 have hni : j ∉ is:=fun q=>by rw [(h4 j hj).mp q] at hD;exact absurd hD (by simp)
 have hf:=(jfind W es.toList is 0 j h2 h3 hj).1 hni
 rw [← jfindKey] at hf
 obtain ⟨s1,s2⟩:=MapKept.heap_set (o':=.map (es.push ⟨jkey j,jval j,clock⟩) (clock + 1)) h1
 refine ⟨{ W with heap:=W.heap.setIfInBounds B (.map (es.push ⟨jkey j,jval j,clock⟩) (clock + 1)) },?_,⟨_,_,is ++ [j],s1,?_,?_,?_⟩,?_⟩
 ·unfold Instr.mapUpdate
  simp only [Sem.run_bind,run_underlying Try.underlying73,Result.andThen_ok,MapKept.run_getObj_map h1,jcheck false W j hj,hf,MapKept.run_setObj_map _ h1]
 ·simp only [Array.toList_push,List.map_append,h2,List.map_cons,List.map_nil]
  rfl
 ·intro i hi
  rcases List.mem_append.mp hi with q|q
  ·exact h3 i q
  ·rw [List.mem_singleton.mp q];exact hj
 ·intro i hi
  rw [List.mem_append,List.mem_singleton,h4 i hi]
  unfold upd
  by_cases c : i=j
  ·subst c;simp
  ·have : (i == j)=false:=by simpa using c
   rw [this,Bool.false_or]
   exact ⟨fun q=>q.resolve_right c,Or.inl⟩
 ·intro base w0 hb hB
  refine hB.trans ⟨rfl,rfl,rfl,by simp,fun k hk=>s2 k (by omega)⟩
theorem JMap.look {W : World} {B : Nat} {D : Nat→Bool} (h : JMap W B D) {j : Nat} (hj : j < 6) (hD : D j=true) :
  (Instr.lookup 73 (.map (some B)) (jkey j) false).run Try.prog W=.ok (jval j) W:=by
 obtain ⟨es,clock,is,h1,h2,h3,h4⟩:=h
 obtain ⟨p,hf⟩:=(jfind W es.toList is 0 j h2 h3 hj).2 ((h4 j hj).mpr hD)
 rw [← jfindKey] at hf
 unfold Instr.lookup
 simp only [Sem.run_bind,run_underlying Try.underlying73,Result.andThen_ok,MapKept.run_getObj_map h1,jcheck _ W j hj,hf,Sem.run_pure,Bool.false_eq_true,if_false]
noncomputable def jops : Array Oper:=opsOf Try.f37 2
def jlit (D : Nat→Bool) : Array Bool:=#[true,true,true,D 0,true,true,D 1,true,true,D 2,true,true,D 3,true,true,D 4,true,D 5,false,false]
def jix : Nat→Nat
 | 0=>3
 | 1=>6
 | 2=>9
 | 3=>12
 | 4=>15
 | _=>17
def jk_ : Nat→Operand
 | 0=>.tmp 3
 | 1=>.tmp 5
 | 2=>.tmp 7
 | 3=>.tmp 9
 | 4=>.tmp 11
 | _=>.tmp 13
def jv_ : Nat→Operand
 | 0=>.tmp 4
 | 1=>.tmp 6
 | 2=>.tmp 8
 | 3=>.tmp 10
 | 4=>.tmp 12
 | _=>.func 46
def jon : Nat→List Nat
 | 0=>[0,1,2]
 | 1=>[0,4,5]
 | 2=>[0,7,8]
 | 3=>[0,10,11]
 | 4=>[0,13,14]
 | _=>[0,16]
theorem jop : ∀ j,j < 6→(jops[jix j]?).map (fun o=>(o.dst,o.op,o.guard))=some (none,Op.insert 73 (.tmp 2) (jk_ j) (jv_ j),none):=six (by kernel_rfl) (by kernel_rfl) (by kernel_rfl) (by kernel_rfl) (by kernel_rfl) (by kernel_rfl)
theorem jafter : ∀ j,j < 6→(jops[jix j]?).map (fun o=>o.after.toList.map (·.on))=some (jon j):=six (by kernel_rfl) (by kernel_rfl) (by kernel_rfl) (by kernel_rfl) (by kernel_rfl) (by kernel_rfl)
theorem jlast : ∀ i,i=18 ∨ i=19→(jops[i]?).map (fun o=>([3,6,9,12,15,17].all fun j=>o.after.toList.any fun e=>e.on == j && Region.binds .any e))=some true:=by
 rintro i (rfl|rfl) <;> kernel_rfl
theorem jsize : jops.size=20:=by kernel_rfl
theorem jset (D : Nat→Bool) : ∀ j,j < 6→(jlit D).setIfInBounds (jix j) true=jlit (upd D j):=six rfl rfl rfl rfl rfl rfl
theorem jget (D : Nat→Bool) : ∀ j,j < 6→(jlit D).getD (jix j) true=D j∧(jlit D).getD (jix j) false=D j:=six ⟨rfl,rfl⟩ ⟨rfl,rfl⟩ ⟨rfl,rfl⟩ ⟨rfl,rfl⟩ ⟨rfl,rfl⟩ ⟨rfl,rfl⟩
theorem jpre (D : Nat→Bool) : ∀ j,j < 6→∀ i ∈ jon j,(jlit D).getD i false=true:=by
 refine six ?_ ?_ ?_ ?_ ?_ ?_ <;> (intro i hi;simp only [jon,List.mem_cons,List.not_mem_nil,or_false] at hi;rcases hi with rfl|rfl|rfl <;> rfl) <;> done
def jcnt (D : Nat→Bool) : Nat:=(if D 0 then 0 else 1) + (if D 1 then 0 else 1) + (if D 2 then 0 else 1) + (if D 3 then 0 else 1) + (if D 4 then 0 else 1) + (if D 5 then 0 else 1)
theorem jcnt_upd (D : Nat→Bool) : ∀ j,j < 6→D j=false→jcnt (upd D j) + 1=jcnt D:=by
 refine six ?_ ?_ ?_ ?_ ?_ ?_ <;>
  (intro h;simp only [jcnt,upd,h,Nat.reduceBEq,Bool.false_or,Bool.true_or,if_true,Bool.false_eq_true,if_false] <;> omega)
theorem jcnt_pos (D : Nat→Bool) (h : jcnt D≠0) : ∃ j,j < 6∧D j=false:=by
 apply Classical.byContradiction
 intro hn
 have e : ∀ j,j < 6→D j=true:=fun j hj=>by
  cases hd : D j with
  | true=>rfl
  | false=>exact absurd ⟨j,hj,hd⟩ hn
 apply h
 unfold jcnt
 rw [e 0 (by omega),e 1 (by omega),e 2 (by omega),e 3 (by omega),e 4 (by omega),e 5 (by omega)]
 rfl
theorem jcnt_zero (D : Nat→Bool) (h : jcnt D=0) : ∀ j,j < 6→D j=true:=fun j hj=>by
 cases hd : D j with
 | true=>rfl
 | false=>have:=jcnt_upd D j hj hd;omega
theorem jready (D : Nat→Bool) (h : jcnt D≠0) {i : Nat} (hi : i ∈ Region.ready .any jops (jlit D)) : ∃ j,j < 6∧i=jix j∧D j=false:=by
 obtain ⟨h1,o,ho,h2⟩:=mem_ready.1 hi
 have hlt : i < 20:=by rw [← jsize];exact (Array.getElem?_eq_some_iff.1 ho).1
 obtain ⟨j0,hj0,hd0⟩:=jcnt_pos D h
 have last : i=18 ∨ i=19→False:=fun hc=>by
  have hl:=jlast i hc
  rw [ho] at hl
  simp only [Option.map_some,Option.some.injEq,List.all_eq_true] at hl
  have hm : jix j0 ∈ [3,6,9,12,15,17]:=by
   revert hj0
   exact fun hj0=>(six (p:=fun j=>jix j ∈ [3,6,9,12,15,17]) (by decide) (by decide) (by decide) (by decide) (by decide) (by decide)) j0 hj0
  obtain ⟨e,he,hb⟩:=List.any_eq_true.mp (hl _ hm)
  simp only [Bool.and_eq_true,beq_iff_eq] at hb
  have:=h2 e (Array.mem_toList_iff.mp he) hb.2
  rw [hb.1,(jget D j0 hj0).2,hd0] at this
  exact absurd this (by simp)
 have : i=0 ∨ i=1 ∨ i=2 ∨ i=3 ∨ i=4 ∨ i=5 ∨ i=6 ∨ i=7 ∨ i=8 ∨ i=9 ∨ i=10 ∨ i=11 ∨ i=12 ∨ i=13 ∨ i=14 ∨ i=15 ∨ i=16 ∨ i=17 ∨ i=18 ∨ i=19:=by omega
 rcases this with rfl|rfl|rfl|rfl|rfl|rfl|rfl|rfl|rfl|rfl|rfl|rfl|rfl|rfl|rfl|rfl|rfl|rfl|rfl|rfl
 ·exact absurd h1 (by simp [jlit])
 ·exact absurd h1 (by simp [jlit])
 ·exact absurd h1 (by simp [jlit])
 ·exact ⟨0,by omega,rfl,h1⟩
 ·exact absurd h1 (by simp [jlit])
 ·exact absurd h1 (by simp [jlit])
 ·exact ⟨1,by omega,rfl,h1⟩
 ·exact absurd h1 (by simp [jlit])
 ·exact absurd h1 (by simp [jlit])
 ·exact ⟨2,by omega,rfl,h1⟩
 ·exact absurd h1 (by simp [jlit])
 ·exact absurd h1 (by simp [jlit])
 ·exact ⟨3,by omega,rfl,h1⟩
 ·exact absurd h1 (by simp [jlit])
 ·exact absurd h1 (by simp [jlit])
 ·exact ⟨4,by omega,rfl,h1⟩
 ·exact absurd h1 (by simp [jlit])
 ·exact ⟨5,by omega,rfl,h1⟩
 ·exact (last (Or.inl rfl)).elim
 ·exact (last (Or.inr rfl)).elim
theorem jready' (D : Nat→Bool) {j : Nat} (hj : j < 6) (hd : D j=false) : jix j ∈ Region.ready .any jops (jlit D):=by
 have ho:=jop j hj
 cases h : jops[jix j]? with
 | none=>rw [h] at ho;simp at ho
 | some o =>
  refine mem_ready.2 ⟨by rw [(jget D j hj).1,hd],o,h,fun e he _=>?_⟩
  have ha:=jafter j hj
  rw [h] at ha
  simp only [Option.map_some,Option.some.injEq] at ha
  refine jpre D j hj e.on ?_
  rw [← ha]
  exact List.mem_map.mpr ⟨e,Array.mem_toList_iff.mpr he,rfl⟩
theorem jins {ops : Array Oper} (hops : ops=jops) {Q : Exit→Act→World→Prop} {a : Act} {B base : Nat} {w0 : World} (hB : base≤B) (h2 : a.eval (.tmp 2)=.map (some B)) (hk : ∀ j,j < 6→a.eval (jk_ j)=jkey j) (hv : ∀ j,j < 6→a.eval (jv_ j)=jval j)
  (hq : ∀ w',JMap w' B (fun _=>true)→Below base w0 w'→wpAnyLast Try.prog .any ops Q (fun _=>True) [] 2 (jlit fun _=>true) a w') :
  ∀ (n : Nat) (D : Nat→Bool) (w : World),jcnt D=n→JMap w B D→Below base w0 w→wpAnyLast Try.prog .any ops Q (fun _=>True) [] (n + 2) (jlit D) a w
 | 0,D,w,hc,hm,hb=>by
  have hd:=jcnt_zero D hc
  have e : jlit D=jlit fun _=>true:=by unfold jlit;rw [hd 0 (by omega),hd 1 (by omega),hd 2 (by omega),hd 3 (by omega),hd 4 (by omega),hd 5 (by omega)]
  rw [e]
  refine hq w ?_ hb
  obtain ⟨es,c,is,q1,q2,q3,q4⟩:=hm
  exact ⟨es,c,is,q1,q2,q3,fun i hi=>by rw [q4 i hi,hd i hi]⟩
 | n + 1,D,w,hc,hm,hb=>by
  have ih0:=jins hops hB h2 hk hv hq n
  subst hops
  obtain ⟨j0,hj0,hd0⟩:=jcnt_pos D (by omega)
  refine ⟨fun h=>?_,fun i hi=>?_⟩
  ·have:=jready' D hj0 hd0
   rw [h] at this
   exact absurd this (by simp)
  ·obtain ⟨j,hj,rfl,hd⟩:=jready D (by omega) hi
   have ho:=jop j hj
   cases h : jops[jix j]? with
   | none=>rw [h] at ho;simp at ho
   | some o =>
    rw [h] at ho
    simp only [Option.map_some,Option.some.injEq,Prod.mk.injEq] at ho
    obtain ⟨o1,o2,o3⟩:=ho
    obtain ⟨w1,r1,r2,r3⟩:=hm.insert hj hd
    have hcu:=jcnt_upd D j hj hd
    have ih:=ih0 (upd D j) w1 (by omega) r2 (r3 base w0 hB hb)
    rw [← jset D j hj] at ih
    exact AllReadyL.cons (rs:=[]) h (by simp) (fun K' hK=>insD_ o3 o1 o2 h2 (hk j hj) (hv j hj) r1 (hK.out _ _ trivial (fun _=>ih))) AllReadyL.nil _ List.mem_cons_self
set_option maxHeartbeats 8000000 in
set_option maxRecDepth 100000 in
theorem joins_any (w : World) : Calls Try.prog 37 #[] w fun e w'=>∃ B,e=.returned (.map (some B))∧JMap w' B (fun _=>true)∧Below w.heap.size w w':=by
 go_enter Try.func37,Try.ntmps37
 go_wp2
 refine start_ (n:=20) (S:=fun _=>True) (ds:=[]) #[false,false,false,false,false,false,false,false,false,false,false,false,false,false,false,false,false,false,false,false] (by kernel_rfl) rfl rfl trivial (fun hHeld=>?_)
 refine pure_ (i:=1) (N:=some 3) (v:=?_) (a':=?_) #[false,true,false,false,false,false,false,false,false,false,false,false,false,false,false,false,false,false,false,false] rfl rfl (by kernel_rfl) (fun _ _ _ h=>h) (Or.inl ⟨by rfl,?_⟩) ?_ ?_
 rotate_left;(intro w';go_simp;with_reducible rfl);rotate_left;(simp only [Act.put,List.setIfInBounds_toArray,List.set_cons_zero,List.set_cons_succ,i64_w,i32_w];rfl)
 refine pure_ (i:=4) (N:=some 5) (v:=?_) (a':=?_) #[false,true,false,false,true,false,false,false,false,false,false,false,false,false,false,false,false,false,false,false] rfl rfl (by kernel_rfl) (fun _ _ _ h=>h) (Or.inl ⟨by rfl,?_⟩) ?_ ?_
 rotate_left;(intro w';go_simp;with_reducible rfl);rotate_left;(simp only [Act.put,List.setIfInBounds_toArray,List.set_cons_zero,List.set_cons_succ,i64_w,i32_w];rfl)
 refine pure_ (i:=7) (N:=some 7) (v:=?_) (a':=?_) #[false,true,false,false,true,false,false,true,false,false,false,false,false,false,false,false,false,false,false,false] rfl rfl (by kernel_rfl) (fun _ _ _ h=>h) (Or.inl ⟨by rfl,?_⟩) ?_ ?_
 rotate_left;(intro w';go_simp;with_reducible rfl);rotate_left;(simp only [Act.put,List.setIfInBounds_toArray,List.set_cons_zero,List.set_cons_succ,i64_w,i32_w];rfl)
 refine pure_ (i:=10) (N:=some 9) (v:=?_) (a':=?_) #[false,true,false,false,true,false,false,true,false,false,true,false,false,false,false,false,false,false,false,false] rfl rfl (by kernel_rfl) (fun _ _ _ h=>h) (Or.inl ⟨by rfl,?_⟩) ?_ ?_
 rotate_left;(intro w';go_simp;with_reducible rfl);rotate_left;(simp only [Act.put,List.setIfInBounds_toArray,List.set_cons_zero,List.set_cons_succ,i64_w,i32_w];rfl)
 refine pure_ (i:=13) (N:=some 11) (v:=?_) (a':=?_) #[false,true,false,false,true,false,false,true,false,false,true,false,false,true,false,false,false,false,false,false] rfl rfl (by kernel_rfl) (fun _ _ _ h=>h) (Or.inl ⟨by rfl,?_⟩) ?_ ?_
 rotate_left;(intro w';go_simp;with_reducible rfl);rotate_left;(simp only [Act.put,List.setIfInBounds_toArray,List.set_cons_zero,List.set_cons_succ,i64_w,i32_w];rfl)
 refine pure_ (i:=16) (N:=some 13) (v:=?_) (a':=?_) #[false,true,false,false,true,false,false,true,false,false,true,false,false,true,false,false,true,false,false,false] rfl rfl (by kernel_rfl) (fun _ _ _ h=>h) (Or.inl ⟨by rfl,?_⟩) ?_ ?_
 rotate_left;(intro w';go_simp;with_reducible rfl);rotate_left;(simp only [Act.put,List.setIfInBounds_toArray,List.set_cons_zero,List.set_cons_succ,i64_w,i32_w];rfl)
 refine pure_ (i:=2) (N:=some 4) (v:=?_) (a':=?_) #[false,true,true,false,true,false,false,true,false,false,true,false,false,true,false,false,true,false,false,false] rfl rfl (by kernel_rfl) (fun _ _ _ h=>h) (Or.inl ⟨by rfl,?_⟩) ?_ ?_
 rotate_left;(intro w';go_simp;with_reducible rfl);rotate_left;(simp only [Act.put,List.setIfInBounds_toArray,List.set_cons_zero,List.set_cons_succ,i64_w,i32_w];rfl)
 refine pure_ (i:=5) (N:=some 6) (v:=?_) (a':=?_) #[false,true,true,false,true,true,false,true,false,false,true,false,false,true,false,false,true,false,false,false] rfl rfl (by kernel_rfl) (fun _ _ _ h=>h) (Or.inl ⟨by rfl,?_⟩) ?_ ?_
 rotate_left;(intro w';go_simp;with_reducible rfl);rotate_left;(simp only [Act.put,List.setIfInBounds_toArray,List.set_cons_zero,List.set_cons_succ,i64_w,i32_w];rfl)
 refine pure_ (i:=8) (N:=some 8) (v:=?_) (a':=?_) #[false,true,true,false,true,true,false,true,true,false,true,false,false,true,false,false,true,false,false,false] rfl rfl (by kernel_rfl) (fun _ _ _ h=>h) (Or.inl ⟨by rfl,?_⟩) ?_ ?_
 rotate_left;(intro w';go_simp;with_reducible rfl);rotate_left;(simp only [Act.put,List.setIfInBounds_toArray,List.set_cons_zero,List.set_cons_succ,i64_w,i32_w];rfl)
 refine pure_ (i:=11) (N:=some 10) (v:=?_) (a':=?_) #[false,true,true,false,true,true,false,true,true,false,true,true,false,true,false,false,true,false,false,false] rfl rfl (by kernel_rfl) (fun _ _ _ h=>h) (Or.inl ⟨by rfl,?_⟩) ?_ ?_
 rotate_left;(intro w';go_simp;with_reducible rfl);rotate_left;(simp only [Act.put,List.setIfInBounds_toArray,List.set_cons_zero,List.set_cons_succ,i64_w,i32_w];rfl)
 refine pure_ (i:=14) (N:=some 12) (v:=?_) (a':=?_) #[false,true,true,false,true,true,false,true,true,false,true,true,false,true,true,false,true,false,false,false] rfl rfl (by kernel_rfl) (fun _ _ _ h=>h) (Or.inl ⟨by rfl,?_⟩) ?_ ?_
 rotate_left;(intro w';go_simp;with_reducible rfl);rotate_left;(simp only [Act.put,List.setIfInBounds_toArray,List.set_cons_zero,List.set_cons_succ,i64_w,i32_w];rfl)
 refine one_ (i:=0) (N:=some 2) #[true,true,true,false,true,true,false,true,true,false,true,true,false,true,true,false,true,false,false,false] rfl rfl (by kernel_rfl) (by decide) (fun K hK=>?_)
 refine value_ (w1:=w.drew.alloc (.map #[] 0)) (v:=.map (some w.drew.heap.size)) (by rfl) rfl ?_ ?_
 ·first|rfl|(go_simp;rfl)
 refine hK.out _ _ trivial (fun hHeld=>?_)
 clear hK K
 refine norm_ (a':=?_) ?_ ?_
 rotate_left
 ·show Act.put _ (some 2) _=_
  simp only [Act.put,List.setIfInBounds_toArray,List.set_cons_zero,List.set_cons_succ,i64_w,i32_w]
  rfl
 refine jins (by kernel_rfl) (B:=w.heap.size) (base:=w.heap.size) (w0:=w) (Nat.le_refl _) rfl (six rfl rfl rfl rfl rfl rfl) (six rfl rfl rfl rfl rfl rfl) ?_ 6 (fun _=>false) _ rfl (JMap.new _) (below_alloc (below_drew1 (Below.refl _ _)) _)
 intro w' hm hb
 have HM:=Aside0.mk hm
 have HB:=Aside0.mk hb
 clear hm hb
 refine pure_ (i:=18) (N:=some 14) (v:=?_) (a':=?_) #[true,true,true,true,true,true,true,true,true,true,true,true,true,true,true,true,true,true,true,false] rfl rfl (by kernel_rfl) (fun _ _ _ h=>h) (Or.inl ⟨by rfl,?_⟩) ?_ ?_
 rotate_left;(intro w';go_simp;with_reducible rfl);rotate_left;(simp only [Act.put,List.setIfInBounds_toArray,List.set_cons_zero,List.set_cons_succ,i64_w,i32_w];rfl)
 refine pure_ (i:=19) (N:=some 0) (v:=?_) (a':=?_) #[true,true,true,true,true,true,true,true,true,true,true,true,true,true,true,true,true,true,true,true] rfl rfl (by kernel_rfl) (fun _ _ _ h=>h) (Or.inl ⟨by rfl,?_⟩) ?_ ?_
 rotate_left;(intro w';go_simp;with_reducible rfl);rotate_left;(simp only [Act.put,List.setIfInBounds_toArray,List.set_cons_zero,List.set_cons_succ,i64_w,i32_w];rfl)
 refine done_ (by kernel_rfl) ?_
 go_wp2
 go_ret
 exact ⟨_,rfl,HM.out,HB.out⟩
end Go.Proofs.Ytfiandejapgkoaa.P

/- Words of the laws about rows. -/
namespace Go.Proofs.Ytfiandejapgkoaa.P
open Go.RowKit Go.Proofs.YtfiandejapgkoaaW.PrintWords Go.Proofs.YtfiandejapgkoaaW.PrintLast Go.Proofs.YtfiandejapgkoaaW.PrintMore
set_option linter.unusedVariables false
set_option linter.unusedSimpArgs false
abbrev XV:=S31
abbrev rdV (l : List XV) (i : Int) : XV:=rd_T31 l i
abbrev rdR (l : List (List XV)) (i : Int) : List XV:=rd_L3 l i
theorem rd_lt (l : List Int) (i : Nat) (h : i < l.length) : rd l i=l[i]:=by unfold rd;simp [List.getD,h]
theorem rdV_lt (l : List XV) (i : Nat) (h : i < l.length) : rd_T31 l i=l[i]:=by unfold rd_T31;simp [List.getD,h]
theorem rdV_ge (l : List XV) (i : Nat) (h : l.length≤i) : rd_T31 l i=⟨0,⟨#[]⟩⟩:=by unfold rd_T31;simp [List.getD,h];rfl
theorem rdR_lt (l : List (List XV)) (i : Nat) (h : i < l.length) : rd_L3 l i=l[i]:=by unfold rd_L3;simp [List.getD,h]
structure Sch (T : List Int) (K M G : Int) : Prop where
 n1 : 1≤T.length
 n8 : T.length≤8
 ty : ∀ t ∈ T,1≤t∧t≤3
 k1 : 1≤K
 kn : K≤T.length
 m1 : 1≤M
 m3 : M≤3
 g1 : 1≤G
 g8 : G≤8
theorem Sch.rdt {T : List Int} {K M G : Int} (h : Sch T K M G) (i : Nat) (hi : i < T.length) : 1≤rd T i∧rd T i≤3:=by
 rw [rd_lt T i hi];exact h.ty _ (List.getElem_mem hi)
def fitT (t : Int) (v : XV) : Bool:=if t=1 ∨ t=2 then v.f1.toList == ([] : List UInt8) else if t=3 then (if v.f0=0 then decide ((v.f1.size : Int)≤60) else false) else false
def rowOkB (T : List Int) (r : List XV) : Bool:=decide (T.length=r.length) && (List.range T.length).all fun (i : Nat)=>fitT (rd T i) (rdV r i)
def fit1 (t : Int) (v : XV) : XV:=if t=3 then ⟨0,if (v.f1.size : Int) > 60 then v.f1.extract 0 60 else v.f1⟩ else ⟨v.f0,⟨#[]⟩⟩
def fitRow (T : List Int) (r : List XV) : List XV:=(List.range' 0 T.length).map fun (i : Nat)=>fit1 (rd T i) (rdV r i)
theorem fitRow_length (T : List Int) (r : List XV) : (fitRow T r).length=T.length:=by simp [fitRow]
theorem rdV_fitRow (T : List Int) (r : List XV) (i : Nat) (hi : i < T.length) : rdV (fitRow T r) i=fit1 (rd T i) (rdV r i):=by
 show rd_T31 _ _=_
 rw [rdV_lt _ i (by rw [fitRow_length];exact hi)]
 simp [fitRow]
theorem fitT_fit1 (t : Int) (v : XV) (h1 : 1≤t) (h3 : t≤3) : fitT t (fit1 t v)=true:=by
 unfold fitT fit1
 by_cases e : t=3
 ·subst e
  simp only [if_true,if_pos rfl]
  rw [if_neg (by omega)]
  rw [decide_eq_true_iff]
  split
  ·simp only [ByteArray.size_extract];omega
  ·omega
 ·rw [if_pos (by omega),if_neg e]
  simp [ByteArray.toList_eq]
theorem bytes_eq {a b : ByteArray} (h : a.toList=b.toList) : a=b:=by
 rw [ByteArray.toList_eq,ByteArray.toList_eq] at h
 exact ByteArray.ext (Array.toList_inj.mp h)
theorem XV.same {a b : XV} : (!(a.f0 == b.f0) || (!(a.f1.toList == b.f1.toList)))=true ↔ a≠b:=by
 constructor
 ·rintro h rfl
  simp at h
 ·intro h
  by_cases h0 : a.f0=b.f0
  ·by_cases h1 : a.f1.toList=b.f1.toList
   ·exact absurd (by cases a;cases b;simp only at h0 h1;rw [h0,bytes_eq h1]) h
   ·simp [h1]
  ·simp [h0]
instance : DecidableEq XV:=fun a b=>if h : (!(a.f0 == b.f0) || (!(a.f1.toList == b.f1.toList)))=true then isFalse (XV.same.mp h) else isTrue (Classical.byContradiction fun e=>h (XV.same.mpr e))
end Go.Proofs.Ytfiandejapgkoaa.P

/- A stable sort by blocks and by symmetric merges, in plain lists: what it does, step by step. -/
namespace Go.Proofs.Ytfiandejapgkoaa.P
set_option linter.unusedVariables false
set_option linter.unusedSectionVars false
section
variable {E : Type} (e0 : E) (lt : E→E→Bool)
def gt_ (xs : List E) (i : Nat) : E:=xs.getD i e0
theorem gt_lt {xs : List E} {i : Nat} (h : i < xs.length) : gt_ e0 xs i=xs[i]:=by simp [gt_,List.getD,h]
def swp (xs : List E) (i j : Nat) : List E:=(xs.set i (gt_ e0 xs j)).set j (gt_ e0 xs i)
theorem swp_length (xs : List E) (i j : Nat) : (swp e0 xs i j).length=xs.length:=by simp [swp]
def bsr (p : Nat→Bool) : Nat→Nat→Nat→Nat
 | 0,i,_=>i
 | m + 1,i,j=>if i < j then (if p ((i + j) / 2)=true then bsr p m i ((i + j) / 2) else bsr p m ((i + j) / 2 + 1) j) else i
def insIn (a : Nat) : Nat→List E→List E
 | 0,xs=>xs
 | j + 1,xs=>if a < j + 1∧lt (gt_ e0 xs (j + 1)) (gt_ e0 xs j)=true then insIn a j (swp e0 xs (j + 1) j) else xs
def insSort (a : Nat) : Nat→Nat→List E→List E
 | 0,_,xs=>xs
 | d + 1,i,xs=>insSort a d (i + 1) (insIn e0 lt a i xs)
def swapR (a b : Nat) : Nat→Nat→List E→List E
 | 0,_,xs=>xs
 | d + 1,i,xs=>swapR a b d (i + 1) (swp e0 xs (a + i) (b + i))
def rot (m : Nat) : Nat→Nat→Nat→List E→List E
 | 0,i,_,xs=>xs
 | f + 1,i,j,xs=>if i=j then swapR e0 (m - i) m i 0 xs else if j < i then rot m f (i - j) j (swapR e0 (m - i) m j 0 xs) else rot m f i (j - i) (swapR e0 (m - i) (m + j - i) i 0 xs)
def goUp : Nat→Nat→List E→List E
 | 0,_,xs=>xs
 | d + 1,k,xs=>goUp d (k + 1) (swp e0 xs k (k + 1))
def goDn : Nat→Nat→List E→List E
 | 0,_,xs=>xs
 | d + 1,k,xs=>goDn d (k - 1) (swp e0 xs k (k - 1))
def symM : Nat→Nat→Nat→Nat→List E→List E
 | 0,_,_,_,xs=>xs
 | f + 1,a,m,b,xs =>
  if m - a=1 then
   let i:=bsr (fun h=>!lt (gt_ e0 xs h) (gt_ e0 xs a)) (b - m) m b
   goUp e0 (i - 1 - a) a xs
  else if b - m=1 then
   let i:=bsr (fun h=>lt (gt_ e0 xs m) (gt_ e0 xs h)) (m - a) a m
   goDn e0 (m - i) m xs
  else
   let mid:=(a + b) / 2
   let n:=mid + m
   let s0:=if m > mid then n - b else a
   let r0:=if m > mid then mid else m
   let s:=bsr (fun c=>lt (gt_ e0 xs (n - 1 - c)) (gt_ e0 xs c)) (r0 - s0) s0 r0
   let e:=n - s
   let x1:=if s < m∧m < e then rot e0 m (e - s) (m - s) (e - m) xs else xs
   let x2:=if a < s∧s < mid then symM f a s mid x1 else x1
   if mid < e∧e < b then symM f mid e b x2 else x2
theorem get_at (P : List E) (x : E) (Q : List E) : gt_ e0 (P ++ x :: Q) P.length=x:=by
 rw [gt_lt e0 (by simp)]
 simp
theorem set_at (P : List E) (x y : E) (Q : List E) : (P ++ x :: Q).set P.length y=P ++ y :: Q:=by
 rw [List.set_append,if_neg (by omega),Nat.sub_self,List.set_cons_zero]
theorem swp_at (P : List E) (x : E) (M : List E) (y : E) (Q : List E) (i j : Nat) (hi : i=P.length) (hj : j=P.length + 1 + M.length) : swp e0 (P ++ x :: (M ++ y :: Q)) i j=P ++ y :: (M ++ x :: Q):=by
 subst hi
 have e1 : P ++ x :: (M ++ y :: Q)=(P ++ x :: M) ++ y :: Q:=by simp
 have l1 : (P ++ x :: M).length=j:=by rw [hj];simp;omega
 have g1 : gt_ e0 (P ++ x :: (M ++ y :: Q)) j=y:=by rw [e1,← l1];exact get_at e0 _ _ _
 have g0 : gt_ e0 (P ++ x :: (M ++ y :: Q)) P.length=x:=get_at e0 _ _ _
 unfold swp
 rw [g1,g0,set_at]
 have e2 : P ++ y :: (M ++ y :: Q)=(P ++ y :: M) ++ y :: Q:=by simp
 have l2 : (P ++ y :: M).length=j:=by rw [hj];simp;omega
 rw [e2,← l2,set_at]
 simp
theorem swp_comm (xs : List E) (i j : Nat) : swp e0 xs i j=swp e0 xs j i:=by
 unfold swp
 by_cases h : i=j
 ·subst h;rfl
 ·exact (List.set_comm _ _ h)
end
end Go.Proofs.Ytfiandejapgkoaa.P

/- A row made to fit. -/
namespace Go.Proofs.Ytfiandejapgkoaa.P
open Go.RowKit Go.Proofs.YtfiandejapgkoaaW.PrintWords Go.Proofs.YtfiandejapgkoaaW.PrintLast Go.Proofs.YtfiandejapgkoaaW.PrintMore
set_option linter.unusedVariables false
set_option linter.unusedSimpArgs false
theorem fit_turn (T : List Int) (K M G : Int) (r : List XV) (i : Nat) (acc : List XV) (v0 : Int) (v1 : ByteArray) (hi : i < T.length) (hT : T.length≤1000000) (ha : acc.length=i) {R : List XV} (h : Ev (fun k=>thresherref04_Fit.l0 k r (acc ++ [fit1 (rd T i) ⟨v0,v1⟩]) ((i + 1 : Nat) : Int) T K M G) R) : Ev (fun k=>thresherref04_Fit.j1 k r acc i T K M G v0 v1) R:=by
 refine Ev.succ ?_
 simp only [thresherref04_Fit.j1]
 simp (disch:=omega) only [w64]
 refine Ev.pos (by omega) (Ev.pos (by omega) ?_)
 unfold fit1 at h
 by_cases e : rd T i=3
 ·rw [if_pos e] at h
  refine Ev.pos e ?_
  by_cases s : (v1.size : Int) > 60
  ·simp only [if_pos s] at h
   exact Ev.pos s (Ev.pos (by omega) (Ev.pos (by omega) (Ev.pos (by omega) h)))
  ·simp only [if_neg s] at h
   exact Ev.neg s (Ev.pos (by omega) h)
 ·rw [if_neg e] at h
  exact Ev.neg e (Ev.pos (by omega) h)
theorem fit_loop (T : List Int) (K M G : Int) (r : List XV) (hT : T.length≤1000000) : ∀ (d i : Nat) (acc : List XV),i + d=T.length→acc.length=i→Ev (fun k=>thresherref04_Fit.l0 k r acc i T K M G) (acc ++ (List.range' i d).map fun (j : Nat)=>fit1 (rd T j) (rdV r j))
 | 0,i,acc,hi,ha=>by
  refine Ev.succ ?_
  simp only [thresherref04_Fit.l0]
  exact Ev.neg (by omega) ((Ev.now _).eq (by simp))
 | d + 1,i,acc,hi,ha=>by
  refine Ev.succ ?_
  simp only [thresherref04_Fit.l0]
  refine Ev.pos (by omega) ?_
  have hl : (acc ++ [fit1 (rd T i) (rdV r i)]).length=i + 1:=by simp;omega
  have h:=(fit_loop T K M G r hT d (i + 1) (acc ++ [fit1 (rd T i) (rdV r i)]) (by omega) hl).eq (r':=acc ++ (List.range' i (d + 1)).map fun (j : Nat)=>fit1 (rd T j) (rdV r j)) (by rw [List.append_assoc,List.range'_succ];rfl)
  by_cases e : i < r.length
  ·exact Ev.pos (by omega) (Ev.pos (by omega) (fit_turn T K M G r i acc _ _ (by omega) hT ha h))
  ·refine Ev.neg (by omega) (fit_turn T K M G r i acc _ _ (by omega) hT ha ?_)
   have e2 : rdV r i=⟨0,⟨#[]⟩⟩:=rdV_ge r i (by omega)
   rw [e2] at h
   exact h
theorem fit_ev (T : List Int) (K M G : Int) (r : List XV) (hT : T.length≤1000000) : Ev (fun k=>thresherref04_Fit.f k T K M G r) (fitRow T r):=by
 simp only [thresherref04_Fit.f]
 exact fit_loop T K M G r hT T.length 0 [] (by omega) rfl
end Go.Proofs.Ytfiandejapgkoaa.P

/- A heap of rows in plain lists: container/heap's down, Init, Pop and Fix(0), and what they keep. -/
namespace Go.Proofs.Ytfiandejapgkoaa.P
set_option linter.unusedVariables false
set_option linter.unusedSectionVars false
section
variable {E : Type} (e0 : E) (lt : E→E→Bool) (n : Nat)
def pick (i : Nat) (p : List E) : Nat:=if 2 * i + 2 < n∧lt (gt_ e0 p (2 * i + 2)) (gt_ e0 p (2 * i + 1))=true then 2 * i + 2 else 2 * i + 1
def dn : Nat→Nat→List E→List E × Nat
 | 0,i,p=>(p,i)
 | f + 1,i,p=>if 2 * i + 1 < n then (if lt (gt_ e0 p (pick e0 lt n i p)) (gt_ e0 p i)=true then dn f (pick e0 lt n i p) (swp e0 p i (pick e0 lt n i p)) else (p,i)) else (p,i)
def initH : Nat→List E→List E
 | 0,p=>p
 | i + 1,p=>initH i (dn e0 lt n n i p).1
theorem pick_in {i : Nat} (h : 2 * i + 1 < n) (p : List E) : (pick e0 lt n i p=2 * i + 1 ∨ pick e0 lt n i p=2 * i + 2)∧pick e0 lt n i p < n:=by
 unfold pick
 split
 ·exact ⟨.inr rfl,by omega⟩
 ·exact ⟨.inl rfl,h⟩
theorem swp_perm (p : List E) (i j : Nat) (hi : i < p.length) (hj : j < p.length) : (swp e0 p i j).Perm p:=by
 have key : ∀ i j,i < j→j < p.length→(swp e0 p i j).Perm p:=by
  intro i j hij hj
  have e1 : p=p.take i ++ p[i] :: ((p.drop (i + 1)).take (j - (i + 1)) ++ p[j] :: p.drop (j + 1)):=by
   have a1 : p=p.take i ++ p[i] :: p.drop (i + 1):=by
    rw [← List.drop_eq_getElem_cons,List.take_append_drop]
   have a2 : p.drop (i + 1)=(p.drop (i + 1)).take (j - (i + 1)) ++ p[j] :: p.drop (j + 1):=by
    have:=(List.take_append_drop (j - (i + 1)) (p.drop (i + 1))).symm
    rw [List.drop_drop,show i + 1 + (j - (i + 1))=j by omega,List.drop_eq_getElem_cons hj] at this
    exact this
   rw [← a2]
   exact a1
  have e2:=swp_at e0 (p.take i) p[i] ((p.drop (i + 1)).take (j - (i + 1))) p[j] (p.drop (j + 1)) i j (by rw [List.length_take];omega) (by rw [List.length_take,List.length_take,List.length_drop];omega)
  rw [← e1] at e2
  rw [e2]
  refine List.Perm.trans ?_ (List.Perm.of_eq e1.symm)
  refine List.Perm.append_left _ ?_
  refine (List.Perm.cons _ List.perm_middle).trans ?_
  refine (List.Perm.swap _ _ _).trans ?_
  exact List.Perm.cons _ List.perm_middle.symm
 rcases Nat.lt_trichotomy i j with h|h|h
 ·exact key i j h hj
 ·subst h
  unfold swp
  rw [gt_lt e0 hi,List.set_set,List.set_getElem_self]
 ·rw [swp_comm]
  exact key j i h hi
theorem gt_swp (p : List E) (i j k : Nat) (hi : i < p.length) (hj : j < p.length) : gt_ e0 (swp e0 p i j) k=if k=j then gt_ e0 p i else if k=i then gt_ e0 p j else gt_ e0 p k:=by
 unfold swp gt_
 simp only [List.getD_eq_getElem?_getD,List.getElem?_set,List.length_set]
 by_cases h1 : j=k
 ·subst h1
  simp [hj]
 ·by_cases h2 : i=k
  ·subst h2
   simp [h1,Ne.symm h1,hi]
  ·simp [h1,h2,Ne.symm h1,Ne.symm h2]
theorem dn_perm : ∀ (f i : Nat) (p : List E),n≤p.length→(dn e0 lt n f i p).1.Perm p
 | 0,i,p,h=>List.Perm.refl _
 | f + 1,i,p,h=>by
  unfold dn
  split
  case isTrue h1 =>
   split
   ·have h2:=pick_in e0 lt n h1 p
    refine (dn_perm f _ _ (by rw [swp_length];exact h)).trans (swp_perm e0 p _ _ (by omega) (by omega))
   ·exact List.Perm.refl _
  case isFalse=>exact List.Perm.refl _
theorem dn_length (f i : Nat) (p : List E) (h : n≤p.length) : (dn e0 lt n f i p).1.length=p.length:=(dn_perm e0 lt n f i p h).length_eq
theorem drop_swp (p : List E) (i j : Nat) (hi : i < n) (hj : j < n) : (swp e0 p i j).drop n=p.drop n:=by
 unfold swp
 rw [List.drop_set_of_lt hj,List.drop_set_of_lt hi]
theorem dn_drop : ∀ (f i : Nat) (p : List E),(dn e0 lt n f i p).1.drop n=p.drop n
 | 0,i,p=>rfl
 | f + 1,i,p=>by
  unfold dn
  split
  case isTrue h1 =>
   split
   ·have h2:=pick_in e0 lt n h1 p
    rw [dn_drop f]
    exact drop_swp e0 n p _ _ (by omega) h2.2
   ·rfl
  case isFalse=>rfl
theorem initH_perm : ∀ (m : Nat) (p : List E),n≤p.length→(initH e0 lt n m p).Perm p
 | 0,p,h=>List.Perm.refl _
 | m + 1,p,h=>by
  unfold initH
  exact (initH_perm m _ (by rw [dn_length e0 lt n _ _ _ h];exact h)).trans (dn_perm e0 lt n _ _ _ h)
def HeapFrom (lo : Nat) (p : List E) : Prop:=∀ j,0 < j→j < n→lo≤(j - 1) / 2→lt (gt_ e0 p j) (gt_ e0 p ((j - 1) / 2))=false
variable (U : E→Prop)
structure LtOk : Prop where
 asym : ∀ a b,U a→U b→lt a b=true→lt b a=false
 tr : ∀ a b c,U a→U b→U c→lt b a=false→lt c b=false→lt c a=false
theorem gt_mem {p : List E} {i : Nat} (h : i < p.length) : gt_ e0 p i ∈ p:=by rw [gt_lt e0 h];exact List.getElem_mem h
theorem dn_heap (O : LtOk lt U) : ∀ (f i lo : Nat) (p : List E),n≤p.length→(∀ x ∈ p,U x)→lo≤i→n≤f + i →
  (∀ j,0 < j→j < n→lo≤(j - 1) / 2→(j - 1) / 2≠i→lt (gt_ e0 p j) (gt_ e0 p ((j - 1) / 2))=false) →
  (0 < i→lo≤(i - 1) / 2→∀ j,0 < j→j < n→(j - 1) / 2=i→lt (gt_ e0 p j) (gt_ e0 p ((i - 1) / 2))=false)→HeapFrom e0 lt n lo (dn e0 lt n f i p).1
 | 0,i,lo,p,hn,hU,hlo,hf,ha,hb=>fun j h0 hj hl=>ha j h0 hj hl (by omega)
 | f + 1,i,lo,p,hn,hU,hlo,hf,ha,hb=>by
  have gU : ∀ k,k < n→U (gt_ e0 p k):=fun k hk=>hU _ (gt_mem e0 (by omega))
  unfold dn
  split
  case isFalse h1=>exact fun j h0 hj hl=>ha j h0 hj hl (by omega)
  case isTrue h1 =>
   obtain ⟨hc,hcn⟩:=pick_in e0 lt n h1 p
   have hp : ∀ j,0 < j→j < n→(j - 1) / 2=i→j≠pick e0 lt n i p→lt (gt_ e0 p j) (gt_ e0 p (pick e0 lt n i p))=false:=by
    intro j h0 hj hji hne
    have h2 : j=2 * i + 1 ∨ j=2 * i + 2:=by omega
    unfold pick at hne ⊢
    split
    case isTrue h3 =>
     rw [if_pos h3] at hne
     have : j=2 * i + 1:=by omega
     subst this
     exact O.asym _ _ (gU _ (by omega)) (gU _ (by omega)) h3.2
    case isFalse h3 =>
     rw [if_neg h3] at hne
     have : j=2 * i + 2:=by omega
     subst this
     cases h4 : lt (gt_ e0 p (2 * i + 2)) (gt_ e0 p (2 * i + 1)) with
     | false=>rfl
     | true=>exact absurd ⟨hj,h4⟩ h3
   generalize pick e0 lt n i p=c at hc hcn hp
   split
   case isTrue h5 =>
    refine dn_heap O f c lo _ (by rw [swp_length];exact hn) (fun x hx=>hU x ((swp_perm e0 p i c (by omega) (by omega)).mem_iff.mp hx)) (by omega) (by omega) ?_ ?_
    ·intro j h0 hj hl hne
     rw [gt_swp e0 p i c j (by omega) (by omega),gt_swp e0 p i c _ (by omega) (by omega)]
     by_cases e1 : j=c
     ·subst e1
      rw [if_pos rfl,if_neg hne,if_pos (by omega)]
      exact O.asym _ _ (gU _ hcn) (gU _ (by omega)) h5
     ·rw [if_neg e1,if_neg hne]
      by_cases e2 : j=i
      ·subst e2
       rw [if_pos rfl,if_neg (by omega)]
       exact hb h0 hl c (by omega) hcn (by omega)
      ·rw [if_neg e2]
       by_cases e3 : (j - 1) / 2=i
       ·rw [if_pos e3]
        exact hp j h0 hj e3 e1
       ·rw [if_neg e3]
        exact ha j h0 hj hl e3
    ·intro h0 hl j hj0 hj hjc
     rw [show (c - 1) / 2=i by omega,gt_swp e0 p i c j (by omega) (by omega),gt_swp e0 p i c i (by omega) (by omega),if_neg (by omega : ¬ j=c),if_neg (by omega : ¬ j=i),if_neg (by omega : ¬ i=c),if_pos rfl]
     have:=ha j hj0 hj (by omega) (by omega)
     rw [hjc] at this
     exact this
   case isFalse h5 =>
    intro j h0 hj hl
    by_cases e3 : (j - 1) / 2=i
    ·rw [e3]
     have h6 : lt (gt_ e0 p c) (gt_ e0 p i)=false:=by simpa using h5
     by_cases e1 : j=c
     ·rw [e1];exact h6
     ·exact O.tr _ _ _ (gU _ (by omega)) (gU _ hcn) (gU _ hj) h6 (hp j h0 hj e3 e1)
    ·exact ha j h0 hj hl e3
theorem initH_heap (O : LtOk lt U) : ∀ (m : Nat) (p : List E),n≤p.length→(∀ x ∈ p,U x)→HeapFrom e0 lt n m p→HeapFrom e0 lt n 0 (initH e0 lt n m p)
 | 0,p,_,_,h=>h
 | m + 1,p,hn,hU,h=>by
  unfold initH
  refine initH_heap O m _ (by rw [dn_length e0 lt n _ _ _ hn];exact hn) (fun x hx=>hU x ((dn_perm e0 lt n n m p hn).mem_iff.mp hx)) ?_
  refine dn_heap e0 lt n U O n m m p hn hU (Nat.le_refl _) (by omega) (fun j h0 hj hl hne=>h j h0 hj (by omega)) (fun h0 hl=>by omega)
theorem heap_half (p : List E) : HeapFrom e0 lt n (n / 2) p:=fun j h0 hj hl=>by omega
theorem heap_root (O : LtOk lt U) (p : List E) (hn : n≤p.length) (hU : ∀ x ∈ p,U x) (h : HeapFrom e0 lt n 0 p) : ∀ (m j : Nat),j≤m→0 < j→j < n→lt (gt_ e0 p j) (gt_ e0 p 0)=false
 | 0,j,hm,h0,hj=>by omega
 | m + 1,j,hm,h0,hj=>by
  have h1:=h j h0 hj (Nat.zero_le _)
  by_cases e : (j - 1) / 2=0
  ·rw [e] at h1;exact h1
  ·have h2:=heap_root O p hn hU h m ((j - 1) / 2) (by omega) (by omega) (by omega)
   exact O.tr _ _ _ (hU _ (gt_mem e0 (by omega))) (hU _ (gt_mem e0 (by omega))) (hU _ (gt_mem e0 (by omega))) h2 h1
end
end Go.Proofs.Ytfiandejapgkoaa.P

/- A schema made of any numbers. -/
namespace Go.Proofs.Ytfiandejapgkoaa.P
open Go.RowKit Go.Proofs.YtfiandejapgkoaaW.PrintWords Go.Proofs.YtfiandejapgkoaaW.PrintLast Go.Proofs.YtfiandejapgkoaaW.PrintMore
set_option linter.unusedVariables false
set_option linter.unusedSimpArgs false
def U8 (x : Int) : Prop:=0≤x∧x≤255
theorem made_one {x : Int} {m : Int} (h : U8 x) (hm : 0 < m) (hm2 : m≤1000) : wrap64 (1 + Int.tmod (wrap64 x) m)=1 + x % m∧1≤1 + x % m∧1 + x % m≤m:=by
 obtain ⟨h0,h1⟩:=h
 have e1 : wrap64 x=x:=w64 (by omega) (by omega)
 have h2:=Int.emod_nonneg x (show m≠0 by omega)
 have h3:=Int.emod_lt_of_pos x hm
 rw [e1,Int.tmod_eq_emod_of_nonneg h0]
 exact ⟨w64 (by omega) (by omega),by omega,by omega⟩
theorem made_loop (x0 x1 x2 x3 x4 x5 x6 x7 K M G : Int) (hx : ∀ x ∈ [x0,x1,x2,x3,x4,x5,x6,x7],U8 x) (n : Nat) (hn : n≤8) : ∀ (d i : Nat) (T : List Int),i + d=n→T.length=i→(∀ t ∈ T,1≤t∧t≤3)→∃ T',Ev (fun k=>thresherref04_Made.l0 k n i x0 x1 x2 x3 x4 x5 x6 x7 T K M G) (T',K,M,G)∧T'.length=n∧∀ t ∈ T',1≤t∧t≤3
 | 0,i,T,hi,hT,ht=>by
  refine ⟨T,Ev.succ ?_,by omega,ht⟩
  simp only [thresherref04_Made.l0]
  exact Ev.neg (by omega) (Ev.now _)
 | d + 1,i,T,hi,hT,ht=>by
  have hr : U8 (rd [x0,x1,x2,x3,x4,x5,x6,x7] i):=by
   rw [rd_lt _ i (by simp;omega)]
   exact hx _ (List.getElem_mem _)
  obtain ⟨e,l1,l2⟩:=made_one (m:=3) hr (by omega) (by omega)
  obtain ⟨T',h1,h2,h3⟩:=made_loop x0 x1 x2 x3 x4 x5 x6 x7 K M G hx n hn d (i + 1) (T ++ [1 + rd [x0,x1,x2,x3,x4,x5,x6,x7] i % 3]) (by omega) (by simp;omega) (by
   intro t h
   rcases List.mem_append.mp h with h|h
   ·exact ht t h
   ·rw [List.mem_singleton.mp h];exact ⟨l1,l2⟩)
  refine ⟨T',Ev.succ ?_,h2,h3⟩
  simp only [thresherref04_Made.l0]
  rw [e]
  clear e
  simp (disch:=omega) only [w64]
  exact Ev.pos (by omega) (Ev.pos (by omega) (Ev.pos (by omega) (Ev.pos (by omega) h1)))
theorem made_ev (x0 x1 x2 x3 x4 x5 x6 x7 a b c d : Int) (h0 : U8 x0) (h1 : U8 x1) (h2 : U8 x2) (h3 : U8 x3) (h4 : U8 x4) (h5 : U8 x5) (h6 : U8 x6) (h7 : U8 x7) (ha : U8 a) (hb : U8 b) (hc : U8 c) (hd : U8 d) : ∃ T K M G,Ev (fun k=>thresherref04_Made.f k x0 x1 x2 x3 x4 x5 x6 x7 a b c d) (T,K,M,G)∧Sch T K M G:=by
 obtain ⟨ea,a1,a2⟩:=made_one (m:=8) ha (by omega) (by omega)
 obtain ⟨n,hn⟩ : ∃ n : Nat,1 + a % 8=n:=⟨(1 + a % 8).toNat,by omega⟩
 obtain ⟨eb,b1,b2⟩:=made_one (m:=1 + a % 8) hb (by omega) (by omega)
 obtain ⟨ec,c1,c2⟩:=made_one (m:=3) hc (by omega) (by omega)
 obtain ⟨ed,d1,d2⟩:=made_one (m:=8) hd (by omega) (by omega)
 simp only [thresherref04_Made.f,ea,eb,ec,ed]
 clear ea eb ec ed
 rw [hn] at b1 b2 a1 a2 ⊢
 obtain ⟨T,e,l,t⟩:=made_loop x0 x1 x2 x3 x4 x5 x6 x7 (1 + b % n) (1 + c % 3) (1 + d % 8) (by
  intro x hx
  simp only [List.mem_cons,List.not_mem_nil,or_false] at hx
  rcases hx with rfl|rfl|rfl|rfl|rfl|rfl|rfl|rfl <;> assumption) n (by omega) n 0 [] (by omega) rfl (by simp)
 exact ⟨T,_,_,_,Ev.neg (by omega) e,⟨by omega,by omega,t,b1,by omega,c1,c2,d1,d2⟩⟩
end Go.Proofs.Ytfiandejapgkoaa.P

/- Are two rows the same, and two lists of rows? -/
namespace Go.Proofs.Ytfiandejapgkoaa.P
open Go.RowKit Go.Proofs.YtfiandejapgkoaaW.PrintWords Go.Proofs.YtfiandejapgkoaaW.PrintLast Go.Proofs.YtfiandejapgkoaaW.PrintMore
set_option linter.unusedVariables false
set_option linter.unusedSimpArgs false
theorem one_loop (a b : List XV) (hl : a.length=b.length) (hb : a.length≤1000000000) : ∀ (d i : Nat),i + d=a.length→Ev (fun k=>thresherref04_One.l0 k a b i) (decide (a.drop i=b.drop i))
 | 0,i,hi=>by
  refine Ev.succ ?_
  simp only [thresherref04_One.l0]
  refine Ev.neg (by omega) ((Ev.now _).eq ?_)
  rw [List.drop_of_length_le (by omega),List.drop_of_length_le (by omega)]
  simp
 | d + 1,i,hi=>by
  have h1 : i < a.length:=by omega
  have h2 : i < b.length:=by omega
  refine Ev.succ ?_
  simp only [thresherref04_One.l0]
  simp (disch:=omega) only [w64]
  rw [rdV_lt a i h1,rdV_lt b i h2]
  rw [List.drop_eq_getElem_cons h1,List.drop_eq_getElem_cons h2]
  refine Ev.pos (by omega) (Ev.pos (by omega) (Ev.pos (by omega) ?_))
  by_cases e : a[i]=b[i]
  ·refine Ev.neg (fun h=>XV.same.mp h e) ((one_loop a b hl hb d (i + 1) (by omega)).eq ?_)
   rw [e]
   exact decide_eq_decide.mpr ⟨fun h=>by rw [h],fun h=>(List.cons.inj h).2⟩
  ·refine Ev.pos (XV.same.mpr e) ((Ev.now _).eq ?_)
   symm
   rw [decide_eq_false_iff_not]
   intro h
   exact e (List.cons.inj h).1
theorem one_ev (a b : List XV) (hb : a.length≤1000000000) : Ev (fun k=>thresherref04_One.f k a b) (decide (a=b)):=by
 simp only [thresherref04_One.f]
 by_cases hl : a.length=b.length
 ·refine Ev.pos (by omega) ?_
  have:=one_loop a b hl hb a.length 0 (by omega)
  simpa using this
 ·refine Ev.neg (by omega) ((Ev.now _).eq ?_)
  symm
  rw [decide_eq_false_iff_not]
  rintro rfl
  exact hl rfl
theorem rows_loop (a b : List (List XV)) (hl : a.length=b.length) (hb : a.length≤1000000000) (hr : ∀ r ∈ a,r.length≤1000000000) : ∀ (d i : Nat),i + d=a.length→Ev (fun k=>thresherref04_Rows.l0 k a b i) (decide (a.drop i=b.drop i))
 | 0,i,hi=>by
  refine Ev.succ ?_
  simp only [thresherref04_Rows.l0]
  refine Ev.neg (by omega) ((Ev.now _).eq ?_)
  rw [List.drop_of_length_le (by omega),List.drop_of_length_le (by omega)]
  simp
 | d + 1,i,hi=>by
  have h1 : i < a.length:=by omega
  have h2 : i < b.length:=by omega
  refine Ev.succ ?_
  simp only [thresherref04_Rows.l0]
  simp (disch:=omega) only [w64]
  rw [rdR_lt a i h1,rdR_lt b i h2]
  rw [List.drop_eq_getElem_cons h1,List.drop_eq_getElem_cons h2]
  refine Ev.pos (by omega) (Ev.pos (by omega) (Ev.pos (by omega) (Ev.bind (one_ev _ _ (hr _ (List.getElem_mem h1))) ?_)))
  by_cases e : a[i]=b[i]
  ·refine Ev.pos (decide_eq_true e) ((rows_loop a b hl hb hr d (i + 1) (by omega)).eq ?_)
   rw [e]
   exact decide_eq_decide.mpr ⟨fun h=>by rw [h],fun h=>(List.cons.inj h).2⟩
  ·refine Ev.neg (by simpa using e) ((Ev.now _).eq ?_)
   symm
   rw [decide_eq_false_iff_not]
   intro h
   exact e (List.cons.inj h).1
theorem rows_ev (a b : List (List XV)) (hb : a.length≤1000000000) (hr : ∀ r ∈ a,r.length≤1000000000) : Ev (fun k=>thresherref04_Rows.f k a b) (decide (a=b)):=by
 simp only [thresherref04_Rows.f]
 by_cases hl : a.length=b.length
 ·refine Ev.pos (by omega) ?_
  have:=rows_loop a b hl hb hr a.length 0 (by omega)
  simpa using this
 ·refine Ev.neg (by omega) ((Ev.now _).eq ?_)
  symm
  rw [decide_eq_false_iff_not]
  rintro rfl
  exact hl rfl
end Go.Proofs.Ytfiandejapgkoaa.P

/- The order of values and of rows. -/
namespace Go.Proofs.Ytfiandejapgkoaa.P
open Go.RowKit Go.Proofs.YtfiandejapgkoaaW.PrintWords Go.Proofs.YtfiandejapgkoaaW.PrintLast Go.Proofs.YtfiandejapgkoaaW.PrintMore
set_option linter.unusedVariables false
set_option linter.unusedSimpArgs false
theorem u8_tri (a b : UInt8) : (a < b∧¬ b < a) ∨ (b < a∧¬ a < b) ∨ (a=b∧¬ a < b∧¬ b < a):=by
 rcases Nat.lt_trichotomy a.toNat b.toNat with h|h|h
 ·exact Or.inl ⟨UInt8.lt_iff_toNat_lt.mpr h,fun h2=>by have:=UInt8.lt_iff_toNat_lt.mp h2;omega⟩
 ·have e : a=b:=UInt8.toNat_inj.mp h
  subst e
  exact Or.inr (Or.inr ⟨rfl,fun h2=>by have:=UInt8.lt_iff_toNat_lt.mp h2;omega,fun h2=>by have:=UInt8.lt_iff_toNat_lt.mp h2;omega⟩)
 ·exact Or.inr (Or.inl ⟨UInt8.lt_iff_toNat_lt.mpr h,fun h2=>by have:=UInt8.lt_iff_toNat_lt.mp h2;omega⟩)
theorem cb_anti : ∀ a b : List UInt8,Lib.compareBytes b a=- Lib.compareBytes a b
 | [],[]=>by simp [Lib.compareBytes]
 | [],_ :: _=>by simp [Lib.compareBytes]
 | _ :: _,[]=>by simp [Lib.compareBytes]
 | a :: xs,b :: ys=>by
  unfold Lib.compareBytes
  rcases u8_tri a b with ⟨h1,h2⟩|⟨h1,h2⟩|⟨h0,h1,h2⟩
  ·rw [if_neg h2,if_pos h1,if_pos h1];rfl
  ·rw [if_pos h1,if_neg h2,if_pos h1]
  ·rw [if_neg h2,if_neg h1,if_neg h1,if_neg h2];exact cb_anti xs ys
theorem cb_zero : ∀ a b : List UInt8,Lib.compareBytes a b=0 ↔ a=b
 | [],[]=>by simp [Lib.compareBytes]
 | [],_ :: _=>by simp [Lib.compareBytes]
 | _ :: _,[]=>by simp [Lib.compareBytes]
 | a :: xs,b :: ys=>by
  unfold Lib.compareBytes
  rcases u8_tri a b with ⟨h1,h2⟩|⟨h1,h2⟩|⟨h0,h1,h2⟩
  ·rw [if_pos h1]
   exact ⟨fun h=>by omega,fun h=>absurd h1 (by rw [(List.cons.inj h).1] at h2 ⊢;rw [(List.cons.inj h).1] at h1;exact h2)⟩
  ·rw [if_neg h2,if_pos h1]
   exact ⟨fun h=>by omega,fun h=>absurd h1 (by rw [(List.cons.inj h).1] at h1;rw [(List.cons.inj h).1] at h2;exact absurd h1 h2)⟩
  ·rw [if_neg h1,if_neg h2,cb_zero xs ys,h0]
   exact ⟨fun h=>by rw [h],fun h=>(List.cons.inj h).2⟩
theorem cb_trans : ∀ a b c : List UInt8,Lib.compareBytes a b≤0→Lib.compareBytes b c≤0→Lib.compareBytes a c≤0
 | [],_,[],_,_=>by simp [Lib.compareBytes]
 | [],_,_ :: _,_,_=>by simp [Lib.compareBytes]
 | _ :: _,[],_,h,_=>by simp [Lib.compareBytes] at h
 | _ :: _,_ :: _,[],_,h=>by simp [Lib.compareBytes] at h
 | a :: xs,b :: ys,c :: zs,h1,h2=>by
  unfold Lib.compareBytes at h1 h2 ⊢
  rcases u8_tri a b with ⟨p1,p2⟩|⟨p1,p2⟩|⟨p0,p1,p2⟩
  ·rcases u8_tri b c with ⟨q1,q2⟩|⟨q1,q2⟩|⟨q0,q1,q2⟩
   ·rw [if_pos (UInt8.lt_trans p1 q1)];omega
   ·rw [if_neg q2,if_pos q1] at h2;omega
   ·subst q0;rw [if_pos p1];omega
  ·rw [if_neg p2,if_pos p1] at h1;omega
  ·subst p0
   rw [if_neg p1,if_neg p2] at h1
   rcases u8_tri a c with ⟨q1,q2⟩|⟨q1,q2⟩|⟨q0,q1,q2⟩
   ·rw [if_pos q1];omega
   ·rw [if_neg q2,if_pos q1] at h2;omega
   ·rw [if_neg q1,if_neg q2] at h2 ⊢
    exact cb_trans xs ys zs h1 h2
def GV (v : XV) : Prop:=-9223372036854775808≤v.f0∧v.f0≤9223372036854775807
def sgn (x y : Int) : Int:=if x < y then -1 else if x > y then 1 else 0
def un (x : Int) : Int:=x % 18446744073709551616
def cmpV (t : Int) (a b : XV) : Int:=if fitT t a=true∧fitT t b=true then (if t=3 then Lib.compareBytes a.f1.data.toList b.f1.data.toList else if t=2 then sgn (un a.f0) (un b.f0) else sgn a.f0 b.f0) else 0
theorem cmpV_anti (t : Int) (a b : XV) : cmpV t b a=- cmpV t a b:=by
 unfold cmpV
 by_cases h : fitT t a=true∧fitT t b=true
 ·rw [if_pos h,if_pos h.symm]
  split
  ·exact cb_anti _ _
  ·split <;> (unfold sgn;split <;> split <;> (try split) <;> omega)
 ·rw [if_neg h,if_neg (fun q=>h q.symm)]
  rfl
theorem fit_empty {t : Int} {a : XV} (h : fitT t a=true) (h3 : t≠3) : a.f1=⟨#[]⟩:=by
 unfold fitT at h
 split at h
 ·have h2 : a.f1.toList=[]:=by simpa using h
  exact bytes_eq (by rw [h2];simp [ByteArray.toList_eq])
 ·first|exact absurd h (by simp)|(rw [if_neg h3] at h;exact absurd h (by simp))
theorem fit_zero {t : Int} {a : XV} (h : fitT t a=true) (h3 : t=3) : a.f0=0:=by
 subst h3
 unfold fitT at h
 rw [if_neg (by omega),if_pos rfl] at h
 split at h
 ·assumption
 ·exact absurd h (by simp)
theorem XV.ext2 {a b : XV} (h0 : a.f0=b.f0) (h1 : a.f1=b.f1) : a=b:=by cases a;cases b;simp only at h0 h1;rw [h0,h1]
theorem cmpV_zero (t : Int) (a b : XV) (ha : fitT t a=true) (hb : fitT t b=true) (ga : GV a) (gb : GV b) : cmpV t a b=0 ↔ a=b:=by
 unfold cmpV
 rw [if_pos ⟨ha,hb⟩]
 obtain ⟨g1,g2⟩:=ga
 obtain ⟨g3,g4⟩:=gb
 by_cases e : t=3
 ·rw [if_pos e,cb_zero]
  exact ⟨fun h=>XV.ext2 (by rw [fit_zero ha e,fit_zero hb e]) (ByteArray.ext (Array.toList_inj.mp h)),fun h=>by rw [h]⟩
 ·rw [if_neg e]
  have key : a=b ↔ a.f0=b.f0:=⟨fun h=>by rw [h],fun h=>XV.ext2 h (by rw [fit_empty ha e,fit_empty hb e])⟩
  rw [key]
  split
  ·unfold sgn un;split <;> (try split) <;> omega
  ·unfold sgn;split <;> (try split) <;> omega
theorem sgn_trans (x y z : Int) : sgn x y≤0→sgn y z≤0→sgn x z≤0:=by
 unfold sgn
 intro h1 h2
 split
 ·omega
 ·split
  ·exfalso
   by_cases p : x < y
   ·by_cases q : y < z
    ·omega
    ·rw [if_neg q] at h2
     by_cases r : y > z
     ·rw [if_pos r] at h2;omega
     ·omega
   ·rw [if_neg p] at h1
    by_cases r : x > y
    ·rw [if_pos r] at h1;omega
    ·by_cases q : y < z
     ·omega
     ·rw [if_neg q] at h2
      by_cases r : y > z
      ·rw [if_pos r] at h2;omega
      ·omega
  ·omega
def cmpC (t : Int) (a b : XV) : Int:=if t=3 then Lib.compareBytes a.f1.data.toList b.f1.data.toList else if t=2 then sgn (un a.f0) (un b.f0) else sgn a.f0 b.f0
theorem cmpV_fit {t : Int} {a b : XV} (ha : fitT t a=true) (hb : fitT t b=true) : cmpV t a b=cmpC t a b:=by
 unfold cmpV cmpC
 rw [if_pos ⟨ha,hb⟩]
theorem cmpV_trans (t : Int) (a b c : XV) (ha : fitT t a=true) (hb : fitT t b=true) (hc : fitT t c=true) : cmpV t a b≤0→cmpV t b c≤0→cmpV t a c≤0:=by
 rw [cmpV_fit ha hb,cmpV_fit hb hc,cmpV_fit ha hc]
 unfold cmpC
 by_cases e : t=3
 ·rw [if_pos e,if_pos e,if_pos e]
  exact cb_trans _ _ _
 ·rw [if_neg e,if_neg e,if_neg e]
  by_cases e2 : t=2
  ·rw [if_pos e2,if_pos e2,if_pos e2]
   exact sgn_trans _ _ _
  ·rw [if_neg e2,if_neg e2,if_neg e2]
   exact sgn_trans _ _ _
def cmpFrom (T : List Int) (a b : List XV) : Nat→Nat→Int
 | 0,_=>0
 | m + 1,i=>if cmpV (rd T i) (rdV a i) (rdV b i)=0 then cmpFrom T a b m (i + 1) else cmpV (rd T i) (rdV a i) (rdV b i)
def cmpRow (T : List Int) (K : Int) (a b : List XV) : Int:=cmpFrom T a b (min (min (min K.toNat T.length) a.length) b.length) 0
theorem cmpFrom_anti (T : List Int) (a b : List XV) : ∀ m i,cmpFrom T b a m i=- cmpFrom T a b m i
 | 0,i=>by simp [cmpFrom]
 | m + 1,i=>by
  unfold cmpFrom
  rw [cmpV_anti _ (rdV a i) (rdV b i),cmpFrom_anti T a b m (i + 1)]
  by_cases h : cmpV (rd T i) (rdV a i) (rdV b i)=0
  ·rw [if_pos (by omega),if_pos h]
  ·rw [if_neg (by omega),if_neg h]
def FitAt (T : List Int) (a : List XV) (m i : Nat) : Prop:=∀ j : Nat,i≤j→j < i + m→fitT (rd T j) (rdV a j)=true∧GV (rdV a j)
theorem FitAt.tail {T : List Int} {a : List XV} {m i : Nat} (h : FitAt T a (m + 1) i) : FitAt T a m (i + 1):=fun j h1 h2=>h j (by omega) (by omega)
theorem cmpFrom_zero (T : List Int) (a b : List XV) : ∀ m i,FitAt T a m i→FitAt T b m i→(cmpFrom T a b m i=0 ↔ ∀ j : Nat,i≤j→j < i + m→rdV a j=rdV b j)
 | 0,i,_,_=>by
  simp only [cmpFrom,true_iff]
  intro j h1 h2
  omega
 | m + 1,i,ha,hb=>by
  obtain ⟨a1,a2⟩:=ha i (by omega) (by omega)
  obtain ⟨b1,b2⟩:=hb i (by omega) (by omega)
  have hz:=cmpV_zero _ _ _ a1 b1 a2 b2
  have ih:=cmpFrom_zero T a b m (i + 1) ha.tail hb.tail
  unfold cmpFrom
  by_cases h : cmpV (rd T i) (rdV a i) (rdV b i)=0
  ·rw [if_pos h,ih]
   constructor
   ·intro q j h1 h2
    by_cases e : j=i
    ·subst e;exact hz.mp h
    ·exact q j (by omega) (by omega)
   ·intro q j h1 h2
    exact q j (by omega) (by omega)
  ·rw [if_neg h]
   constructor
   ·intro q;exact absurd q h
   ·intro q;exact absurd (hz.mpr (q i (by omega) (by omega))) h
theorem cmpFrom_trans (T : List Int) (a b c : List XV) : ∀ m i,FitAt T a m i→FitAt T b m i→FitAt T c m i→cmpFrom T a b m i≤0→cmpFrom T b c m i≤0→cmpFrom T a c m i≤0
 | 0,i,_,_,_=>by simp [cmpFrom]
 | m + 1,i,ha,hb,hc=>by
  obtain ⟨a1,a2⟩:=ha i (by omega) (by omega)
  obtain ⟨b1,b2⟩:=hb i (by omega) (by omega)
  obtain ⟨c1,c2⟩:=hc i (by omega) (by omega)
  have ih:=cmpFrom_trans T a b c m (i + 1) ha.tail hb.tail hc.tail
  have t1:=cmpV_trans (rd T i) _ _ _ a1 b1 c1
  have t2:=cmpV_trans (rd T i) _ _ _ c1 a1 b1
  have t3:=cmpV_trans (rd T i) _ _ _ b1 c1 a1
  have z1:=cmpV_zero _ _ _ a1 b1 a2 b2
  have z2:=cmpV_zero _ _ _ b1 c1 b2 c2
  have n1:=cmpV_anti (rd T i) (rdV a i) (rdV c i)
  have n2:=cmpV_anti (rd T i) (rdV b i) (rdV c i)
  have n3:=cmpV_anti (rd T i) (rdV a i) (rdV b i)
  unfold cmpFrom
  intro h1 h2
  split at h1
  ·split at h2
   ·rename_i e1 e2
    have e3 : cmpV (rd T i) (rdV a i) (rdV c i)=0:=by rw [z1.mp e1];exact e2
    rw [if_pos e3]
    exact ih h1 h2
   ·rename_i e1 e2
    rw [z1.mp e1,if_neg e2]
    exact h2
  ·split at h2
   ·rename_i e1 e2
    rw [← z2.mp e2,if_neg e1]
    exact h1
   ·rename_i e1 e2
    have h3:=t1 h1 h2
    split
    ·rename_i e3
     exfalso
     have : cmpV (rd T i) (rdV b i) (rdV a i)≤0:=t3 h2 (by omega)
     omega
    ·exact h3
end Go.Proofs.Ytfiandejapgkoaa.P

/- A stable sort by blocks and by symmetric merges, in plain lists: it puts in order, and keeps what there was. -/
namespace Go.Proofs.Ytfiandejapgkoaa.P
set_option linter.unusedVariables false
set_option linter.unusedSectionVars false
section
variable {E : Type} (e0 : E) (lt : E→E→Bool) (R : E→E→Prop) (U : E→Prop)
structure Ordl : Prop where
 tr : ∀ x y z,U x→U y→U z→R x y→R y z→R x z
 ir : ∀ x,U x→¬ R x x
def Ahead (x y : E) : Prop:=(lt y x=true ↔ R y x)∧(¬ R y x→R x y)
variable {e0 lt R U}
theorem Ordl.as (O : Ordl R U) {x y : E} (hx : U x) (hy : U y) (h : R x y) : ¬ R y x:=fun q=>O.ir x hx (O.tr x y x hx hy hx h q)
end
end Go.Proofs.Ytfiandejapgkoaa.P

/- A row made to fit fits. -/
namespace Go.Proofs.Ytfiandejapgkoaa.P
open Go.RowKit Go.Proofs.YtfiandejapgkoaaW.PrintWords Go.Proofs.YtfiandejapgkoaaW.PrintLast Go.Proofs.YtfiandejapgkoaaW.PrintMore
set_option linter.unusedVariables false
set_option linter.unusedSimpArgs false
theorem rdV_of (P : XV→Prop) (r : List XV) (h0 : P ⟨0,⟨#[]⟩⟩) (h : ∀ v ∈ r,P v) (i : Nat) : P (rdV r i):=by
 by_cases hi : i < r.length
 ·show P (rd_T31 r i)
  rw [rdV_lt r i hi]
  exact h _ (List.getElem_mem hi)
 ·show P (rd_T31 r i)
  rw [rdV_ge r i (by omega)]
  exact h0
theorem fit1_GV (t : Int) (v : XV) (h : GV v) : GV (fit1 t v):=by
 unfold fit1
 split
 ·exact ⟨by simp,by simp⟩
 ·exact h
theorem fitRow_at {T : List Int} {K M G : Int} (hS : Sch T K M G) (r : List XV) (hr : ∀ v ∈ r,GV v) (m : Nat) (hm : m≤T.length) : FitAt T (fitRow T r) m 0:=by
 intro j _ hj
 rw [rdV_fitRow T r j (by omega)]
 obtain ⟨h1,h2⟩:=hS.rdt j (by omega)
 exact ⟨fitT_fit1 _ _ h1 h2,fit1_GV _ _ (rdV_of GV r ⟨by simp,by simp⟩ hr j)⟩
theorem cmpFrom_congr (T : List Int) (a b c : List XV) : ∀ m i,(∀ j : Nat,i≤j→j < i + m→rdV a j=rdV b j)→cmpFrom T a c m i=cmpFrom T b c m i
 | 0,i,h=>rfl
 | m + 1,i,h=>by
  unfold cmpFrom
  rw [h i (by omega) (by omega),cmpFrom_congr T a b c m (i + 1) (fun j h1 h2=>h j (by omega) (by omega))]
theorem rdV_take (r : List XV) (n j : Nat) (h : j < n) : rdV (r.take n) j=rdV r j:=by
 show rd_T31 _ _=rd_T31 _ _
 by_cases hi : j < r.length
 ·rw [rdV_lt _ j (by rw [List.length_take];omega),rdV_lt r j hi,List.getElem_take]
 ·rw [rdV_ge _ j (by rw [List.length_take];omega),rdV_ge r j (by omega)]
end Go.Proofs.Ytfiandejapgkoaa.P

/- Rows made to fit. -/
namespace Go.Proofs.Ytfiandejapgkoaa.P
open Go.RowKit Go.Proofs.YtfiandejapgkoaaW.PrintWords Go.Proofs.YtfiandejapgkoaaW.PrintLast Go.Proofs.YtfiandejapgkoaaW.PrintMore
set_option linter.unusedVariables false
set_option linter.unusedSimpArgs false
theorem fits_loop (T : List Int) (K M G : Int) (l : List (List XV)) (n : Nat) (hn : n≤1000000) (hT : T.length≤1000000) : ∀ (d i : Nat) (acc : List (List XV)),i + d=min l.length n→acc.length=i→Ev (fun k=>thresherref04_Fits.l0 k l n acc i T K M G) (acc ++ ((l.take n).drop i).map (fitRow T))
 | 0,i,acc,hi,ha=>by
  refine Ev.succ ?_
  simp only [thresherref04_Fits.l0]
  have e : (l.take n).drop i=[]:=List.drop_of_length_le (by simp;omega)
  rw [e]
  by_cases h : (i : Int) < l.length
  ·exact Ev.pos h (Ev.neg (by omega) ((Ev.now _).eq (by simp)))
  ·exact Ev.neg h ((Ev.now _).eq (by simp))
 | d + 1,i,acc,hi,ha=>by
  have h1 : i < l.length:=by omega
  have h2 : i < n:=by omega
  refine Ev.succ ?_
  simp only [thresherref04_Fits.l0]
  have e : (l.take n).drop i=l[i] :: (l.take n).drop (i + 1):=by
   rw [List.drop_eq_getElem_cons (by simp;omega)]
   simp
  rw [rdR_lt l i h1,e]
  simp (disch:=omega) only [w64]
  refine Ev.pos (by omega) (Ev.pos (by omega) (Ev.pos (by omega) (Ev.bind (fit_ev T K M G _ hT) (Ev.pos (by omega) ?_))))
  refine (fits_loop T K M G l n hn hT d (i + 1) (acc ++ [fitRow T l[i]]) (by omega) (by simp;omega)).eq ?_
  simp
theorem fits_ev (T : List Int) (K M G : Int) (l : List (List XV)) (n : Nat) (hn : n≤1000000) (hT : T.length≤1000000) : Ev (fun k=>thresherref04_Fits.f k T K M G l n) ((l.take n).map (fitRow T)):=by
 simp only [thresherref04_Fits.f]
 exact fits_loop T K M G l n hn hT (min l.length n) 0 [] (by omega) rfl
end Go.Proofs.Ytfiandejapgkoaa.P

/- The document's Compare of values tells the same order. -/
namespace Go.Proofs.Ytfiandejapgkoaa.P
open Go.RowKit Go.Proofs.YtfiandejapgkoaaW.PrintWords Go.Proofs.YtfiandejapgkoaaW.PrintLast Go.Proofs.YtfiandejapgkoaaW.PrintMore
set_option linter.unusedVariables false
set_option linter.unusedSimpArgs false
theorem rfits_f (k : Nat) (t n : Int) (s : ByteArray) : thresherref03_Fits.f (k + 1) t n s=some (fitT t ⟨n,s⟩):=by
 unfold thresherref03_Fits.f fitT
 by_cases h1 : t=1
 ·rw [if_pos h1,if_pos (Or.inl h1)]
  subst h1
  rfl
 ·rw [if_neg h1]
  by_cases h2 : t=2
  ·rw [if_pos (Or.inr h2)]
   subst h2
   rfl
  ·rw [if_neg (by omega),show (t == 2)=false by simpa using h2]
   simp only [thresherref03_Fits.j0,Bool.false_eq_true,if_false]
   by_cases h3 : t=3
   ·rw [if_pos h3,if_pos h3]
    split <;> rfl
   ·rw [if_neg h3,if_neg h3]
theorem rfits_ev (t n : Int) (s : ByteArray) : Ev (fun k=>thresherref03_Fits.f k t n s) (fitT t ⟨n,s⟩):=Ev.succ ⟨0,fun k _=>rfits_f k t n s⟩
theorem both_ev (t : Int) (a b : XV) : Ev (fun k=>thresherref03_both.f k t a.f0 a.f1 b.f0 b.f1) (fitT t a && fitT t b):=by
 simp only [thresherref03_both.f]
 refine Ev.bind (rfits_ev t a.f0 a.f1) (Ev.bind (rfits_ev t b.f0 b.f1) ?_)
 by_cases ha : fitT t a=true
 ·exact (Ev.pos ha (Ev.now _)).eq (by rw [ha,Bool.true_and])
 ·exact (Ev.neg ha (Ev.now _)).eq (by rw [Bool.eq_false_iff.mpr ha,Bool.false_and])
theorem bt_lt (s : ByteArray) (i : Nat) (h : i < s.size) : bt s i=((s.data.toList[i]'(by simpa using h)).toNat : Int):=by
 unfold bt
 rw [dif_pos (by simpa using h)]
 rfl
theorem texts_loop (a b : ByteArray) (ha : a.size≤9223372036854775807) : ∀ (d i : Nat),i + d=a.size→i≤b.size→Ev (fun k=>thresherref03_texts.l0 k a b i) (Lib.compareBytes (a.data.toList.drop i) (b.data.toList.drop i))
 | 0,i,hi,hb=>by
  have hn : a.data.toList.length=a.size:=by simp
  have hn2 : b.data.toList.length=b.size:=by simp
  refine Ev.succ ?_
  simp only [thresherref03_texts.l0]
  refine Ev.neg (by omega) (Ev.succ ?_)
  simp only [thresherref03_texts.j1]
  refine Ev.neg (by simp) ?_
  rw [List.drop_of_length_le (by omega : a.data.toList.length≤i)]
  by_cases h : i < b.size
  ·rw [List.drop_eq_getElem_cons (by omega : i < b.data.toList.length)]
   exact Ev.pos (by omega) (Ev.now _)
  ·rw [List.drop_of_length_le (by omega : b.data.toList.length≤i)]
   exact Ev.neg (by omega) (Ev.neg (by omega) (Ev.now _))
 | d + 1,i,hi,hb=>by
  have hn : a.data.toList.length=a.size:=by simp
  have hn2 : b.data.toList.length=b.size:=by simp
  have h1 : i < a.data.toList.length:=by omega
  refine Ev.succ ?_
  simp only [thresherref03_texts.l0]
  refine Ev.pos (by omega) (Ev.succ ?_)
  simp only [thresherref03_texts.j1]
  rw [List.drop_eq_getElem_cons h1]
  by_cases h : i < b.size
  ·have h2 : i < b.data.toList.length:=by omega
   rw [List.drop_eq_getElem_cons h2,bt_lt a i (by omega),bt_lt b i h]
   simp (disch:=omega) only [w64]
   unfold Lib.compareBytes
   refine Ev.pos (by simpa using h) (Ev.pos (by omega) (Ev.pos (by omega) (Ev.pos (by omega) ?_)))
   by_cases p : a.data.toList[i] < b.data.toList[i]
   ·rw [if_pos p]
    exact Ev.pos (by have:=UInt8.lt_iff_toNat_lt.mp p;omega) (Ev.now _)
   ·rw [if_neg p]
    refine Ev.neg (fun q=>p (UInt8.lt_iff_toNat_lt.mpr (by omega))) ?_
    by_cases r : b.data.toList[i] < a.data.toList[i]
    ·rw [if_pos r]
     exact Ev.pos (by have:=UInt8.lt_iff_toNat_lt.mp r;omega) (Ev.now _)
    ·rw [if_neg r]
     exact Ev.neg (fun q=>r (UInt8.lt_iff_toNat_lt.mpr (by omega))) (texts_loop a b ha d (i + 1) (by omega) (by omega))
  ·rw [List.drop_of_length_le (by omega : b.data.toList.length≤i)]
   exact Ev.neg (by simpa using h) (Ev.neg (by omega) (Ev.pos (by omega) (Ev.now _)))
theorem texts_ev (a b : ByteArray) (ha : a.size≤9223372036854775807) : Ev (fun k=>thresherref03_texts.f k a b) (Lib.compareBytes a.data.toList b.data.toList):=by
 simp only [thresherref03_texts.f]
 exact texts_loop a b ha a.size 0 (by omega) (by omega)
theorem rcmpj_ev (p q : Bool) (r : Int) (h : r=if p=true then -1 else if q=true then 1 else 0) : Ev (fun k=>thresherref03_Compare.j0 k p q) r:=by
 refine Ev.succ ⟨0,fun k _=>?_⟩
 simp only [thresherref03_Compare.j0]
 rw [h]
 cases p <;> cases q <;> rfl
theorem rcmp_ev (t : Int) (a b : XV) (ga : GV a) (gb : GV b) (hs : a.f1.size≤9223372036854775807) : Ev (fun k=>thresherref03_Compare.f k t a.f0 a.f1 b.f0 b.f1) (cmpV t a b):=by
 obtain ⟨g1,g2⟩:=ga
 obtain ⟨g3,g4⟩:=gb
 simp only [thresherref03_Compare.f]
 refine Ev.bind (both_ev t a b) ?_
 by_cases h : fitT t a=true∧fitT t b=true
 ·rw [cmpV_fit h.1 h.2]
  refine Ev.pos (by rw [h.1,h.2];rfl) ?_
  by_cases e2 : t=2
  ·have ec : cmpC t a b=sgn (un a.f0) (un b.f0):=by unfold cmpC;rw [if_neg (by omega),if_pos e2]
   rw [ec]
   refine Ev.pos e2 ?_
   by_cases hn : ((decide (a.f0 < 0)) != (decide (b.f0 < 0)))=true
   ·refine Ev.pos hn (rcmpj_ev _ _ _ ?_)
    simp only [decide_eq_true_eq]
    unfold sgn un
    by_cases p : a.f0 < 0
    ·by_cases q : b.f0 < 0
     ·simp [p,q] at hn
     ·repeat' split
      all_goals omega
    ·by_cases q : b.f0 < 0
     ·repeat' split
      all_goals omega
     ·simp [p,q] at hn
   ·refine Ev.neg hn (rcmpj_ev _ _ _ ?_)
    simp only [decide_eq_true_eq]
    unfold sgn un
    by_cases p : a.f0 < 0
    ·by_cases q : b.f0 < 0
     ·repeat' split
      all_goals omega
     ·simp [p,q] at hn
    ·by_cases q : b.f0 < 0
     ·simp [p,q] at hn
     ·repeat' split
      all_goals omega
  ·refine Ev.neg e2 ?_
   by_cases e3 : t=3
   ·exact (Ev.pos e3 (Ev.bind (texts_ev _ _ hs) (Ev.now _))).eq (by unfold cmpC;rw [if_pos e3])
   ·have ec : cmpC t a b=sgn a.f0 b.f0:=by unfold cmpC;rw [if_neg e3,if_neg e2]
    rw [ec]
    refine Ev.neg e3 (rcmpj_ev _ _ _ ?_)
    simp only [decide_eq_true_eq]
    rfl
 ·exact (Ev.neg (fun q=>h (by simpa using q)) (Ev.now _)).eq (by unfold cmpV;rw [if_neg h])
def GR (r : List XV) : Prop:=∀ v ∈ r,GV v∧v.f1.size≤9223372036854775807
theorem GR.rdV {r : List XV} (h : GR r) (i : Nat) : GV (rdV r i)∧(P.rdV r i).f1.size≤9223372036854775807:=by
 by_cases hi : i < r.length
 ·show GV (rd_T31 r i)∧(rd_T31 r i).f1.size≤_
  rw [rdV_lt r i hi]
  exact h _ (List.getElem_mem hi)
 ·show GV (rd_T31 r i)∧(rd_T31 r i).f1.size≤_
  rw [rdV_ge r i (by omega)]
  exact ⟨⟨by simp,by simp⟩,by decide⟩
end Go.Proofs.Ytfiandejapgkoaa.P

/- A schema of a shape. -/
namespace Go.Proofs.Ytfiandejapgkoaa.P
open Go.RowKit Go.Proofs.YtfiandejapgkoaaW.PrintWords Go.Proofs.YtfiandejapgkoaaW.PrintLast Go.Proofs.YtfiandejapgkoaaW.PrintMore
theorem u8_of {x : Int} (h : (Lit.int .u8 x).wf=true) : U8 x:=wf_u8 h
theorem shape_ev {x : S38} (h : gd38 x) : ∃ T K M G,Ev (fun k=>thresherref04_Made.f k x.f0.f0 x.f0.f1 x.f0.f2 x.f0.f3 x.f0.f4 x.f0.f5 x.f0.f6 x.f0.f7 x.f1 x.f2 x.f3 x.f4) (T,K,M,G)∧Sch T K M G:=by
 obtain ⟨⟨h0,h1,h2,h3,h4,h5,h6,h7⟩,ha,hb,hc,hd⟩:=h
 exact made_ev _ _ _ _ _ _ _ _ _ _ _ _ (u8_of h0) (u8_of h1) (u8_of h2) (u8_of h3) (u8_of h4) (u8_of h5) (u8_of h6) (u8_of h7) (u8_of ha) (u8_of hb) (u8_of hc) (u8_of hd)
end Go.Proofs.Ytfiandejapgkoaa.P

/- The document's Compare of rows tells the same order. -/
namespace Go.Proofs.Ytfiandejapgkoaa.P
open Go.RowKit Go.Proofs.YtfiandejapgkoaaW.PrintWords Go.Proofs.YtfiandejapgkoaaW.PrintLast Go.Proofs.YtfiandejapgkoaaW.PrintMore
set_option linter.unusedVariables false
set_option linter.unusedSimpArgs false
theorem rowcmp_loop (T : List Int) (K M G : Int) (a b : List XV) (ga : GR a) (gb : GR b) (m : Nat) (hm : min (min (min K.toNat T.length) a.length) b.length=m) (hT : T.length≤1000000000) : ∀ (d i : Nat),i + d=m→Ev (fun k=>thresherref04_Compare.l0 k a b i T K M G) (cmpFrom T a b d i)
 | 0,i,hi=>by
  have hj : Ev (fun k=>thresherref04_Compare.j1 k a b i false T K M G) 0:=by
   refine Ev.succ ?_
   simp only [thresherref04_Compare.j1]
   exact Ev.neg (by simp) (Ev.now _)
  refine Ev.succ ?_
  simp only [thresherref04_Compare.l0]
  unfold cmpFrom
  by_cases h1 : (i : Int) < K
  ·refine Ev.pos h1 ?_
   by_cases h2 : (i : Int) < (T.length : Int)
   ·refine Ev.pos h2 ?_
    by_cases h3 : (i : Int) < (a.length : Int)
    ·refine Ev.pos h3 ?_
     rw [decide_eq_false (by omega : ¬ (i : Int) < (b.length : Int))]
     exact hj
    ·exact Ev.neg h3 hj
   ·exact Ev.neg h2 hj
  ·exact Ev.neg h1 hj
 | d + 1,i,hi=>by
  refine Ev.succ ?_
  simp only [thresherref04_Compare.l0]
  unfold cmpFrom
  refine Ev.pos (by omega) (Ev.pos (by omega) (Ev.pos (by omega) (Ev.succ ?_)))
  simp only [thresherref04_Compare.j1]
  simp (disch:=omega) only [w64]
  refine Ev.pos (decide_eq_true (by omega)) (Ev.pos (by omega) (Ev.pos (by omega) (Ev.pos (by omega) (Ev.pos (by omega) (Ev.bind (rcmp_ev _ _ _ (ga.rdV i).1 (gb.rdV i).1 (ga.rdV i).2) ?_)))))
  by_cases h : cmpV (rd T i) (rdV a i) (rdV b i)=0
  ·rw [if_pos h]
   exact Ev.pos h (rowcmp_loop T K M G a b ga gb m hm hT d (i + 1) (by omega))
  ·rw [if_neg h]
   exact Ev.neg h (Ev.now _)
theorem rowcmp_ev (T : List Int) (K M G : Int) (a b : List XV) (ga : GR a) (gb : GR b) (hT : T.length≤1000000000) : Ev (fun k=>thresherref04_Compare.f k T K M G a b) (cmpRow T K a b):=by
 simp only [thresherref04_Compare.f]
 exact rowcmp_loop T K M G a b ga gb _ rfl hT _ 0 (by omega)
end Go.Proofs.Ytfiandejapgkoaa.P

/- Rows that fit, as far as they go: their order. -/
namespace Go.Proofs.Ytfiandejapgkoaa.P
open Go.RowKit Go.Proofs.YtfiandejapgkoaaW.PrintWords Go.Proofs.YtfiandejapgkoaaW.PrintLast Go.Proofs.YtfiandejapgkoaaW.PrintMore
set_option linter.unusedVariables false
set_option linter.unusedSimpArgs false
structure RowOk (T : List Int) (a : List XV) : Prop where
 len : a.length≤T.length
 fit : FitAt T a a.length 0
 gr : GR a
theorem FitAt.mono {T : List Int} {a : List XV} {m m' : Nat} (h : FitAt T a m 0) (hm : m'≤m) : FitAt T a m' 0:=fun j h1 h2=>h j h1 (by omega)
theorem fit1_size (t : Int) (v : XV) (h : v.f1.size≤9223372036854775807) : (fit1 t v).f1.size≤9223372036854775807:=by
 unfold fit1
 split
 ·show (if (v.f1.size : Int) > 60 then v.f1.extract 0 60 else v.f1).size≤_
  split
  ·rw [ByteArray.size_extract];omega
  ·exact h
 ·show (0 : Nat)≤_;omega
theorem fitRow_ok {T : List Int} {K M G : Int} (hS : Sch T K M G) (r : List XV) (hr : GR r) : RowOk T (fitRow T r):=by
 refine ⟨by rw [fitRow_length];omega,by rw [fitRow_length];exact fitRow_at hS r (fun v h=>(hr v h).1) _ (Nat.le_refl _),fun v hv=>?_⟩
 obtain ⟨i,hi,rfl⟩:=List.getElem_of_mem hv
 have hi2 : i < T.length:=by rwa [fitRow_length] at hi
 have e:=rdV_fitRow T r i hi2
 rw [show rdV (fitRow T r) i=(fitRow T r)[i] from rdV_lt _ i hi] at e
 rw [e]
 have:=hr.rdV i
 exact ⟨fit1_GV _ _ this.1,fit1_size _ _ this.2⟩
theorem RowOk.take {T : List Int} {a : List XV} (h : RowOk T a) (n : Nat) : RowOk T (a.take n):=by
 have hl : (a.take n).length≤a.length:=by rw [List.length_take];omega
 refine ⟨by have:=h.len;omega,fun j h1 h2=>?_,fun v hv=>h.gr v (List.mem_of_mem_take hv)⟩
 rw [List.length_take] at h2
 rw [rdV_take a n j (by omega)]
 exact h.fit j h1 (by omega)
theorem cmpFrom_pre (T : List Int) (a b : List XV) : ∀ m' m i,m'≤m→cmpFrom T a b m i≤0→cmpFrom T a b m' i≤0
 | 0,_,_,_,_=>by simp [cmpFrom]
 | m' + 1,0,_,h,_=>by omega
 | m' + 1,m + 1,i,h,hc=>by
  simp only [cmpFrom] at hc ⊢
  split
  ·rename_i h0
   rw [if_pos h0] at hc
   exact cmpFrom_pre T a b m' m (i + 1) (by omega) hc
  ·rename_i h0
   rw [if_neg h0] at hc
   exact hc
theorem cmpRow_anti (T : List Int) (K : Int) (a b : List XV) : cmpRow T K b a=- cmpRow T K a b:=by
 unfold cmpRow
 rw [cmpFrom_anti,show min (min (min K.toNat T.length) b.length) a.length=min (min (min K.toNat T.length) a.length) b.length by omega]
theorem cmpRow_tr (T : List Int) (K : Int) {a b c : List XV} (ha : RowOk T a) (hb : RowOk T b) (hc : RowOk T c) (hf : min K.toNat T.length≤b.length) : cmpRow T K a b≤0→cmpRow T K b c≤0→cmpRow T K a c≤0:=by
 unfold cmpRow
 intro h1 h2
 exact cmpFrom_trans T a b c _ 0 (ha.fit.mono (by omega)) (hb.fit.mono (by omega)) (hc.fit.mono (by omega)) (cmpFrom_pre T a b _ _ 0 (by omega) h1) (cmpFrom_pre T b c _ _ 0 (by omega) h2)
theorem cmpRow_self (T : List Int) (K : Int) (a : List XV) : cmpRow T K a a=0:=by have:=cmpRow_anti T K a a;omega
structure Full (T : List Int) (K : Int) (a : List XV) : Prop where
 ok : RowOk T a
 key : min K.toNat T.length≤a.length
theorem fitRow_full {T : List Int} {K M G : Int} (hS : Sch T K M G) (r : List XV) (hr : GR r) : Full T K (fitRow T r):=⟨fitRow_ok hS r hr,by rw [fitRow_length];omega⟩
def InOrd (T : List Int) (K : Int) (l : List (List XV)) : Prop:=l.Pairwise (fun a b=>cmpRow T K a b≤0)
theorem InOrd.at {T : List Int} {K : Int} {l : List (List XV)} (h : InOrd T K l) {i j : Nat} (hij : i≤j) (hj : j < l.length) : cmpRow T K (rdR l i) (rdR l j)≤0:=by
 rw [show rdR l i=l[i] from rdR_lt l i (by omega),show rdR l j=l[j] from rdR_lt l j hj]
 rcases Nat.eq_or_lt_of_le hij with e|h1
 ·subst e;rw [cmpRow_self];omega
 ·exact List.pairwise_iff_getElem.mp h i j (by omega) hj h1
end Go.Proofs.Ytfiandejapgkoaa.P

/- The document's Sort puts rows in order. -/
namespace Go.Proofs.Ytfiandejapgkoaa.P
open Go.RowKit Go.Proofs.YtfiandejapgkoaaW.PrintWords Go.Proofs.YtfiandejapgkoaaW.PrintLast Go.Proofs.YtfiandejapgkoaaW.PrintMore
set_option linter.unusedVariables false
set_option linter.unusedSimpArgs false
def insR (T : List Int) (K : Int) (x : List XV) : List (List XV)→List (List XV)
 | []=>[x]
 | y :: l=>if cmpRow T K y x > 0 then x :: y :: l else y :: insR T K x l
theorem insR_cons (T : List Int) (K : Int) (x y : List XV) (l : List (List XV)) : insR T K x (y :: l)=if cmpRow T K y x > 0 then x :: y :: l else y :: insR T K x l:=rfl
def sortR (T : List Int) (K : Int) (l acc : List (List XV)) : List (List XV):=l.foldl (fun a x=>insR T K x a) acc
theorem insR_length (T : List Int) (K : Int) (x : List XV) : ∀ l,(insR T K x l).length=l.length + 1
 | []=>rfl
 | y :: l=>by
  unfold insR
  split
  ·simp
  ·simp [insR_length T K x l]
theorem insR_mem (T : List Int) (K : Int) (x : List XV) : ∀ l z,z ∈ insR T K x l ↔ z=x ∨ z ∈ l
 | [],z=>by simp [insR]
 | y :: l,z=>by
  unfold insR
  split
  ·simp
  ·rw [List.mem_cons,insR_mem T K x l z,List.mem_cons]
   constructor
   ·rintro (h|h|h)
    ·exact Or.inr (Or.inl h)
    ·exact Or.inl h
    ·exact Or.inr (Or.inr h)
   ·rintro (h|h|h)
    ·exact Or.inr (Or.inl h)
    ·exact Or.inl h
    ·exact Or.inr (Or.inr h)
theorem insR_ord (T : List Int) (K : Int) (x : List XV) (hx : Full T K x) : ∀ l,(∀ r ∈ l,Full T K r)→InOrd T K l→InOrd T K (insR T K x l)
 | [],_,_=>List.pairwise_singleton _ _
 | y :: l,hl,ho=>by
  have ho2:=List.pairwise_cons.mp ho
  have hy:=hl y List.mem_cons_self
  unfold insR
  split
  ·rename_i h
   have h2 : cmpRow T K x y≤0:=by rw [cmpRow_anti];omega
   refine List.pairwise_cons.mpr ⟨fun z hz=>?_,ho⟩
   rcases List.mem_cons.mp hz with rfl|hz
   ·exact h2
   ·exact cmpRow_tr T K hx.ok hy.ok (hl z (List.mem_cons_of_mem _ hz)).ok hy.key h2 (ho2.1 z hz)
  ·rename_i h
   refine List.pairwise_cons.mpr ⟨fun z hz=>?_,insR_ord T K x hx l (fun r hr=>hl r (List.mem_cons_of_mem _ hr)) ho2.2⟩
   rcases (insR_mem T K x l z).mp hz with rfl|hz
   ·omega
   ·exact ho2.1 z hz
theorem sortR_all (T : List Int) (K : Int) : ∀ (l acc : List (List XV)),(∀ r ∈ l,Full T K r)→(∀ r ∈ acc,Full T K r)→InOrd T K acc→InOrd T K (sortR T K l acc)∧(sortR T K l acc).length=l.length + acc.length∧∀ z,z ∈ sortR T K l acc ↔ z ∈ l ∨ z ∈ acc
 | [],acc,_,_,ho=>⟨ho,by simp [sortR],fun z=>by simp [sortR]⟩
 | x :: l,acc,hl,ha,ho=>by
  have hx:=hl x List.mem_cons_self
  obtain ⟨a1,a2,a3⟩:=sortR_all T K l (insR T K x acc) (fun r hr=>hl r (List.mem_cons_of_mem _ hr)) (fun r hr=>by
   rcases (insR_mem T K x acc r).mp hr with rfl|h
   ·exact hx
   ·exact ha r h) (insR_ord T K x hx acc ha ho)
  refine ⟨a1,?_,fun z=>?_⟩
  ·show (sortR T K l (insR T K x acc)).length=_
   rw [a2,insR_length,List.length_cons];omega
  ·show z ∈ sortR T K l (insR T K x acc) ↔ _
   rw [a3,insR_mem,List.mem_cons]
   constructor
   ·rintro (h|h|h)
    ·exact Or.inl (Or.inr h)
    ·exact Or.inl (Or.inl h)
    ·exact Or.inr h
   ·rintro ((h|h)|h)
    ·exact Or.inr (Or.inl h)
    ·exact Or.inl h
    ·exact Or.inr (Or.inr h)
theorem sort_in (T : List Int) (K M G : Int) (hT : T.length≤1000000000) (l out : List (List XV)) (i : Nat) (hi : i < l.length) (hl : l.length≤1000000) (ho : out.length≤1000000) (gl : ∀ r ∈ l,GR r) (go : ∀ r ∈ out,GR r) {R : List (List XV)} (hR : Ev (fun k=>thresherref09_Sort.l0 k l (insR T K l[i] out) ((i + 1 : Nat) : Int) T K M G) R) :
  ∀ (d j : Nat) (next : List (List XV)) (put : Bool),j + d=out.length→next.length≤2 * j + 1→(put=true→next ++ out.drop j=insR T K l[i] out)→(put=false→next ++ insR T K l[i] (out.drop j)=insR T K l[i] out)→Ev (fun k=>thresherref09_Sort.l1 k l out i next put j T K M G) R
 | 0,j,next,put,hj,hn,hp,hq=>by
  refine Ev.succ ?_
  simp only [thresherref09_Sort.l1]
  have e0 : out.drop j=[]:=List.drop_of_length_le (by omega)
  rw [e0] at hp hq
  refine Ev.neg (by omega) ?_
  cases put
  ·have h:=hq rfl
   refine Ev.neg (by simp) (Ev.pos (by omega) (Ev.pos (by omega) (Ev.pos (by omega) ?_)))
   rw [rdR_lt l i hi]
   simp (disch:=omega) only [w64]
   rw [show next ++ [l[i]]=insR T K l[i] out from h]
   exact hR
  ·have h:=hp rfl
   rw [List.append_nil] at h
   refine Ev.pos rfl ?_
   simp (disch:=omega) only [w64]
   rw [h]
   exact hR
 | d + 1,j,next,put,hj,hn,hp,hq=>by
  have h : j < out.length:=by omega
  refine Ev.succ ?_
  simp only [thresherref09_Sort.l1]
  rw [List.drop_eq_getElem_cons h] at hp hq
  rw [rdR_lt out j h,rdR_lt l i hi]
  simp (disch:=omega) only [w64]
  refine Ev.pos (by omega) ?_
  cases put
  ·refine Ev.neg (by simp) (Ev.pos (by omega) (Ev.pos (by omega) (Ev.pos (by omega) (Ev.bind (rowcmp_ev T K M G out[j] l[i] (go _ (List.getElem_mem h)) (gl _ (List.getElem_mem hi)) hT) ?_))))
   have hq2:=hq rfl
   rw [insR_cons] at hq2
   by_cases hc : cmpRow T K out[j] l[i] > 0
   ·rw [if_pos hc] at hq2
    refine Ev.pos hc (Ev.pos (by omega) (Ev.bindc rfl (Ev.pos (by simp;omega) ?_)))
    refine sort_in T K M G hT l out i hi hl ho gl go hR d (j + 1) _ true (by omega) (by simp;omega) (fun _=>?_) (fun h=>absurd h (by simp))
    rw [← hq2];simp
   ·rw [if_neg hc] at hq2
    refine Ev.neg hc (Ev.pos (by omega) ?_)
    refine sort_in T K M G hT l out i hi hl ho gl go hR d (j + 1) _ false (by omega) (by simp;omega) (fun h=>absurd h (by simp)) (fun _=>?_)
    rw [← hq2];simp
  ·refine Ev.pos rfl (Ev.pos (by omega) (Ev.pos (by omega) ?_))
   refine sort_in T K M G hT l out i hi hl ho gl go hR d (j + 1) _ true (by omega) (by simp;omega) (fun _=>?_) (fun h=>absurd h (by simp))
   rw [← hp rfl];simp
theorem sort_loop (T : List Int) (K M G : Int) (hT : T.length≤1000000000) (l : List (List XV)) (hl : l.length≤500000) (gl : ∀ r ∈ l,GR r) : ∀ (d i : Nat) (acc : List (List XV)),i + d=l.length→acc.length≤i→(∀ r ∈ acc,GR r)→Ev (fun k=>thresherref09_Sort.l0 k l acc i T K M G) (sortR T K (l.drop i) acc)
 | 0,i,acc,hi,ha,ga=>by
  refine Ev.succ ?_
  simp only [thresherref09_Sort.l0]
  rw [List.drop_of_length_le (by omega)]
  exact Ev.neg (by omega) (Ev.now _)
 | d + 1,i,acc,hi,ha,ga=>by
  have h : i < l.length:=by omega
  refine Ev.succ ?_
  simp only [thresherref09_Sort.l0]
  refine Ev.pos (by omega) ?_
  rw [List.drop_eq_getElem_cons h]
  have hR:=sort_loop T K M G hT l hl gl d (i + 1) (insR T K l[i] acc) (by omega) (by rw [insR_length];omega) (fun r hr=>by
   rcases (insR_mem T K l[i] acc r).mp hr with rfl|h2
   ·exact gl _ (List.getElem_mem h)
   ·exact ga r h2)
  exact sort_in T K M G hT l acc i h (by omega) (by omega) gl ga hR acc.length 0 [] false (by omega) (by simp) (fun h=>absurd h (by simp)) (fun _=>rfl)
theorem sort_ev (T : List Int) (K M G : Int) (hT : T.length≤1000000000) (l : List (List XV)) (hl : l.length≤500000) (gl : ∀ r ∈ l,GR r) : Ev (fun k=>thresherref09_Sort.f k T K M G l) (sortR T K l []):=by
 simp only [thresherref09_Sort.f]
 exact sort_loop T K M G hT l hl gl l.length 0 [] (by omega) (by simp) (by simp)
end Go.Proofs.Ytfiandejapgkoaa.P

/- Rows' numbers in order, and the document's sort of the rows. -/
namespace Go.Proofs.Ytfiandejapgkoaa.P
open Go.RowKit Go.Proofs.YtfiandejapgkoaaW.PrintWords Go.Proofs.YtfiandejapgkoaaW.PrintLast
set_option linter.unusedVariables false
theorem perm_uniq {R : Nat→Nat→Prop} : ∀ (l1 l2 : List Nat),l1.Perm l2→l1.Pairwise R→l2.Pairwise R→(∀ x ∈ l1,∀ y ∈ l1,R x y→¬ R y x)→l1=l2
 | [],l2,hp,_,_,_=>(List.Perm.nil_eq hp)
 | a :: l1,l2,hp,h1,h2,hA=>by
  cases l2 with
  | nil=>exact absurd hp.symm (by simp)
  | cons b l2 =>
   obtain ⟨p1,p2⟩:=List.pairwise_cons.mp h1
   obtain ⟨q1,q2⟩:=List.pairwise_cons.mp h2
   have hab : a=b:=by
    have ha : a ∈ b :: l2:=hp.mem_iff.mp (by simp)
    have hb : b ∈ a :: l1:=hp.mem_iff.mpr (by simp)
    rcases List.mem_cons.mp ha with h|h
    ·exact h
    ·rcases List.mem_cons.mp hb with h'|h'
     ·exact h'.symm
     ·exact absurd (p1 b h') (hA b hb a (by simp) (q1 a h))
   subst hab
   rw [perm_uniq l1 l2 (List.Perm.cons_inv hp) p2 q2 (fun x hx y hy=>hA x (by simp [hx]) y (by simp [hy]))]
def insN (cf : Nat→Nat→Int) (x : Nat) : List Nat→List Nat
 | []=>[x]
 | y :: l=>if cf y x > 0 then x :: y :: l else y :: insN cf x l
theorem insN_perm (cf : Nat→Nat→Int) (x : Nat) : ∀ l,(insN cf x l).Perm (x :: l)
 | []=>List.Perm.refl _
 | y :: l=>by
  unfold insN
  split
  ·exact List.Perm.refl _
  ·exact ((insN_perm cf x l).cons y).trans (List.Perm.swap x y l)
theorem insN_map (T : List Int) (K : Int) (l : List (List XV)) (x : Nat) : ∀ ys : List Nat,(insN (fun i j=>cmpRow T K (rdR l (i : Nat)) (rdR l (j : Nat))) x ys).map (fun i=>rdR l (i : Nat))=insR T K (rdR l (x : Nat)) (ys.map fun i=>rdR l (i : Nat))
 | []=>rfl
 | y :: ys=>by
  rw [List.map_cons,insR_cons]
  unfold insN
  split
  ·rfl
  ·rw [List.map_cons,insN_map T K l x ys]
theorem insN_ord {cf : Nat→Nat→Int} {R : Nat→Nat→Prop} {N : Nat} (O : Ordl R (· < N)) (h1 : ∀ x y,x < N→y < x→(cf y x > 0→R x y)∧(¬ cf y x > 0→R y x)) (x : Nat) (hx : x < N) : ∀ l : List Nat,(∀ y ∈ l,y < x)→l.Pairwise R→(insN cf x l).Pairwise R
 | [],_,_=>List.pairwise_singleton _ _
 | y :: l,hl,hp=>by
  obtain ⟨p1,p2⟩:=List.pairwise_cons.mp hp
  have hyx:=hl y (by simp)
  unfold insN
  split
  case isTrue q =>
   have hr:=(h1 x y hx hyx).1 q
   refine List.pairwise_cons.mpr ⟨fun z hz=>?_,hp⟩
   rcases List.mem_cons.mp hz with rfl|hz
   ·exact hr
   ·exact O.tr x y z hx (by show y < N;omega) (by have:=hl z (by simp [hz]);show z < N;omega) hr (p1 z hz)
  case isFalse q =>
   refine List.pairwise_cons.mpr ⟨fun z hz=>?_,insN_ord O h1 x hx l (fun z hz=>hl z (by simp [hz])) p2⟩
   rcases List.mem_cons.mp ((insN_perm cf x l).mem_iff.mp hz) with rfl|hz
   ·exact (h1 z y hx hyx).2 q
   ·exact p1 z hz
def sortN (cf : Nat→Nat→Int) (l acc : List Nat) : List Nat:=l.foldl (fun a x=>insN cf x a) acc
theorem sortN_spec {cf : Nat→Nat→Int} {R : Nat→Nat→Prop} {N : Nat} (O : Ordl R (· < N)) (h1 : ∀ x y,x < N→y < x→(cf y x > 0→R x y)∧(¬ cf y x > 0→R y x)) : ∀ (d i : Nat) (acc : List Nat),i + d=N→acc.Perm (List.range i)→acc.Pairwise R→(sortN cf (List.range' i d) acc).Perm (List.range N)∧(sortN cf (List.range' i d) acc).Pairwise R
 | 0,i,acc,hi,hp,hs=>by
  obtain rfl : i=N:=by omega
  exact ⟨hp,hs⟩
 | d + 1,i,acc,hi,hp,hs=>by
  rw [List.range'_succ]
  show (sortN cf (List.range' (i + 1) d) (insN cf i acc)).Perm _∧_
  refine sortN_spec O h1 d (i + 1) (insN cf i acc) (by omega) ?_ (insN_ord O h1 i (by omega) acc (fun y hy=>List.mem_range.mp (hp.mem_iff.mp hy)) hs)
  refine (insN_perm cf i acc).trans ?_
  rw [List.range_succ]
  exact (hp.cons i).trans (List.perm_append_comm (l₁:=[i]))
section
variable (T : List Int) (K : Int) (l : List (List XV)) (hF : ∀ r ∈ l,Full T K r)
def CFn (i j : Nat) : Int:=cmpRow T K (rdR l (i : Nat)) (rdR l (j : Nat))
def RSn (i j : Nat) : Prop:=CFn T K l i j < 0 ∨ (CFn T K l i j=0∧i < j)
include hF
theorem full_at (i : Nat) (hi : i < l.length) : Full T K (rdR l (i : Nat)):=by rw [show rdR l (i : Nat)=l[i] from rdR_lt l i hi];exact hF _ (List.getElem_mem hi)
theorem cf_tr {x y z : Nat} (hx : x < l.length) (hy : y < l.length) (hz : z < l.length) (h1 : CFn T K l x y≤0) (h2 : CFn T K l y z≤0) : CFn T K l x z≤0 :=
 cmpRow_tr T K (full_at T K l hF x hx).ok (full_at T K l hF y hy).ok (full_at T K l hF z hz).ok (full_at T K l hF y hy).key h1 h2
omit hF in
theorem cf_anti (x y : Nat) : CFn T K l y x=- CFn T K l x y:=cmpRow_anti T K _ _
theorem ord_O : Ordl (RSn T K l) (· < l.length):=by
 refine ⟨fun x y z hx hy hz h1 h2=>?_,fun x hx h=>?_⟩
 ·have a1:=cf_anti T K l x y
  have a2:=cf_anti T K l y z
  have a3:=cf_anti T K l x z
  have t1:=cf_tr T K l hF (x:=x) (y:=y) (z:=z) hx hy hz
  have t2:=cf_tr T K l hF (x:=z) (y:=x) (z:=y) hz hx hy
  have t3:=cf_tr T K l hF (x:=y) (y:=z) (z:=x) hy hz hx
  unfold RSn at *
  omega
 ·have:=cf_anti T K l x x
  unfold RSn at h
  omega
theorem sort_uniq (out : List Nat) (h1 : out.Perm (List.range l.length)) (h2 : out.Pairwise (RSn T K l)) : out.map (fun i=>rdR l (i : Nat))=sortR T K l []:=by
 obtain ⟨q1,q2⟩:=sortN_spec (cf:=CFn T K l) (ord_O T K l hF) (fun x y hx hyx=>by
  have a1:=cf_anti T K l x y
  unfold RSn
  omega) l.length 0 [] (by omega) (List.Perm.refl _) List.Pairwise.nil
 have O:=ord_O T K l hF
 rw [perm_uniq _ _ (h1.trans q1.symm) h2 q2 (fun x hx y hy h1' h2'=>by
  have hx' : x < l.length:=List.mem_range.mp (h1.mem_iff.mp hx)
  have hy' : y < l.length:=List.mem_range.mp (h1.mem_iff.mp hy)
  exact O.ir x hx' (O.tr x y x hx' hy' hx' h1' h2'))]
 have key : ∀ (xs acc : List Nat),(sortN (CFn T K l) xs acc).map (fun i=>rdR l (i : Nat))=sortR T K (xs.map fun i=>rdR l (i : Nat)) (acc.map fun i=>rdR l (i : Nat)):=by
  intro xs
  induction xs with
  | nil=>intro acc;rfl
  | cons x xs ih =>
   intro acc
   show (sortN (CFn T K l) xs (insN (CFn T K l) x acc)).map _=sortR T K (xs.map _) (insR T K (rdR l (x : Nat)) (acc.map _))
   rw [ih,← insN_map]
   rfl
 rw [key,List.map_nil]
 congr 1
 apply List.ext_getElem
 ·simp
 ·intro i h1 h2
  simp only [List.getElem_map,List.getElem_range',Nat.zero_add,Nat.one_mul]
  exact rdR_lt l i h2
end
end Go.Proofs.Ytfiandejapgkoaa.P

/- Rows made to fit, and put in order. -/
namespace Go.Proofs.Ytfiandejapgkoaa.P
open Go.RowKit Go.Proofs.YtfiandejapgkoaaW.PrintWords Go.Proofs.YtfiandejapgkoaaW.PrintLast Go.Proofs.YtfiandejapgkoaaW.PrintMore
set_option linter.unusedVariables false
set_option linter.unusedSimpArgs false
theorem GR_gd {r : List XV} (h : ∀ v ∈ r,gd31 v) : GR r:=fun v hv=>by
 obtain ⟨h1,h2⟩:=h v hv
 exact ⟨wf_i64 h1,by unfold maxLen at h2;omega⟩
def fitsR (T : List Int) (l : List (List XV)) : List (List XV):=(l.take 60).map (fitRow T)
structure Rows60 (T : List Int) (K : Int) (l : List (List XV)) : Prop where
 len : l.length≤60
 full : ∀ r ∈ l,Full T K r
 wide : ∀ r ∈ l,r.length=T.length
theorem Rows60.gr {T : List Int} {K : Int} {l : List (List XV)} (h : Rows60 T K l) : ∀ r ∈ l,GR r:=fun r hr=>(h.full r hr).ok.gr
theorem sorted_ok {T : List Int} {K : Int} {l : List (List XV)} (h : Rows60 T K l) : Rows60 T K (sortR T K l [])∧InOrd T K (sortR T K l []):=by
 obtain ⟨a1,a2,a3⟩:=sortR_all T K l [] h.full (by simp) List.Pairwise.nil
 refine ⟨⟨by have:=h.len;simp at a2;omega,fun r hr=>?_,fun r hr=>?_⟩,a1⟩
 ·rcases (a3 r).mp hr with q|q
  ·exact h.full r q
  ·exact absurd q (by simp)
 ·rcases (a3 r).mp hr with q|q
  ·exact h.wide r q
  ·exact absurd q (by simp)
end Go.Proofs.Ytfiandejapgkoaa.P

