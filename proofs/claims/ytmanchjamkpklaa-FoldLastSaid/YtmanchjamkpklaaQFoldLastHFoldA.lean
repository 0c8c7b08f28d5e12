/- Texts of FoldLast. Merged: HFoldA. -/
import Derived.Test.YtmanchjamkpklaaQFoldLastHBase
import Derived.MapKept
import Derived.WideKeyRuns
import Derived.KernelRfl
/- fold.joins, by hand: a map whose keys are structs; its six entries are laid in any order. -/
namespace Go.Proofs.YtmanchjamkpklaaW.PrintLast
open Go.RowKit Go.Proofs.YtmanchjamkpklaaW.PrintWords
theorem insD_ {P : Program} {ops : Array Oper} {Q : Exit→Act→World→Prop} {oi : Oper} {a : Act} {W w1 : World} {K : Act→World→Prop} {t : TypeId} {m k x : Operand} {B : Nat} {key v : Value}
  (hg : oi.guard=none) (hN : oi.dst=none) (ho : oi.op=.insert t m k x) (hm : a.eval m=.map (some B)) (hk : a.eval k=key) (hx : a.eval x=v)
  (hrun : (Instr.mapUpdate t (.map (some B)) key v).run P W=.ok () w1) (h : K a w1) :
  if Region.wanted oi (yielded ops a.tmps)=true then Oper.wp P oi a W K Q else K (a.put oi.dst undef) W:=by
 have hw : Region.wanted oi (yielded ops a.tmps)=true:=by unfold Region.wanted;rw [hg]
 rw [hN]
 refine skip_ hw hN ?_ h
 unfold execOp
 simp only [ho,hm,hk,hx,Sem.run_bind,Sem.run_pure,Result.andThen_ok,hrun]
end Go.Proofs.YtmanchjamkpklaaW.PrintLast
namespace Go.Proofs.Ytmanchjamkpklaa.P
open Go.RowKit Go.Proofs.YtmanchjamkpklaaW.PrintWords Go.Proofs.YtmanchjamkpklaaW.PrintLast
set_option linter.unusedVariables false
set_option linter.unusedSimpArgs false
def jkey : Nat→Value
 | 0=>.agg #[.int .i64 1,.bool true]
 | 1=>.agg #[.int .i64 1,.bool false]
 | 2=>.agg #[.int .i64 2,.bool true]
 | 3=>.agg #[.int .i64 2,.bool false]
 | 4=>.agg #[.int .i64 3,.bool true]
 | _=>.agg #[.int .i64 3,.bool false]
def jval (i : Nat) : Value:=if i=5 then .func (.func 30) #[] #[] else .func (.func 29) #[] #[]
def jkv (i : Nat) : Value × Value:=(jkey i,jval i)
theorem six {p : Nat→Prop} (h0 : p 0) (h1 : p 1) (h2 : p 2) (h3 : p 3) (h4 : p 4) (h5 : p 5) : ∀ i,i < 6→p i:=by
 intro i hi
 have : i=0 ∨ i=1 ∨ i=2 ∨ i=3 ∨ i=4 ∨ i=5:=by omega
 rcases this with rfl|rfl|rfl|rfl|rfl|rfl <;> assumption
theorem jcheck (e : Bool) (w : World) : ∀ i,i < 6→(Instr.checkKey e 10000 55 (jkey i)).run Try.prog w=.ok () w:=six rfl rfl rfl rfl rfl rfl
theorem jeq (w : World) : ∀ i,i < 6→∀ j,j < 6→(Op.equal 55 (jkey i) (jkey j)).run Try.prog w=.ok (i == j) w:=by
 refine six ?_ ?_ ?_ ?_ ?_ ?_ <;> (refine six ?_ ?_ ?_ ?_ ?_ ?_ <;> kernel_rfl)
theorem jfind (w : World) : ∀ (es : List MapEntry) (is : List Nat) (n j : Nat),es.map (fun e=>(e.key,e.val))=is.map jkv→(∀ i ∈ is,i < 6)→j < 6 →
  (j ∉ is→(Instr.findAsking 55 (jkey j) es n).run Try.prog w=.ok none w)∧(j ∈ is→∃ p,(Instr.findAsking 55 (jkey j) es n).run Try.prog w=.ok (some (p,jval j)) w)
 | [],is,n,j,he,hi,hj=>by
  obtain rfl : is=[]:=by cases is with|nil=>rfl|cons x xs=>simp at he
  exact ⟨fun _=>by simp only [Instr.findAsking,Sem.run_pure],fun h=>absurd h (by simp)⟩
 | e :: es,is,n,j,he,hi,hj=>by
  cases is with
  | nil=>simp at he
  | cons x xs =>
   simp only [List.map_cons,List.cons.injEq] at he
   obtain ⟨h1,h2⟩:=he
   have hk : e.key=jkey x:=congrArg Prod.fst h1
   have hv : e.val=jval x:=congrArg Prod.snd h1
   obtain ⟨a1,a2⟩:=jfind w es xs (n + 1) j h2 (fun i h=>hi i (List.mem_cons_of_mem _ h)) hj
   have heq:=jeq w j hj x (hi x List.mem_cons_self)
   by_cases c : j=x
   ·subst c
    refine ⟨fun h=>absurd List.mem_cons_self h,fun _=>⟨n,?_⟩⟩
    simp only [Instr.findAsking,Sem.run_bind,hk,heq,Result.andThen_ok,beq_self_eq_true,if_true,Sem.run_pure,hv]
   ·have hb : (j == x)=false:=by simpa using c
    have e1 : (Instr.findAsking 55 (jkey j) (e :: es) n).run Try.prog w=(Instr.findAsking 55 (jkey j) es (n + 1)).run Try.prog w:=by
     simp only [Instr.findAsking,Sem.run_bind,hk,heq,Result.andThen_ok,hb,Bool.false_eq_true,if_false]
    rw [e1]
    refine ⟨fun h=>a1 (fun q=>h (List.mem_cons_of_mem _ q)),fun h=>a2 ?_⟩
    rcases List.mem_cons.mp h with q|q
    ·exact absurd q c
    ·exact q
def JMap (W : World) (B : Nat) (D : Nat→Bool) : Prop:=∃ (es : Array MapEntry) (clock : Nat) (is : List Nat),W.heap[B]?=some (.map es clock)∧es.toList.map (fun e=>(e.key,e.val))=is.map jkv∧(∀ i ∈ is,i < 6)∧∀ i,i < 6→(i ∈ is ↔ D i=true)
theorem JMap.same {W W' : World} {B : Nat} {D : Nat→Bool} (h : JMap W B D) (he : W'.heap[B]?=W.heap[B]?) : JMap W' B D:=by
 obtain ⟨es,c,is,h1,h2⟩:=h
 exact ⟨es,c,is,he.trans h1,h2⟩
theorem JMap.lt {W : World} {B : Nat} {D : Nat→Bool} (h : JMap W B D) : B < W.heap.size:=by
 obtain ⟨es,c,is,h1,h2⟩:=h
 exact (Array.getElem?_eq_some_iff.1 h1).1
theorem JMap.below {W W' : World} {B : Nat} {D : Nat→Bool} (h : JMap W B D) (hb : Below W.heap.size W W') : JMap W' B D:=h.same (hb.block B h.lt)
theorem JMap.new (W : World) : JMap (W.alloc (.map #[] 0)) W.heap.size (fun _=>false):=⟨#[],0,[],blk_new W _,rfl,by simp,by simp⟩
theorem jfindKey (w : World) (es : List MapEntry) (k : Value) : (Instr.findKey 55 k es).run Try.prog w=(Instr.findAsking 55 k es).run Try.prog w :=
 run_findKey_eq w (by rw [Try.underlying55]) k es
def upd (D : Nat→Bool) (j : Nat) : Nat→Bool:=fun i=>i == j || D i
theorem JMap.insert {W : World} {B : Nat} {D : Nat→Bool} (h : JMap W B D) {j : Nat} (hj : j < 6) (hD : D j=false) :
  ∃ w1,(Instr.mapUpdate 51 (.map (some B)) (jkey j) (jval j)).run Try.prog W=.ok () w1∧JMap w1 B (upd D j)∧∀ (base : Nat) (w0 : World),base≤B→Below base w0 W→Below base w0 w1:=by
 obtain ⟨es,clock,is,h1,h2,h3,h4⟩:=h
 have hni : j ∉ is:=fun q=>by rw [(h4 j hj).mp q] at hD;exact absurd hD (by simp)
 have hf:=(jfind W es.toList is 0 j h2 h3 hj).1 hni
 rw [← jfindKey] at hf
 obtain ⟨s1,s2⟩:=MapKept.heap_set (o':=.map (es.push ⟨jkey j,jval j,clock⟩) (clock + 1)) h1
 refine ⟨{ W with heap:=W.heap.setIfInBounds B (.map (es.push ⟨jkey j,jval j,clock⟩) (clock + 1)) },?_,⟨_,_,is ++ [j],s1,?_,?_,?_⟩,?_⟩
 ·unfold Instr.mapUpdate
  simp only [Sem.run_bind,run_underlying Try.underlying51,Result.andThen_ok,MapKept.run_getObj_map h1,jcheck false W j hj,hf,MapKept.run_setObj_map _ h1]
 ·simp only [Array.toList_push,List.map_append,h2,List.map_cons,List.map_nil]
  rfl
 ·intro i hi
  rcases List.mem_append.mp hi with q|q
  ·exact h3 i q
  ·rw [List.mem_singleton.mp q];exact hj
 ·intro i hi
  rw [List.mem_append,List.mem_singleton,h4 i hi]
  unfold upd
  by_cases c : i=j
  ·subst c;simp
  ·have : (i == j)=false:=by simpa using c
   rw [this,Bool.false_or]
   exact ⟨fun q=>q.resolve_right c,Or.inl⟩
 ·intro base w0 hb hB
  refine hB.trans ⟨rfl,rfl,rfl,by simp,fun k hk=>s2 k (by omega)⟩
theorem JMap.look {W : World} {B : Nat} {D : Nat→Bool} (h : JMap W B D) {j : Nat} (hj : j < 6) (hD : D j=true) :
  (Instr.lookup 51 (.map (some B)) (jkey j) false).run Try.prog W=.ok (jval j) W:=by
 obtain ⟨es,clock,is,h1,h2,h3,h4⟩:=h
 obtain ⟨p,hf⟩:=(jfind W es.toList is 0 j h2 h3 hj).2 ((h4 j hj).mpr hD)
 rw [← jfindKey] at hf
 unfold Instr.lookup
 simp only [Sem.run_bind,run_underlying Try.underlying51,Result.andThen_ok,MapKept.run_getObj_map h1,jcheck _ W j hj,hf,Sem.run_pure,Bool.false_eq_true,if_false]
noncomputable def jops : Array Oper:=opsOf Try.f24 2
def jlit (D : Nat→Bool) : Array Bool:=#[true,true,true,D 0,true,true,D 1,true,true,D 2,true,true,D 3,true,true,D 4,true,D 5,false,false]
def jix : Nat→Nat
 | 0=>3
 | 1=>6
 | 2=>9
 | 3=>12
 | 4=>15
 | _=>17
def jk_ : Nat→Operand
 | 0=>.tmp 3
 | 1=>.tmp 5
 | 2=>.tmp 7
 | 3=>.tmp 9
 | 4=>.tmp 11
 | _=>.tmp 13
def jv_ : Nat→Operand
 | 0=>.tmp 4
 | 1=>.tmp 6
 | 2=>.tmp 8
 | 3=>.tmp 10
 | 4=>.tmp 12
 | _=>.func 30
def jon : Nat→List Nat
 | 0=>[0,1,2]
 | 1=>[0,4,5]
 | 2=>[0,7,8]
 | 3=>[0,10,11]
 | 4=>[0,13,14]
 | _=>[0,16]
theorem jop : ∀ j,j < 6→(jops[jix j]?).map (fun o=>(o.dst,o.op,o.guard))=some (none,Op.insert 51 (.tmp 2) (jk_ j) (jv_ j),none):=six (by kernel_rfl) (by kernel_rfl) (by kernel_rfl) (by kernel_rfl) (by kernel_rfl) (by kernel_rfl)
theorem jafter : ∀ j,j < 6→(jops[jix j]?).map (fun o=>o.after.toList.map (·.on))=some (jon j):=six (by kernel_rfl) (by kernel_rfl) (by kernel_rfl) (by kernel_rfl) (by kernel_rfl) (by kernel_rfl)
theorem jlast : ∀ i,i=18 ∨ i=19→(jops[i]?).map (fun o=>([3,6,9,12,15,17].all fun j=>o.after.toList.any fun e=>e.on == j && Region.binds .any e))=some true:=by
 rintro i (rfl|rfl) <;> kernel_rfl
theorem jsize : jops.size=20:=by kernel_rfl
theorem jset (D : Nat→Bool) : ∀ j,j < 6→(jlit D).setIfInBounds (jix j) true=jlit (upd D j):=six rfl rfl rfl rfl rfl rfl
theorem jget (D : Nat→Bool) : ∀ j,j < 6→(jlit D).getD (jix j) true=D j∧(jlit D).getD (jix j) false=D j:=six ⟨rfl,rfl⟩ ⟨rfl,rfl⟩ ⟨rfl,rfl⟩ ⟨rfl,rfl⟩ ⟨rfl,rfl⟩ ⟨rfl,rfl⟩
theorem jpre (D : Nat→Bool) : ∀ j,j < 6→∀ i ∈ jon j,(jlit D).getD i false=true:=by
 refine six ?_ ?_ ?_ ?_ ?_ ?_ <;> (intro i hi;simp only [jon,List.mem_cons,List.not_mem_nil,or_false] at hi;rcases hi with rfl|rfl|rfl <;> rfl) <;> done
def jcnt (D : Nat→Bool) : Nat:=(if D 0 then 0 else 1) + (if D 1 then 0 else 1) + (if D 2 then 0 else 1) + (if D 3 then 0 else 1) + (if D 4 then 0 else 1) + (if D 5 then 0 else 1)
theorem jcnt_upd (D : Nat→Bool) : ∀ j,j < 6→D j=false→jcnt (upd D j) + 1=jcnt D:=by
 refine six ?_ ?_ ?_ ?_ ?_ ?_ <;>
  (intro h;simp only [jcnt,upd,h,Nat.reduceBEq,Bool.false_or,Bool.true_or,if_true,Bool.false_eq_true,if_false] <;> omega)
theorem jcnt_pos (D : Nat→Bool) (h : jcnt D≠0) : ∃ j,j < 6∧D j=false:=by
 apply Classical.byContradiction
 intro hn
 have e : ∀ j,j < 6→D j=true:=fun j hj=>by
  cases hd : D j with
  | true=>rfl
  | false=>exact absurd ⟨j,hj,hd⟩ hn
 apply h
 unfold jcnt
 rw [e 0 (by omega),e 1 (by omega),e 2 (by omega),e 3 (by omega),e 4 (by omega),e 5 (by omega)]
 rfl
theorem jcnt_zero (D : Nat→Bool) (h : jcnt D=0) : ∀ j,j < 6→D j=true:=fun j hj=>by
 cases hd : D j with
 | true=>rfl
 | false=>have:=jcnt_upd D j hj hd;omega
theorem jready (D : Nat→Bool) (h : jcnt D≠0) {i : Nat} (hi : i ∈ Region.ready .any jops (jlit D)) : ∃ j,j < 6∧i=jix j∧D j=false:=by
 obtain ⟨h1,o,ho,h2⟩:=mem_ready.1 hi
 have hlt : i < 20:=by rw [← jsize];exact (Array.getElem?_eq_some_iff.1 ho).1
 obtain ⟨j0,hj0,hd0⟩:=jcnt_pos D h
 have last : i=18 ∨ i=19→False:=fun hc=>by
  have hl:=jlast i hc
  rw [ho] at hl
  simp only [Option.map_some,Option.some.injEq,List.all_eq_true] at hl
  have hm : jix j0 ∈ [3,6,9,12,15,17]:=by
   revert hj0
   exact fun hj0=>(six (p:=fun j=>jix j ∈ [3,6,9,12,15,17]) (by decide) (by decide) (by decide) (by decide) (by decide) (by decide)) j0 hj0
  obtain ⟨e,he,hb⟩:=List.any_eq_true.mp (hl _ hm)
  simp only [Bool.and_eq_true,beq_iff_eq] at hb
  have:=h2 e (Array.mem_toList_iff.mp he) hb.2
  rw [hb.1,(jget D j0 hj0).2,hd0] at this
  exact absurd this (by simp)
 have : i=0 ∨ i=1 ∨ i=2 ∨ i=3 ∨ i=4 ∨ i=5 ∨ i=6 ∨ i=7 ∨ i=8 ∨ i=9 ∨ i=10 ∨ i=11 ∨ i=12 ∨ i=13 ∨ i=14 ∨ i=15 ∨ i=16 ∨ i=17 ∨ i=18 ∨ i=19:=by omega
 rcases this with rfl|rfl|rfl|rfl|rfl|rfl|rfl|rfl|rfl|rfl|rfl|rfl|rfl|rfl|rfl|rfl|rfl|rfl|rfl|rfl
 ·exact absurd h1 (by simp [jlit])
 ·exact absurd h1 (by simp [jlit])
 ·exact absurd h1 (by simp [jlit])
 ·exact ⟨0,by omega,rfl,h1⟩
 ·exact absurd h1 (by simp [jlit])
 ·exact absurd h1 (by simp [jlit])
 ·exact ⟨1,by omega,rfl,h1⟩
 ·exact absurd h1 (by simp [jlit])
 ·exact absurd h1 (by simp [jlit])
 ·exact ⟨2,by omega,rfl,h1⟩
 ·exact absurd h1 (by simp [jlit])
 ·exact absurd h1 (by simp [jlit])
 ·exact ⟨3,by omega,rfl,h1⟩
 ·exact absurd h1 (by simp [jlit])
 ·exact absurd h1 (by simp [jlit])
 ·exact ⟨4,by omega,rfl,h1⟩
 ·exact absurd h1 (by simp [jlit])
 ·exact ⟨5,by omega,rfl,h1⟩
 ·exact (last (Or.inl rfl)).elim
 ·exact (last (Or.inr rfl)).elim
theorem jready' (D : Nat→Bool) {j : Nat} (hj : j < 6) (hd : D j=false) : jix j ∈ Region.ready .any jops (jlit D):=by
 have ho:=jop j hj
 cases h : jops[jix j]? with
 | none=>rw [h] at ho;simp at ho
 | some o =>
  refine mem_ready.2 ⟨by rw [(jget D j hj).1,hd],o,h,fun e he _=>?_⟩
  have ha:=jafter j hj
  rw [h] at ha
  simp only [Option.map_some,Option.some.injEq] at ha
  refine jpre D j hj e.on ?_
  rw [← ha]
  exact List.mem_map.mpr ⟨e,Array.mem_toList_iff.mpr he,rfl⟩
theorem jins {ops : Array Oper} (hops : ops=jops) {Q : Exit→Act→World→Prop} {a : Act} {B base : Nat} {w0 : World} (hB : base≤B) (h2 : a.eval (.tmp 2)=.map (some B)) (hk : ∀ j,j < 6→a.eval (jk_ j)=jkey j) (hv : ∀ j,j < 6→a.eval (jv_ j)=jval j)
  (hq : ∀ w',JMap w' B (fun _=>true)→Below base w0 w'→wpAnyLast Try.prog .any ops Q (fun _=>True) [] 2 (jlit fun _=>true) a w') :
  ∀ (n : Nat) (D : Nat→Bool) (w : World),jcnt D=n→JMap w B D→Below base w0 w→wpAnyLast Try.prog .any ops Q (fun _=>True) [] (n + 2) (jlit D) a w
 | 0,D,w,hc,hm,hb=>by
  have hd:=jcnt_zero D hc
  have e : jlit D=jlit fun _=>true:=by unfold jlit;rw [hd 0 (by omega),hd 1 (by omega),hd 2 (by omega),hd 3 (by omega),hd 4 (by omega),hd 5 (by omega)]
  rw [e]
  refine hq w ?_ hb
  obtain ⟨es,c,is,q1,q2,q3,q4⟩:=hm
  exact ⟨es,c,is,q1,q2,q3,fun i hi=>by rw [q4 i hi,hd i hi]⟩
 | n + 1,D,w,hc,hm,hb=>by
  have ih0:=jins hops hB h2 hk hv hq n
  subst hops
  obtain ⟨j0,hj0,hd0⟩:=jcnt_pos D (by omega)
  refine ⟨fun h=>?_,fun i hi=>?_⟩
  ·have:=jready' D hj0 hd0
   rw [h] at this
   exact absurd this (by simp)
  ·obtain ⟨j,hj,rfl,hd⟩:=jready D (by omega) hi
   have ho:=jop j hj
   cases h : jops[jix j]? with
   | none=>rw [h] at ho;simp at ho
   | some o =>
    rw [h] at ho
    simp only [Option.map_some,Option.some.injEq,Prod.mk.injEq] at ho
    obtain ⟨o1,o2,o3⟩:=ho
    obtain ⟨w1,r1,r2,r3⟩:=hm.insert hj hd
    have hcu:=jcnt_upd D j hj hd
    have ih:=ih0 (upd D j) w1 (by omega) r2 (r3 base w0 hB hb)
    rw [← jset D j hj] at ih
    exact AllReadyL.cons (rs:=[]) h (by simp) (fun K' hK=>insD_ o3 o1 o2 h2 (hk j hj) (hv j hj) r1 (hK.out _ _ trivial (fun _=>ih))) AllReadyL.nil _ List.mem_cons_self
set_option maxHeartbeats 8000000 in
set_option maxRecDepth 100000 in
theorem joins_any (w : World) : Calls Try.prog 24 #[] w fun e w'=>∃ B,e=.returned (.map (some B))∧JMap w' B (fun _=>true)∧Below w.heap.size w w':=by
 go_enter Try.func24,Try.ntmps24
 go_wp2
 refine start_ (n:=20) (S:=fun _=>True) (ds:=[]) #[false,false,false,false,false,false,false,false,false,false,false,false,false,false,false,false,false,false,false,false] (by kernel_rfl) rfl rfl trivial (fun hHeld=>?_)
 refine pure_ (i:=1) (N:=some 3) (v:=?_) (a':=?_) #[false,true,false,false,false,false,false,false,false,false,false,false,false,false,false,false,false,false,false,false] rfl rfl (by kernel_rfl) (fun _ _ _ h=>h) (Or.inl ⟨by rfl,?_⟩) ?_ ?_
 rotate_left;(intro w';go_simp;with_reducible rfl);rotate_left;(simp only [Act.put,List.setIfInBounds_toArray,List.set_cons_zero,List.set_cons_succ,i64_w,i32_w];rfl)
 refine pure_ (i:=4) (N:=some 5) (v:=?_) (a':=?_) #[false,true,false,false,true,false,false,false,false,false,false,false,false,false,false,false,false,false,false,false] rfl rfl (by kernel_rfl) (fun _ _ _ h=>h) (Or.inl ⟨by rfl,?_⟩) ?_ ?_
 rotate_left;(intro w';go_simp;with_reducible rfl);rotate_left;(simp only [Act.put,List.setIfInBounds_toArray,List.set_cons_zero,List.set_cons_succ,i64_w,i32_w];rfl)
 refine pure_ (i:=7) (N:=some 7) (v:=?_) (a':=?_) #[false,true,false,false,true,false,false,true,false,false,false,false,false,false,false,false,false,false,false,false] rfl rfl (by kernel_rfl) (fun _ _ _ h=>h) (Or.inl ⟨by rfl,?_⟩) ?_ ?_
 rotate_left;(intro w';go_simp;with_reducible rfl);rotate_left;(simp only [Act.put,List.setIfInBounds_toArray,List.set_cons_zero,List.set_cons_succ,i64_w,i32_w];rfl)
 refine pure_ (i:=10) (N:=some 9) (v:=?_) (a':=?_) #[false,true,false,false,true,false,false,true,false,false,true,false,false,false,false,false,false,false,false,false] rfl rfl (by kernel_rfl) (fun _ _ _ h=>h) (Or.inl ⟨by rfl,?_⟩) ?_ ?_
 rotate_left;(intro w';go_simp;with_reducible rfl);rotate_left;(simp only [Act.put,List.setIfInBounds_toArray,List.set_cons_zero,List.set_cons_succ,i64_w,i32_w];rfl)
 refine pure_ (i:=13) (N:=some 11) (v:=?_) (a':=?_) #[false,true,false,false,true,false,false,true,false,false,true,false,false,true,false,false,false,false,false,false] rfl rfl (by kernel_rfl) (fun _ _ _ h=>h) (Or.inl ⟨by rfl,?_⟩) ?_ ?_
 rotate_left;(intro w';go_simp;with_reducible rfl);rotate_left;(simp only [Act.put,List.setIfInBounds_toArray,List.set_cons_zero,List.set_cons_succ,i64_w,i32_w];rfl)
 refine pure_ (i:=16) (N:=some 13) (v:=?_) (a':=?_) #[false,true,false,false,true,false,false,true,false,false,true,false,false,true,false,false,true,false,false,false] rfl rfl (by kernel_rfl) (fun _ _ _ h=>h) (Or.inl ⟨by rfl,?_⟩) ?_ ?_
 rotate_left;(intro w';go_simp;with_reducible rfl);rotate_left;(simp only [Act.put,List.setIfInBounds_toArray,List.set_cons_zero,List.set_cons_succ,i64_w,i32_w];rfl)
 refine pure_ (i:=2) (N:=some 4) (v:=?_) (a':=?_) #[false,true,true,false,true,false,false,true,false,false,true,false,false,true,false,false,true,false,false,false] rfl rfl (by kernel_rfl) (fun _ _ _ h=>h) (Or.inl ⟨by rfl,?_⟩) ?_ ?_
 rotate_left;(intro w';go_simp;with_reducible rfl);rotate_left;(simp only [Act.put,List.setIfInBounds_toArray,List.set_cons_zero,List.set_cons_succ,i64_w,i32_w];rfl)
 refine pure_ (i:=5) (N:=some 6) (v:=?_) (a':=?_) #[false,true,true,false,true,true,false,true,false,false,true,false,false,true,false,false,true,false,false,false] rfl rfl (by kernel_rfl) (fun _ _ _ h=>h) (Or.inl ⟨by rfl,?_⟩) ?_ ?_
 rotate_left;(intro w';go_simp;with_reducible rfl);rotate_left;(simp only [Act.put,List.setIfInBounds_toArray,List.set_cons_zero,List.set_cons_succ,i64_w,i32_w];rfl)
 refine pure_ (i:=8) (N:=some 8) (v:=?_) (a':=?_) #[false,true,true,false,true,true,false,true,true,false,true,false,false,true,false,false,true,false,false,false] rfl rfl (by kernel_rfl) (fun _ _ _ h=>h) (Or.inl ⟨by rfl,?_⟩) ?_ ?_
 rotate_left;(intro w';go_simp;with_reducible rfl);rotate_left;(simp only [Act.put,List.setIfInBounds_toArray,List.set_cons_zero,List.set_cons_succ,i64_w,i32_w];rfl)
 refine pure_ (i:=11) (N:=some 10) (v:=?_) (a':=?_) #[false,true,true,false,true,true,false,true,true,false,true,true,false,true,false,false,true,false,false,false] rfl rfl (by kernel_rfl) (fun _ _ _ h=>h) (Or.inl ⟨by rfl,?_⟩) ?_ ?_
 rotate_left;(intro w';go_simp;with_reducible rfl);rotate_left;(simp only [Act.put,List.setIfInBounds_toArray,List.set_cons_zero,List.set_cons_succ,i64_w,i32_w];rfl)
 refine pure_ (i:=14) (N:=some 12) (v:=?_) (a':=?_) #[false,true,true,false,true,true,false,true,true,false,true,true,false,true,true,false,true,false,false,false] rfl rfl (by kernel_rfl) (fun _ _ _ h=>h) (Or.inl ⟨by rfl,?_⟩) ?_ ?_
 rotate_left;(intro w';go_simp;with_reducible rfl);rotate_left;(simp only [Act.put,List.setIfInBounds_toArray,List.set_cons_zero,List.set_cons_succ,i64_w,i32_w];rfl)
 refine one_ (i:=0) (N:=some 2) #[true,true,true,false,true,true,false,true,true,false,true,true,false,true,true,false,true,false,false,false] rfl rfl (by kernel_rfl) (by decide) (fun K hK=>?_)
 refine value_ (w1:=w.drew.alloc (.map #[] 0)) (v:=.map (some w.drew.heap.size)) (by rfl) rfl ?_ ?_
 ·first|rfl|(go_simp;rfl)
 refine hK.out _ _ trivial (fun hHeld=>?_)
 clear hK K
 refine norm_ (a':=?_) ?_ ?_
 rotate_left
 ·show Act.put _ (some 2) _=_
  simp only [Act.put,List.setIfInBounds_toArray,List.set_cons_zero,List.set_cons_succ,i64_w,i32_w]
  rfl
 refine jins (by kernel_rfl) (B:=w.heap.size) (base:=w.heap.size) (w0:=w) (Nat.le_refl _) rfl (six rfl rfl rfl rfl rfl rfl) (six rfl rfl rfl rfl rfl rfl) ?_ 6 (fun _=>false) _ rfl (JMap.new _) (below_alloc (below_drew1 (Below.refl _ _)) _)
 intro w' hm hb
 have HM:=Aside0.mk hm
 have HB:=Aside0.mk hb
 clear hm hb
 refine pure_ (i:=18) (N:=some 14) (v:=?_) (a':=?_) #[true,true,true,true,true,true,true,true,true,true,true,true,true,true,true,true,true,true,true,false] rfl rfl (by kernel_rfl) (fun _ _ _ h=>h) (Or.inl ⟨by rfl,?_⟩) ?_ ?_
 rotate_left;(intro w';go_simp;with_reducible rfl);rotate_left;(simp only [Act.put,List.setIfInBounds_toArray,List.set_cons_zero,List.set_cons_succ,i64_w,i32_w];rfl)
 refine pure_ (i:=19) (N:=some 0) (v:=?_) (a':=?_) #[true,true,true,true,true,true,true,true,true,true,true,true,true,true,true,true,true,true,true,true] rfl rfl (by kernel_rfl) (fun _ _ _ h=>h) (Or.inl ⟨by rfl,?_⟩) ?_ ?_
 rotate_left;(intro w';go_simp;with_reducible rfl);rotate_left;(simp only [Act.put,List.setIfInBounds_toArray,List.set_cons_zero,List.set_cons_succ,i64_w,i32_w];rfl)
 refine done_ (by kernel_rfl) ?_
 go_wp2
 go_ret
 exact ⟨_,rfl,HM.out,HB.out⟩
end Go.Proofs.Ytmanchjamkpklaa.P

