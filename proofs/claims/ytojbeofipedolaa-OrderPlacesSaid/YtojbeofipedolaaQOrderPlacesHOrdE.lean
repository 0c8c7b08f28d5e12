/- Texts of OrderPlaces. Merged: HOrdE. -/
import Derived.Test.YtojbeofipedolaaQOrderPlacesHOrdG
import Derived.Laws.CopyOwn
/- order.Sort, by hand: its rows are those that came in, in the order in which a stable sort of their numbers puts them. -/
namespace Go.Proofs.Ytojbeofipedolaa.P
open Go.RowKit Go.Proofs.YtojbeofipedolaaW.PrintWords Go.Proofs.YtojbeofipedolaaW.PrintLast Go.Proofs.YtojbeofipedolaaW.PrintMore
set_option linter.unusedVariables false
set_option linter.unusedSimpArgs false
theorem own_slice (A : Option Addr) (n c : Nat) : (Value.slice A n c).ownBlock=A.map (·.block):=by cases A <;> rfl
theorem madeOne (n : Nat) (z : Value) (hz : z.cells=#[z]) : madeCells z.cells (n * 1)=(List.replicate n z).toArray:=by
 rw [hz]
 apply Array.ext
 ·simp [size_madeCells]
 ·intro i h1 h2
  have : i % 1=0:=Nat.mod_one i
  simp [madeCells,this]
theorem make_event {P : Program} {ops : Array Oper} {Q : Exit→Act→World→Prop} {o : Oper} {rest : List Oper} {a : Act} {W : World} (hgd : o.guard=none) {N : Tmp} (_hd : o.dst=some N) (t e : TypeId) (x y : Operand) (ho : o.op=.makeSlice t x y) (n : Nat) (hx : a.eval x=.int .i64 n) (hy : a.eval y=.int .i64 n)
  (ht : P.underlying t=some (.slice e)) (hinfo : (P.info? e).map (fun i=>(i.zero,i.size,i.bytes))=some (some (.slice none 0 0),1,24)) (hn : n≤1000000000)
  (h : ∀ g,g=W.heap.size→∀ w1,w1.heap[g]?=some (.cells (List.replicate n (.slice none 0 0)).toArray e (0,0))→Below W.heap.size W w1→wpList P ops Q rest (a.put o.dst (.slice (some ⟨g,0,none⟩) n n)) w1) : wpList P ops Q (o :: rest) a W:=by
 obtain ⟨i0,hi,hzz⟩:=Option.map_eq_some_iff.1 hinfo
 simp only [Prod.mk.injEq] at hzz
 obtain ⟨hz0,hz1,hz2⟩:=hzz
 have hr:=run_make (P:=P) W t e i0 _ ht hi hz0 .i64 .i64 (n : Int) (n : Int) (by omega) (by omega) (by rw [hz2];omega) (by omega)
 simp only [Int.toNat_natCast] at hr
 rw [hz1,madeOne n _ rfl] at hr
 refine Kd.event_run hgd (v:=.slice (some ⟨W.heap.size,0,none⟩) n n) (w1:=W.alloc (.cells (List.replicate n (.slice none 0 0)).toArray e)) ?_ (h _ rfl _ (blk_new W _) (below_alloc (Below.refl _ _) _))
 simp [execOp,ho,hx,hy,hr]
theorem passes_length (lt : Nat→Nat→Bool) (n : Nat) : ∀ (f bs : Nat) (p : List Nat),(passes lt n f bs p).length=p.length
 | 0,_,_=>rfl
 | f + 1,bs,p=>by unfold passes;split;rw [passes_length,symPass_length];rfl
def ordP (T : List Int) (a : Int) (l : List (List XV)) : List Nat:=stableL (ltC fun i j=>cmpRow T a (rdR l (i : Nat)) (rdR l (j : Nat))) l.length (List.range l.length)
def order_Sort.f (k : Nat) (T : List Int) (a b d : Int) (l : List (List XV)) : Option (List (List XV)):=if T.length≤1000000000∧l.length≤1000000000 then some ((ordP T a l).map fun i=>rdR l (i : Nat)) else none
theorem order_Sort.mono : ∀ T a b d l k,LeO (order_Sort.f k T a b d l) (order_Sort.f (k + 1) T a b d l):=fun _ _ _ _ _ _=>LeO.refl _
structure RowV (w : World) (P1 : Nat→Prop) (A : Option Addr) (l : List (List XV)) (i : Nat) (v : Value) : Prop where
 at_ : ∃ A0 c,v=.slice A0 (rdR l (i : Nat)).length c∧Kd.C k41 w A0 (rdR l (i : Nat)).length (rdR l (i : Nat))∧(rdR l (i : Nat)).length≤c
 fk : Kd.FK (Kd.slice 41 k41) w P1 (rdR l (i : Nat)) [v]
 cell : i < l.length→∃ ad,A=some ad∧w.cell? (ad.add i)=some v
theorem rowV (w : World) (P1 : Nat→Prop) (A : Option Addr) (l : List (List XV)) (h : Kd.F (Kd.slice 41 k41) w P1 A l.length l) (i : Nat) : ∃ v,RowV w P1 A l i v:=by
 by_cases hi : i < l.length
 ·obtain ⟨ad,c,h1,h2,h3,h4,_⟩:=Kd.F_get h ([] : List XV) (i : Int) (by omega) (by omega)
  have h3' : Kd.FK (Kd.slice 41 k41) w P1 (rdR l (i : Nat)) c:=h3
  obtain ⟨A0,c0,rfl,h5,h6⟩:=Kd.FK_slice_open h3'
  refine ⟨_,⟨A0,c0,rfl,Kd.F_now h6,h5⟩,h3',fun _=>⟨ad,h1,?_⟩⟩
  have:=h4 0 _ rfl
  simpa [show (Kd.slice 41 k41).sz=1 from rfl] using this
 ·have e : rdR l (i : Nat)=[]:=by
   show l.getD _ []=[]
   rw [Int.toNat_natCast]
   simp [List.getD,hi]
  refine ⟨.slice none 0 0,⟨none,0,?_,?_,?_⟩,?_,fun h=>absurd h hi⟩
  ·rw [e];rfl
  ·rw [e];exact Kd.C_nil _ _
  ·rw [e];exact Nat.le_refl _
  ·rw [e];exact Kd.FK_slice_mk (l:=([] : List XV)) (Nat.le_refl _) (fun W' _=>Kd.C_nil _ _)
theorem SW0.rows {w w' : World} {gs go n : Nat} {cs : Array Value} {V : Nat→Value} {p : List Nat} {P1 : Nat→Prop} {A : Option Addr} {l : List (List XV)} (hS : SW0 w w' gs go cs V p) (hV : ∀ i,RowV w P1 A l i (V i)) (hp : p.length=n) (hn : n≤1000000000) :
  Kd.N (Kd.slice 41 k41) 27 w' w.heap.size (fun k_=>(P1 k_ ∨ w.heap.size≤k_)) (.slice (some ⟨go,0,none⟩) n n) (p.map fun i=>rdR l (i : Nat)):=by
 subst hp
 have esz : (Kd.slice 41 k41).sz=1:=rfl
 refine ⟨fun k hk=>?_,p.map (fun i=>[V i]),by simp,⟨fun k hk=>hk.symm,p.map V,?_,?_⟩,fun j x c hx hc=>?_⟩
 ·injection hk with hk
  subst hk
  exact .inr hS.go0
 ·refine ⟨by simp [Kd.raw,esz],.inr ⟨go,p.length,(p.map V).toArray,by simp,hS.go0,hS.r,Nat.le_of_eq (by simp),by unfold maxLen;omega,by simp [Kd.raw,esz],?_⟩⟩
  simp [Kd.raw,esz]
  apply List.take_of_length_le
  simp
 ·refine ⟨by simp [Kd.raw,esz],fun j q hj=>?_⟩
  obtain ⟨hjl,hq⟩:=List.getElem?_eq_some_iff.1 hj
  have hjp : j < p.length:=by simpa using hjl
  have hq' : q=[V p[j]]:=by rw [← hq];simp
  subst hq'
  have e1 : ((p.map V).drop (j * 1)).take 1=[V p[j]]:=by
   rw [Nat.mul_one,List.drop_eq_getElem_cons (by simpa using hjp)]
   simp
  show ((p.map V).drop (j * 1)).take 1=[V p[j]]∧(((p.map V).drop (j * 1)).take 1).length=1∧∀ u ∈ ((p.map V).drop (j * 1)).take 1,u.oneCell'=true
  rw [e1]
  refine ⟨rfl,rfl,fun u hu=>?_⟩
  rw [List.mem_singleton.1 hu]
  obtain ⟨A0,c0,e,_⟩:=(hV p[j]).at_
  rw [e]
  rfl
 ·obtain ⟨hjl,hq⟩:=List.getElem?_eq_some_iff.1 hx
  obtain ⟨hjl2,hq2⟩:=List.getElem?_eq_some_iff.1 hc
  have hjp : j < p.length:=by simpa using hjl
  simp only [List.getElem_map] at hq hq2
  subst hq hq2
  refine Kd.FK_mono (Kd.FK_bound (Kd.FK_step (Kd.FK_bound (hV p[j]).fk) (fun k hk hlt=>hS.b.block k hk.2))) (fun k hk=>⟨.inl hk.1.1,?_⟩)
  intro he
  have h2 : k=go:=by simpa [Value.ownBlock] using he
  have h3:=hS.go0
  have h4:=hk.1.2
  omega
set_option maxHeartbeats 8000000 in
set_option maxRecDepth 100000 in
theorem order_Sort.calls (k : Nat) (A : Option Addr) (c : Nat) (T : List Int) (a b d : Int) (P1_ : Nat→Prop) (B : Option Addr) (e : Nat) (l r : List (List XV)) (w : World)
  (hT : Kd.C (Kd.int .i64) w A T.length T) (hc : T.length≤c) (hs1 : Kd.V (Kd.slice 41 k41) 27 w w.heap.size (fun k_=>P1_ k_) (.slice B l.length e) l)
  (h : order_Sort.f k T a b d l=some r) :
  Calls Try.prog 10 #[.agg #[.slice A T.length c,.int .i64 a,.int .i64 b,.int .i64 d],.slice B l.length e] w fun e w'=>∃ v0_ : Value,e=.returned (v0_)∧Kd.N (Kd.slice 41 k41) 27 w' w.heap.size (fun k_=>(P1_ k_ ∨ w.heap.size≤k_)) v0_ r∧Below w.heap.size w w':=by
 unfold order_Sort.f at h
 split at h
 case isFalse=>exact absurd h (by simp)
 case isTrue hn =>
 injection h with h
 subst h
 obtain ⟨V,hV⟩:=Classical.axiomOfChoice (rowV w P1_ B l (Kd.V_at hs1).2.2)
 replace hV : ∀ i,RowV w P1_ B l i (V i):=hV
 obtain ⟨n,hln⟩ : ∃ n,n=l.length:=⟨_,rfl⟩
 have hu25 : Try.prog.underlying 25=some (.slice 27):=Try.underlying25
 obtain ⟨cs,hcs⟩ : ∃ cs,cs=(List.range n).map V:=⟨_,rfl⟩
 have hcl : cs.length=n:=by rw [hcs];simp
 obtain ⟨cur,hcur⟩ : ∃ cur : List Value,cur=List.replicate n (.slice none 0 0):=⟨_,rfl⟩
 have hcul : cur.length=n:=by rw [hcur];simp
 have hsp : splice cur 0 cs=cs:=by
  unfold splice
  rw [List.take_zero,List.nil_append,List.drop_of_length_le (by omega),List.append_nil]
 have hone : ∀ v ∈ cs,v.oneCell'=true:=fun v hv=>by
  rw [hcs] at hv
  obtain ⟨i,_,rfl⟩:=List.mem_map.mp hv
  obtain ⟨A0,c0,e,_⟩:=(hV i).at_
  rw [e]
  rfl
 have hsrc : ∀ W,Below w.heap.size w W→0 < cs.length→∃ ad,B=some ad∧∀ j v,cs[j]?=some v→W.cell? (ad.add j)=some v:=fun W hb h0=>by
  obtain ⟨ad,rfl,_⟩:=(hV 0).cell (by omega)
  refine ⟨ad,rfl,fun j v hj=>?_⟩
  obtain ⟨hjl,hj2⟩:=List.getElem?_eq_some_iff.1 hj
  obtain ⟨ad',he,h2⟩:=(hV j).cell (by omega)
  injection he with he
  subst he
  have : v=V j:=by rw [← hj2];simp [hcs]
  rw [this]
  exact (hb.cell (World.block_lt_of_cell? w _ h2)).trans h2
 have hfin : ∀ W gs go,SW0 w W gs go #[.slice A T.length c,.int .i64 a,.int .i64 b,.int .i64 d] V (List.range n)→Calls Try.prog 24 #[.slice (some ⟨go,0,none⟩) n n,.func (.func 25) #[] #[.pointer (some ⟨gs,0,none⟩)]] W fun e w'=>e=.returned (.tuple #[])∧Kd.N (Kd.slice 41 k41) 27 w' w.heap.size (fun k_=>(P1_ k_ ∨ w.heap.size≤k_)) (.slice (some ⟨go,0,none⟩) n n) ((ordP T a l).map fun i=>rdR l (i : Nat))∧Below w.heap.size w w':=fun W gs go hS=>by
  refine (sortStable_any w gs go _ V (fun i=>?_) _ (sortC_any w gs go V (fun i=>rdR l (i : Nat)) A c T a b d hT hc hn.1 ⟨fun i=>?_⟩) n n (List.range n) W hS (by simp) (by omega)).mono ?_
  ·obtain ⟨A0,c0,e,_⟩:=(hV i).at_
   exact ⟨A0,_,c0,e⟩
  ·exact (hV i).at_
  ·rintro e w' ⟨rfl,h⟩
   refine ⟨rfl,?_,h.b⟩
   unfold ordP
   rw [← hln]
   refine h.rows hV ?_ (by omega)
   unfold stableL
   rw [passes_length,insBlocks_length]
   simp
 have HFIN:=Aside0.mk hfin
 have HSRC:=Aside0.mk hsrc
 have HONE:=Aside0.mk hone
 have HSP:=Aside0.mk hsp
 have HCS:=Aside0.mk hcs
 have HCL:=Aside0.mk (And.intro hcl hcul)
 have HCUR:=Aside0.mk hcur
 have HN:=Aside0.mk (show n≤1000000000 by omega)
 rw [← hln]
 clear hV hs1 hT hfin hsrc hone hsp hcs hcl hcul hcur
 have HB:=Aside0.mk (Below.refl w.heap.size w)
 clear hn hln
 go_enter Try.func10,Try.ntmps10
 go_wp2_with (first|((with_reducible refine gate_dst (N:=2) rfl ?_);refine box_event ?hg (N:=2) ?hd (cs:=#[.slice A T.length c,.int .i64 a,.int .i64 b,.int .i64 d]) (t:=31) ?hr ?_;(case hd=>rfl);(case hg=>rfl);(case hr=>first|(go_simp;done)|(go_simp;rfl));intro gs hg w4 hbox hb;have nb_:=Aside0.mk (below_step HB.out hb);have nh_:=Aside0.mk hbox;have ng_:=Aside0.mk ((by rw [hg];exact below_size HB.out) : w.heap.size≤gs);clear HB;have HB:=nb_;have BKgs:=nh_;have GEgs:=ng_;clear nb_ nh_ ng_;clear hb hbox hg)|((with_reducible refine gate_dst (N:=8) rfl ?_);refine make_event rfl rfl 25 27 (.tmp 7) (.tmp 7) rfl n rfl rfl Try.underlying25 (by kernel_rfl) HN.out ?_;intro go hgo w5 hmk hb;have GE:=Aside0.mk hgo;have BKgo:=Aside0.mk hmk;have HB5:=Aside0.mk hb;clear hgo hmk hb)|((with_reducible refine gate_builtin (b:=.copy) (xs:=#[.tmp 9,.tmp 10]) rfl ?_);refine wpList_copy_splice rfl (.tmp 9) (.tmp 10) 25 25 rfl 27 Try.underlying25 (by kernel_rfl) (some ⟨go,0,none⟩) B n n n e rfl rfl go 0 cur 27 (by rw [HCUR.out];exact BKgo.out) cs (by rw [HCL.out.1];exact (Nat.min_self n).symm) (fun h0_=>⟨rfl,HSRC.out _ (below_step HB.out HB5.out) h0_⟩) (by have:=HCL.out;omega) HONE.out w4.heap.size w4 HB5.out (by rw [GE.out];exact Nat.le_refl _) ?_;intro w6 hg6 hb6;have BK6:=Aside0.mk (show w6.heap[go]?=some (.cells cs.toArray 27 (0,0)) by have h9_:=hg6.out;rw [HSP.out] at h9_;exact h9_);have HB6:=Aside0.mk hb6;clear hg6 hb6)|(go_at_call 24;refine (HFIN.out w6 gs go ⟨blk_below BKgs.out HB6.out,by rw [← HCS.out];exact BK6.out,below_step HB.out HB6.out,GEgs.out,by rw [GE.out];exact HB.out.size⟩).mono ?_;rintro e9 w9 ⟨rfl,h⟩;have HZ:=Aside0.mk h;clear h))
 go_ret
 exact ⟨_,rfl,HZ.out⟩
end Go.Proofs.Ytojbeofipedolaa.P

