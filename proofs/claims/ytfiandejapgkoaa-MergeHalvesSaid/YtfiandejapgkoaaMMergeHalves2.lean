/- The row of MergeHalves. Merged: SMergeHalves, XFrows, XMergeIn, XMergeSub, PureMergeHalves, RMergeHalves. -/
import Derived.Test.YtfiandejapgkoaaQMergeHalvesPx21
import Derived.Test.YtfiandejapgkoaaQMergeHalvesO
import Derived.Test.YtfiandejapgkoaaQMergeHalvesPx13
import Derived.Test.YtfiandejapgkoaaQMergeHalvesPx3
import Derived.Test.YtfiandejapgkoaaQMergeHalvesPx5
import Derived.Test.YtfiandejapgkoaaMMergeHalves1
import Derived.Test.YtfiandejapgkoaaMMergeHalves0
import Derived.Test.YtfiandejapgkoaaQMergeHalvesPx10
import Derived.Test.YtfiandejapgkoaaQMergeHalvesPx14
import Derived.Test.YtfiandejapgkoaaRows
import Derived.WalkKit
import Derived.ProofKit
import Derived.OpenShut
import Derived.ShutString
import Derived.ChangeOld
import Derived.Below
import Derived.SizedLaws
namespace Go.Proofs.Ytfiandejapgkoaa.P
open Go.RowKit Go.Proofs.YtfiandejapgkoaaW.PrintWords
def thresherlaw14_MergeHalves.PureG : Prop:=∀ (x0 : S38) (x1 : List (List (S31))) (x2 : S43),gd38 x0→(x1.length≤maxLen∧∀ a ∈ x1,(a.length≤maxLen∧∀ aa ∈ a,gd31 aa))→gd43 x2→∃ k,thresherlaw14_MergeHalves.f k x0.f0.f0 x0.f0.f1 x0.f0.f2 x0.f0.f3 x0.f0.f4 x0.f0.f5 x0.f0.f6 x0.f0.f7 x0.f1 x0.f2 x0.f3 x0.f4 x1 x2.f0 x2.f1=some true
end Go.Proofs.Ytfiandejapgkoaa.P

/- fold.Rows and fold.One: what they compute. -/
namespace Go.Proofs.Ytfiandejapgkoaa.P
open Go.RowKit Go.Proofs.YtfiandejapgkoaaW.PrintWords Go.Proofs.YtfiandejapgkoaaW.PrintLast
set_option linter.unusedVariables false
set_option linter.unusedSectionVars false
theorem shown13_ev : Ev (fun k=>thresherlaw14_shown.f k) true:=Ev.of thresherlaw14_shown.mono (k:=12) (by kernel_rfl)
theorem made13_ev {x : S38} (h : gd38 x) : ∃ T K M G,Ev (fun k=>thresherlaw14_made.f k x.f0.f0 x.f0.f1 x.f0.f2 x.f0.f3 x.f0.f4 x.f0.f5 x.f0.f6 x.f0.f7 x.f1 x.f2 x.f3 x.f4) (T,K,M,G)∧Sch T K M G:=by
 obtain ⟨T,K,M,G,h1,h2⟩:=shape_ev h
 exact ⟨T,K,M,G,Ev.bind h1 (Ev.now _),h2⟩
theorem vadd_j (t : Int) (a b : XV) (p : Bool) (hp : p=!(fitT t a && fitT t b)) : Ev (fun k=>value_Add.j0 k t p a.f0 a.f1 b.f0 b.f1) ((addV t a b).f0,(addV t a b).f1):=by
 refine Ev.succ ?_
 simp only [value_Add.j0]
 unfold addV
 by_cases h : fitT t a=true∧fitT t b=true
 ·rw [if_pos h]
  refine Ev.neg (by rw [hp,h.1,h.2];simp) ?_
  by_cases h3 : t=3
  ·exact (Ev.pos h3 (Ev.now _)).eq (by simp only [if_pos h3])
  ·exact (Ev.neg h3 (Ev.now _)).eq (by simp only [if_neg h3])
 ·rw [if_neg h]
  refine Ev.pos ?_ (Ev.now _)
  rw [hp]
  by_cases h1 : fitT t a=true
  ·have h2 : fitT t b=false:=by
    cases q : fitT t b with
    | false=>rfl
    | true=>exact absurd ⟨h1,q⟩ h
   rw [h1,h2];rfl
  ·rw [Bool.eq_false_iff.mpr h1];rfl
theorem vadd_ev (t : Int) (a b : XV) : Ev (fun k=>value_Add.f k t a.f0 a.f1 b.f0 b.f1) ((addV t a b).f0,(addV t a b).f1):=by
 simp only [value_Add.f]
 refine Ev.bind (vfits_ev t a.f0 a.f1) ?_
 by_cases h1 : fitT t a=true
 ·refine Ev.pos h1 (Ev.bind (vfits_ev t b.f0 b.f1) (vadd_j t a b _ ?_))
  rw [h1,Bool.true_and]
 ·refine Ev.neg h1 (vadd_j t a b true ?_)
  rw [Bool.eq_false_iff.mpr h1];rfl
theorem foldJ_ev (K M t : Int) (i : Nat) (x y : XV) : Ev (fun k=>foldJ k K M t i x y) (jnV K M t i x y):=by
 unfold foldJ jnV
 by_cases h : M=3∧¬ (i : Int) < K
 ·simp only [if_pos h]
  exact Ev.bind (vadd_ev t x y) (Ev.now _)
 ·simp only [if_neg h]
  exact Ev.now _
theorem oneR_get (T : List Int) (K M : Int) (a b : List XV) (i : Nat) (hi : i < T.length) : (oneR T K M a b).drop i=jnV K M (rd T (i : Int)) i (rdV a (i : Int)) (rdV b (i : Int)) :: (oneR T K M a b).drop (i + 1):=by
 rw [List.drop_eq_getElem_cons (by rw [oneR_length];exact hi)]
 congr 1
 simp [oneR]
theorem foldGo_ev (T : List Int) (K M : Int) (a b : List XV) (ha : a.length=T.length) (hb : b.length=T.length) : ∀ (d i : Nat),i + d=T.length→Ev (fun k=>foldGo k K M i (T.drop i) (a.drop i) (b.drop i)) ((oneR T K M a b).drop i)
 | 0,i,hi=>by
  rw [List.drop_of_length_le (by omega : T.length≤i),List.drop_of_length_le (by omega : a.length≤i),List.drop_of_length_le (by omega : b.length≤i),List.drop_of_length_le (by rw [oneR_length];omega)]
  exact Ev.now _
 | d + 1,i,hi=>by
  have h : i < T.length:=by omega
  rw [oneR_get T K M a b i h,List.drop_eq_getElem_cons h,List.drop_eq_getElem_cons (by omega : i < a.length),List.drop_eq_getElem_cons (by omega : i < b.length)]
  simp only [foldGo]
  have e0 : rd T (i : Int)=T[i]:=rd_lt T i h
  have e1 : rdV a (i : Int)=a[i]:=rdV_lt a i (by omega)
  have e2 : rdV b (i : Int)=b[i]:=rdV_lt b i (by omega)
  rw [e0,e1,e2]
  exact Ev.bind (foldJ_ev _ _ _ _ _ _) (Ev.bind (foldGo_ev T K M a b ha hb d (i + 1) (by omega)) (Ev.now _))
theorem fone_ev {T : List Int} {K M G : Int} (hS : Sch T K M G) {a b : List XV} (ha : a.length=T.length) (hb : b.length=T.length) : Ev (fun k=>fold_One.f k T K M G a b) (oneR T K M a b):=by
 unfold fold_One.f
 have:=hS.n8
 refine Ev.pos ⟨by omega,hS.m1,hS.m3,hb⟩ ?_
 have:=foldGo_ev T K M a b ha hb T.length 0 (by omega)
 simpa only [List.drop_zero] using this
section
variable {T : List Int} {K M G : Int} (hS : Sch T K M G) (l : List (List XV)) (hl : l.length≤1000) (hw : ∀ r ∈ l,Whole T r)
include hS hl hw
theorem set_last (pre : List (List XV)) (p z : List XV) : (pre ++ [p]).set pre.length z=pre ++ [z]:=by
 rw [List.set_append,if_neg (by omega),Nat.sub_self,List.set_cons_zero]
theorem rdR_last (pre : List (List XV)) (p : List XV) : rdR (pre ++ [p]) (pre.length : Nat)=p:=by
 rw [show rdR (pre ++ [p]) (pre.length : Nat)=_ from rdR_lt (pre ++ [p]) pre.length (by simp)]
 simp
theorem frows_loop : ∀ (d i : Nat) (pre : List (List XV)) (p : List XV),i + d=l.length→pre.length < i→Whole T p→Ev (fun k=>fold_Rows.l0 k (pre ++ [p]) l (l.length : Int) i T K M G) (pre ++ foldL T K M p (l.drop i))
 | 0,i,pre,p,hi,hp,hwp=>by
  refine Ev.succ ?_
  simp only [fold_Rows.l0]
  rw [List.drop_of_length_le (by omega)]
  exact Ev.neg (by omega) (Ev.now _)
 | d + 1,i,pre,p,hi,hp,hwp=>by
  have h : i < l.length:=by omega
  have h8:=hS.n8
  have hx:=hw _ (List.getElem_mem h)
  refine Ev.succ ?_
  simp only [fold_Rows.l0]
  have e : wrap64 (((pre ++ [p]).length : Int) - 1)=(pre.length : Int):=by
   rw [List.length_append,List.length_singleton,w64 (by omega) (by omega)]
   omega
  rw [e,show wrap64 ((i : Int) + 1)=(i : Int) + 1 from w64 (by omega) (by omega),rdR_lt l i h,show rd_L3 (pre ++ [p]) (pre.length : Int)=p from rdR_last hS l hl hw pre p,Int.toNat_natCast]
  clear e
  have hpl : ((pre ++ [p]).length : Int)=pre.length + 1:=by rw [List.length_append];rfl
  rw [List.drop_eq_getElem_cons h]
  refine Ev.pos (by omega) (Ev.pos (by omega) (Ev.pos (by omega) (Ev.pos (by omega) (Ev.pos (by omega) (Ev.pos (by omega) (Ev.bind (scmp_ev T K M G p l[i] (by omega)) ?_))))))
  have e2 : foldL T K M p (l[i] :: l.drop (i + 1))=if cmpRow T K p l[i]=0 then foldL T K M (oneR T K M p l[i]) (l.drop (i + 1)) else p :: foldL T K M l[i] (l.drop (i + 1)):=rfl
  rw [e2]
  by_cases hc : cmpRow T K p l[i]=0
  ·rw [if_pos hc]
   refine Ev.pos hc (Ev.bind (fone_ev hS hwp.len hx.len) ?_)
   rw [set_last hS l hl hw]
   exact frows_loop d (i + 1) pre _ (by omega) (by omega) (one_whole K M hwp hx)
  ·rw [if_neg hc]
   refine Ev.neg hc (Ev.pos (by omega) ?_)
   have:=frows_loop d (i + 1) (pre ++ [p]) l[i] (by omega) (by rw [List.length_append,List.length_singleton];omega) hx
   exact this.eq (by rw [List.append_assoc];rfl)
def foldA (T : List Int) (K M : Int) (l : List (List XV)) : List (List XV):=if M=1 then l else foldR T K M l
theorem frows_ev : Ev (fun k=>fold_Rows.f k T K M G l) (foldA T K M l):=by
 simp only [fold_Rows.f]
 unfold foldA
 by_cases hM : M=1
 ·rw [if_pos hM]
  refine Ev.pos hM (Ev.bindc (a:=l) ?_ (Ev.now _))
  simp only [api_Row.f,Option.bind_some,List.length_nil,List.nil_append]
  rw [if_pos (by omega)]
 ·rw [if_neg hM]
  refine Ev.neg hM ?_
  cases hc : l with
  | nil =>
   refine Ev.succ ?_
   simp only [fold_Rows.l0]
   exact Ev.neg (by simp) (Ev.now _)
  | cons x xs =>
   have h : 0 < l.length:=by rw [hc];simp
   have h8:=hS.n8
   have e0 : rdR l (0 : Int)=x:=by
    have:=rdR_lt l 0 h
    rw [show rdR l (0 : Int)=_ from this]
    simp [hc]
   have:=frows_loop hS l hl hw (l.length - 1) 1 [] x (by omega) (by simp) (hw x (by rw [hc];exact List.mem_cons_self))
   rw [← hc]
   refine Ev.succ ?_
   simp only [fold_Rows.l0]
   rw [show wrap64 ((([] : List (List XV)).length : Int) - 1)=-1 from w64 (by simp) (by simp),show wrap64 ((0 : Int) + 1)=1 from w64 (by omega) (by omega)]
   rw [show rd_L3 l (0 : Int)=x from e0]
   refine Ev.pos (by omega) (Ev.pos (by omega) (Ev.pos (by omega) (Ev.neg (by omega) (Ev.pos (by simp) ?_))))
   rw [List.nil_append,hc] at this ⊢
   exact this
end
theorem whole_of {T : List Int} {K : Int} {l : List (List XV)} (h : Rows60 T K l) : ∀ r ∈ l,Whole T r:=fun r hr=>⟨h.wide r hr,(h.full r hr).ok⟩
theorem foldA_length (T : List Int) (K M : Int) (l : List (List XV)) : (foldA T K M l).length≤l.length:=by
 unfold foldA
 split
 ·exact Nat.le_refl _
 ·exact foldR_length T K M l
theorem foldA_whole {T : List Int} (K M : Int) {l : List (List XV)} (hw : ∀ r ∈ l,Whole T r) : ∀ r ∈ foldA T K M l,Whole T r:=by
 unfold foldA
 split
 ·exact hw
 ·exact foldR_whole l hw
theorem cut_at (n : Nat) (hn : n≤1000) {x : Int} (hx : U8 x) : ∃ m : Nat,Int.tmod (wrap64 x) (wrap64 ((n : Int) + 1))=m∧m≤n:=by
 unfold U8 at hx
 rw [w64 (by omega) (by omega),w64 (by omega) (by omega),Int.tmod_eq_emod_of_nonneg hx.1]
 have e1:=Int.emod_nonneg x (show (n : Int) + 1≠0 by omega)
 have e2:=Int.emod_lt_of_pos x (show 0 < (n : Int) + 1 by omega)
 exact ⟨(x % ((n : Int) + 1)).toNat,by omega,by omega⟩
end Go.Proofs.Ytfiandejapgkoaa.P

/- The parts that chapter 14's laws speak of; the document's Rows and Folded. -/
namespace Go.Proofs.Ytfiandejapgkoaa.P
open Go.RowKit Go.Proofs.YtfiandejapgkoaaW.PrintWords Go.Proofs.YtfiandejapgkoaaW.PrintLast
set_option linter.unusedVariables false
set_option linter.unusedSectionVars false
def partR (T : List Int) (K : Int) (r : List (List XV)) : List (List XV):=sortR T K ((r.take 20).map (fitRow T)) []
def partsR (T : List Int) (K : Int) (l : List (List (List XV))) : List (List (List XV)):=(l.take 8).map (partR T K)
structure Part (T : List Int) (K : Int) (p : List (List XV)) : Prop where
 len : p.length≤1000
 full : ∀ r ∈ p,Full T K r
 wide : ∀ r ∈ p,r.length=T.length
 ord : InOrd T K p
section
variable {T : List Int} {K M G : Int} (hS : Sch T K M G)
include hS
end
section
variable {T : List Int} {K M G : Int} (hS : Sch T K M G) (l : List (List (List XV))) (hl : l.length≤16∧l.flatten.length≤1000) (hp : ∀ p ∈ l,Part T K p)
include hS hl hp
theorem flat_le : l.flatten.length≤1000:=hl.2
theorem flat_full : ∀ r ∈ l.flatten,Full T K r:=fun r hr=>by
 obtain ⟨p,h1,h2⟩:=List.mem_flatten.mp hr
 exact (hp p h1).full r h2
theorem flat_wide : ∀ r ∈ l.flatten,r.length=T.length:=fun r hr=>by
 obtain ⟨p,h1,h2⟩:=List.mem_flatten.mp hr
 exact (hp p h1).wide r h2
theorem mrows_ev : Ev (fun k=>merge_Rows.f k T K M G l) (sortR T K l.flatten []):=by
 have h8:=hS.n8
 exact merge_ev T K l M G (by omega) (by have:=hl.1;omega) (by have:=flat_le hS l hl hp;omega) (fun p h=>(hp p h).full) (fun p h=>(hp p h).ord)
theorem merged : (sortR T K l.flatten []).length=l.flatten.length∧(∀ r ∈ sortR T K l.flatten [],Full T K r)∧(∀ r ∈ sortR T K l.flatten [],Whole T r)∧InOrd T K (sortR T K l.flatten []):=by
 obtain ⟨a1,a2,a3⟩:=sortR_all T K l.flatten [] (flat_full hS l hl hp) (by simp) List.Pairwise.nil
 have hm : ∀ r ∈ sortR T K l.flatten [],r ∈ l.flatten:=fun r hr=>by
  rcases (a3 r).mp hr with q|q
  ·exact q
  ·exact absurd q (by simp)
 exact ⟨by rw [a2];simp,fun r hr=>flat_full hS l hl hp r (hm r hr),fun r hr=>⟨flat_wide hS l hl hp r (hm r hr),(flat_full hS l hl hp r (hm r hr)).ok⟩,a1⟩
theorem mfold_ev : Ev (fun k=>merge_Folded.f k T K M G l) (foldA T K M (sortR T K l.flatten [])):=by
 obtain ⟨h1,h2,h3,h4⟩:=merged hS l hl hp
 have h5:=flat_le hS l hl hp
 simp only [merge_Folded.f]
 exact Ev.bind (mrows_ev hS l hl hp) (Ev.bind (frows_ev hS _ (by omega) h3) (Ev.now _))
end
end Go.Proofs.Ytfiandejapgkoaa.P

/- Parts cut, and rows that are in order already. -/
namespace Go.Proofs.Ytfiandejapgkoaa.P
open Go.RowKit Go.Proofs.YtfiandejapgkoaaW.PrintWords Go.Proofs.YtfiandejapgkoaaW.PrintLast
set_option linter.unusedVariables false
theorem insR_end (T : List Int) (K : Int) (x : List XV) : ∀ l,(∀ y ∈ l,cmpRow T K y x≤0)→insR T K x l=l ++ [x]
 | [],_=>rfl
 | y :: l,h=>by
  rw [insR_cons,if_neg (by have:=h y (by simp);omega),insR_end T K x l (fun z hz=>h z (by simp [hz]))]
  rfl
theorem sortR_sorted (T : List Int) (K : Int) : ∀ (l acc : List (List XV)),InOrd T K (acc ++ l)→sortR T K l acc=acc ++ l
 | [],acc,_=>by rw [List.append_nil];rfl
 | x :: l,acc,h=>by
  show sortR T K l (insR T K x acc)=_
  have h2:=(List.pairwise_append.mp h).2.2
  rw [insR_end T K x acc (fun y hy=>h2 y hy x (by simp)),sortR_sorted T K l _ (by rw [List.append_assoc];exact h),List.append_assoc]
  rfl
theorem sortR_same {T : List Int} {K : Int} {l : List (List XV)} (h : InOrd T K l) : sortR T K l []=l:=sortR_sorted T K l [] h
theorem Part.sub {T : List Int} {K : Int} {p q : List (List XV)} (h : Part T K p) (hq : q.Sublist p) : Part T K q :=
 ⟨Nat.le_trans hq.length_le h.len,fun r hr=>h.full r (hq.subset hr),fun r hr=>h.wide r (hq.subset hr),h.ord.sublist hq⟩
theorem part_nil (T : List Int) (K : Int) : Part T K []:=⟨by simp,fun r hr=>absurd hr (by simp),fun r hr=>absurd hr (by simp),List.Pairwise.nil⟩
end Go.Proofs.Ytfiandejapgkoaa.P

/- Rows that were cut anywhere, and merged, are these rows again: the plain law. -/
namespace Go.Proofs.Ytfiandejapgkoaa.Pure
open Go.RowKit Go.Proofs.Ytfiandejapgkoaa.P Go.Proofs.YtfiandejapgkoaaW.PrintWords Go.Proofs.YtfiandejapgkoaaW.PrintLast
set_option linter.unusedVariables false
theorem MergeHalves : thresherlaw14_MergeHalves.PureG:=by
 intro x r c hx ⟨hr,hr2⟩ ⟨u0,u1⟩
 replace u0:=u8_of u0
 replace u1:=u8_of u1
 obtain ⟨T,K,M,G,hmade,hS⟩:=made13_ev hx
 have h8:=hS.n8
 have hg : ∀ a ∈ r,∀ v ∈ a,gd31 v:=fun a ha=>(hr2 a ha).2
 have hfo:=fitsR_ok hS r hg
 have hflen:=hfo.len
 obtain ⟨ho,hord⟩:=sorted_ok hfo
 have hfit : Ev (fun k=>thresherref04_Fits.f k T K M G r 60) (fitsR T r):=fits_ev T K M G r 60 (by omega) (by omega)
 have hsort:=sort_ev T K M G (by omega) (fitsR T r) (by omega) hfo.gr
 generalize sortR T K (fitsR T r) []=rows at ho hord hsort
 have hlen:=ho.len
 have hP : Part T K rows:=⟨by have:=ho.len;omega,ho.full,ho.wide,hord⟩
 have hw:=whole_of ho
 obtain ⟨i,e1,hi⟩:=cut_at rows.length (by omega) u0
 have E1:=Aside0.mk e1
 clear e1
 have e3 : wrap64 ((rows.length : Int) - (i : Int))=((rows.length - i : Nat) : Int):=by rw [w64 (by omega) (by omega)];omega
 have E3:=Aside0.mk e3
 clear e3
 obtain ⟨m,e2,hm⟩:=cut_at (rows.length - i) (by omega) u1
 have E2:=Aside0.mk e2
 clear e2
 have e4 : wrap64 ((i : Int) + (m : Int))=((i + m : Nat) : Int):=by rw [w64 (by omega) (by omega)];omega
 have E4:=Aside0.mk e4
 clear e4
 have e5 : ¬ wrap64 ((rows.length : Int) + 1)=0:=by rw [w64 (by omega) (by omega)];omega
 have E5:=Aside0.mk e5
 clear e5
 have e6 : ¬ wrap64 (((rows.length - i : Nat) : Int) + 1)=0:=by rw [w64 (by omega) (by omega)];omega
 have E6:=Aside0.mk e6
 clear e6
 obtain ⟨P,hPP⟩ : ∃ P,P=[rows.take i,(rows.take (i + m)).drop i,[],rows.drop (i + m)]:=⟨_,rfl⟩
 have p1 : P.flatten=rows:=by
  have a1 : rows.take i ++ (rows.take (i + m)).drop i=rows.take (i + m):=by
   have:=List.take_append_drop i (rows.take (i + m))
   rwa [List.take_take,Nat.min_eq_left (by omega)] at this
  rw [hPP]
  simp only [List.flatten_cons,List.flatten_nil,List.append_nil,List.nil_append]
  rw [← List.append_assoc,a1,List.take_append_drop]
 have p2 : ∀ p ∈ P,Part T K p:=by
  intro p hp
  rw [hPP] at hp
  simp only [List.mem_cons,List.not_mem_nil,or_false] at hp
  rcases hp with rfl|rfl|rfl|rfl
  ·exact hP.sub (List.take_sublist _ _)
  ·exact hP.sub ((List.drop_sublist _ _).trans (List.take_sublist _ _))
  ·exact part_nil T K
  ·exact hP.sub (List.drop_sublist _ _)
 have q2 : ∀ p ∈ [rows.take i,rows.drop i],Part T K p:=by
  intro p hp
  simp only [List.mem_cons,List.not_mem_nil,or_false] at hp
  rcases hp with rfl|rfl
  ·exact hP.sub (List.take_sublist _ _)
  ·exact hP.sub (List.drop_sublist _ _)
 have q3 : ∀ p ∈ [rows],Part T K p:=by
  intro p hp
  rw [List.mem_singleton.mp hp]
  exact hP
 have m1:=mrows_ev hS P ⟨by rw [hPP];simp,by rw [p1];omega⟩ p2
 rw [p1,sortR_same hord] at m1
 have m2:=mfold_ev hS [rows.take i,rows.drop i] ⟨by simp,by rw [show [rows.take i,rows.drop i].flatten=rows by simp];omega⟩ q2
 rw [show [rows.take i,rows.drop i].flatten=rows by simp,sortR_same hord] at m2
 have m3:=mfold_ev hS [rows] ⟨by simp,by rw [show [rows].flatten=rows by simp];omega⟩ q3
 rw [show [rows].flatten=rows by simp,sortR_same hord] at m3
 have hal : (foldA T K M rows).length≤1000:=by have:=foldA_length T K M rows;omega
 have haw:=foldA_whole K M hw
 rw [hPP] at m1
 apply Ev.rounds
 simp only [thresherlaw14_MergeHalves.f]
 refine Ev.bind shown13_ev (Ev.bind hmade (Ev.bind hfit (Ev.bind hsort ?_)))
 simp only [E1.out,E3.out,E2.out,E4.out]
 refine Ev.neg E5.out (Ev.neg E6.out (Ev.pos (by omega) (Ev.pos (by omega) (Ev.pos (by omega) (Ev.pos (by omega) (Ev.pos (by omega) ?_))))))
 simp only [Int.toNat_natCast]
 refine Ev.bind m1 (Ev.bind (rows_ev _ _ (by omega) (fun q h=>by rw [(hw q h).len];omega)) (Ev.bind m2 (Ev.bind m3 (Ev.bind (rows_ev _ _ (by omega) (fun q h=>by rw [(haw q h).len];omega)) ?_))))
 simp only [decide_true]
 refine Ev.pos trivial (Ev.pos trivial (Ev.succ ?_))
 simp only [thresherlaw14_MergeHalves.j0]
 exact Ev.now _
end Go.Proofs.Ytfiandejapgkoaa.Pure

namespace Go.Proofs.Ytfiandejapgkoaa.mergeHalves
open Go.ChangeShapes Go.WideShapes Go.ChangeAt Go.RowKit Go.Proofs.Ytfiandejapgkoaa.P Go.Proofs.YtfiandejapgkoaaW.PrintWords
set_option linter.unusedVariables false
set_option linter.unusedSimpArgs false
theorem own : ownKnob Try.prog.godebug=none:=by kernel_rfl
theorem laidOut : laidOutB Try.prog=true:=by kernel_rfl
set_option maxRecDepth 100000 in
theorem lifted (os : Os) (started : os.Started) (H : Type) (enc : TypeId × Value→H) :
  ReturnsInHanded {} Try.checked os 7 .any (Rows.mergeHalvesSpec.pre6 enc Try.prog Try.f7 Rows.mergeHalvesRow.domain false) (Rows.mergeHalvesSpec.post enc Try.prog Try.f7 false true false false):=by
 refine returnsInHanded_of_change_sized (C:=Try.checked) own started (by kernel_rfl) Try.func7
  (ChangeSpec.witness6 (enc:=enc) (C:=Try.checked) false ⟨#[],#[.agg #[.int .u8 0,.int .u8 0,.int .u8 0,.int .u8 0,.int .u8 0,.int .u8 0,.int .u8 0,.int .u8 0,.int .u8 0,.int .u8 0,.int .u8 0,.int .u8 0],.slice none 0 0,.agg #[.int .u8 0,.int .u8 0]],[]⟩ 8 (by kernel_rfl) (by kernel_rfl) (by kernel_rfl) (by kernel_rfl)) ?_
 intro W base args ds gs before hval0 hW hcnd hsz0 _
 have hval : ∀ (j : Nat) t v,Try.f7.params[j]?=some t→args[j]?=some v→Value.okWide Try.prog W .any base t v:=hval0
 have hW':=hW
 obtain ⟨p,q,hA0,hV,rfl,hfz,hnd⟩:=hW
 have hA : DataW.TrodAll enc Try.prog W 0 (fun _=>true) true Try.f7.params.toList args.toList ds p:=hA0
 rw [Try.params7] at hA hval
 obtain ⟨v0,vs0,d0,ds0,p0,q0,hargs,rfl,rfl,h0,r0⟩:=trodAll_cons hA
 obtain ⟨v1,vs1,d1,ds1,p1,q1,rfl,rfl,rfl,h1,r1⟩:=trodAll_cons r0
 obtain ⟨v2,vs2,d2,ds2,p2,q2,rfl,rfl,rfl,h2,r2⟩:=trodAll_cons r1
 obtain ⟨rfl,rfl,rfl⟩:=trodAll_nil r2
 obtain rfl : args=#[v0,v1,v2]:=by cases args;simp_all
 obtain ⟨rfl,rfl⟩:=trodVars_none hV
 have lt0 : ∀ x ∈ p0,x.block < W.heap.size:=by obtain ⟨m,hm⟩:=h0;exact DataW.trod_lt m _ _ _ hm
 obtain ⟨x0,K0,g0⟩:=(op38).arg h0
 obtain ⟨cs0,rfl⟩:=okWide_agg Try.underlying38 (hval 0 38 v0 rfl rfl)
 have e0:=k38_open K0
 replace e0:=agg_of e0
 have lt1 : ∀ x ∈ p1,x.block < W.heap.size:=by obtain ⟨m,hm⟩:=h1;exact DataW.trod_lt m _ _ _ hm
 obtain ⟨x1,K1,g1⟩:=((opens_slice Try.underlying28 (by kernel_rfl) (opens_slice Try.underlying33 (by kernel_rfl) op31))).arg h1
 obtain ⟨a1,len1,cap1,rfl⟩:=okWide_slice Try.underlying28 (hval 1 28 v1 rfl rfl)
 obtain ⟨A1,c1,e1,hl1,hr1⟩:=K1
 simp [Value.cells] at e1
 obtain ⟨rfl,rfl,rfl⟩:=e1
 have lt2 : ∀ x ∈ p2,x.block < W.heap.size:=by obtain ⟨m,hm⟩:=h2;exact DataW.trod_lt m _ _ _ hm
 obtain ⟨x2,K2,g2⟩:=(op43).arg h2
 obtain ⟨cs2,rfl⟩:=okWide_aggA Try.underlying43 (hval 2 43 v2 rfl rfl)
 have e2:=k43_open K2
 replace e2:=agg_of e2
 obtain ⟨k,hk⟩:=Pure.MergeHalves x0 x1 x2 g0 g1 g2
 have call : Calls Try.prog 7 #[.agg cs0,.slice a1 x1.length cap1,.agg cs2] W fun e W'=>e=.returned (.bool true)∧Below W.heap.size W W':=by
  rw [e0,e2]
  refine (thresherlaw14_MergeHalves.calls k _ _ _ _ _ _ _ _ _ _ _ _ _ _ _ _ _ true W hr1 hl1 hk).mono ?_
  rintro e w' ⟨rfl,hd⟩
  exact ⟨rfl,hd⟩
 refine call.mono fun e W' ⟨he,bel⟩=>?_
 subst he
 exact ⟨_,rfl,_,_,_,[],_,[],hW',trodAll_mk1 (shut_bool Try.underlying4 _),(trodAll_cons_mk (Below.trod laidOut (by kernel_rfl) (of_decide_eq_true (by kernel_rfl)) h0 bel lt0) (trodAll_cons_mk (Below.trod laidOut (by kernel_rfl) (of_decide_eq_true (by kernel_rfl)) h1 bel lt1) (trodAll_cons_mk (Below.trod laidOut (by kernel_rfl) (of_decide_eq_true (by kernel_rfl)) h2 bel lt2) trodAll_mk0))),rfl,bel.frame _,fun h=>by cases h⟩
theorem over : Rows.mergeHalvesRow.holds Try.pinned (OpenSpec.ofChange Rows.mergeHalvesSpec) :=
 OpenClaim.holds_of_wide 7 Try.f7 rfl rfl rfl rfl rfl rfl rfl ⟨rfl,rfl,rfl,rfl,rfl⟩ rfl rfl rfl rfl rfl (by kernel_rfl) Try.func7 (by kernel_rfl)
  (of_decide_eq_true (by kernel_rfl)) (by unfold Func.isWrapper;first|(rw [if_pos (by decide +kernel)];kernel_rfl)|(rw [if_neg (by decide +kernel)];exact ⟨rfl,rfl⟩))
  (fun os started H enc _=>lifted os started H enc)
theorem proved : Rows.MergeHalvesSaid:=over
#print axioms proved
end Go.Proofs.Ytfiandejapgkoaa.mergeHalves
namespace Go.Proofs.Ytfiandejapgkoaa
theorem mergeHalves_holds : Rows.MergeHalvesSaid:=mergeHalves.proved
end Go.Proofs.Ytfiandejapgkoaa

