/- The row of MergeCounts. Merged: SMergeCounts, XFrows, XMergeIn, XMergeSub, PureMergeCounts, RMergeCounts. -/
import Derived.Test.YtfiandejapgkoaaQMergeCountsPx20
import Derived.Test.YtfiandejapgkoaaQMergeCountsO
import Derived.Test.YtfiandejapgkoaaQMergeCountsPx13
import Derived.Test.YtfiandejapgkoaaQMergeCountsPx3
import Derived.Test.YtfiandejapgkoaaQMergeCountsPx5
import Derived.Test.YtfiandejapgkoaaMMergeCounts1
import Derived.Test.YtfiandejapgkoaaMMergeCounts0
import Derived.Test.YtfiandejapgkoaaQMergeCountsPx10
import Derived.Test.YtfiandejapgkoaaQMergeCountsPx14
import Derived.Test.YtfiandejapgkoaaRows
import Derived.WalkKit
import Derived.ProofKit
import Derived.OpenShut
import Derived.ShutString
import Derived.ChangeOld
import Derived.Below
import Derived.SizedLaws
namespace Go.Proofs.Ytfiandejapgkoaa.P
open Go.RowKit Go.Proofs.YtfiandejapgkoaaW.PrintWords
def thresherlaw14_MergeCounts.PureG : Prop:=∀ (x0 : S38) (x1 : List (List (List (S31)))),gd38 x0→(x1.length≤maxLen∧∀ a ∈ x1,(a.length≤maxLen∧∀ aa ∈ a,(aa.length≤maxLen∧∀ aaa ∈ aa,gd31 aaa)))→∃ k,thresherlaw14_MergeCounts.f k x0.f0.f0 x0.f0.f1 x0.f0.f2 x0.f0.f3 x0.f0.f4 x0.f0.f5 x0.f0.f6 x0.f0.f7 x0.f1 x0.f2 x0.f3 x0.f4 x1=some true
end Go.Proofs.Ytfiandejapgkoaa.P

/- fold.Rows and fold.One: what they compute. -/
namespace Go.Proofs.Ytfiandejapgkoaa.P
open Go.RowKit Go.Proofs.YtfiandejapgkoaaW.PrintWords Go.Proofs.YtfiandejapgkoaaW.PrintLast
set_option linter.unusedVariables false
set_option linter.unusedSectionVars false
theorem shown13_ev : Ev (fun k=>thresherlaw14_shown.f k) true:=Ev.of thresherlaw14_shown.mono (k:=12) (by kernel_rfl)
theorem made13_ev {x : S38} (h : gd38 x) : ∃ T K M G,Ev (fun k=>thresherlaw14_made.f k x.f0.f0 x.f0.f1 x.f0.f2 x.f0.f3 x.f0.f4 x.f0.f5 x.f0.f6 x.f0.f7 x.f1 x.f2 x.f3 x.f4) (T,K,M,G)∧Sch T K M G:=by
 obtain ⟨T,K,M,G,h1,h2⟩:=shape_ev h
 exact ⟨T,K,M,G,Ev.bind h1 (Ev.now _),h2⟩
theorem vadd_j (t : Int) (a b : XV) (p : Bool) (hp : p=!(fitT t a && fitT t b)) : Ev (fun k=>value_Add.j0 k t p a.f0 a.f1 b.f0 b.f1) ((addV t a b).f0,(addV t a b).f1):=by
 refine Ev.succ ?_
 simp only [value_Add.j0]
 unfold addV
 by_cases h : fitT t a=true∧fitT t b=true
 ·rw [if_pos h]
  refine Ev.neg (by rw [hp,h.1,h.2];simp) ?_
  by_cases h3 : t=3
  ·exact (Ev.pos h3 (Ev.now _)).eq (by simp only [if_pos h3])
  ·exact (Ev.neg h3 (Ev.now _)).eq (by simp only [if_neg h3])
 ·rw [if_neg h]
  refine Ev.pos ?_ (Ev.now _)
  rw [hp]
  by_cases h1 : fitT t a=true
  ·have h2 : fitT t b=false:=by
    cases q : fitT t b with
    | false=>rfl
    | true=>exact absurd ⟨h1,q⟩ h
   rw [h1,h2];rfl
  ·rw [Bool.eq_false_iff.mpr h1];rfl
theorem vadd_ev (t : Int) (a b : XV) : Ev (fun k=>value_Add.f k t a.f0 a.f1 b.f0 b.f1) ((addV t a b).f0,(addV t a b).f1):=by
 simp only [value_Add.f]
 refine Ev.bind (vfits_ev t a.f0 a.f1) ?_
 by_cases h1 : fitT t a=true
 ·refine Ev.pos h1 (Ev.bind (vfits_ev t b.f0 b.f1) (vadd_j t a b _ ?_))
  rw [h1,Bool.true_and]
 ·refine Ev.neg h1 (vadd_j t a b true ?_)
  rw [Bool.eq_false_iff.mpr h1];rfl
theorem foldJ_ev (K M t : Int) (i : Nat) (x y : XV) : Ev (fun k=>foldJ k K M t i x y) (jnV K M t i x y):=by
 unfold foldJ jnV
 by_cases h : M=3∧¬ (i : Int) < K
 ·simp only [if_pos h]
  exact Ev.bind (vadd_ev t x y) (Ev.now _)
 ·simp only [if_neg h]
  exact Ev.now _
theorem oneR_get (T : List Int) (K M : Int) (a b : List XV) (i : Nat) (hi : i < T.length) : (oneR T K M a b).drop i=jnV K M (rd T (i : Int)) i (rdV a (i : Int)) (rdV b (i : Int)) :: (oneR T K M a b).drop (i + 1):=by
 rw [List.drop_eq_getElem_cons (by rw [oneR_length];exact hi)]
 congr 1
 simp [oneR]
theorem foldGo_ev (T : List Int) (K M : Int) (a b : List XV) (ha : a.length=T.length) (hb : b.length=T.length) : ∀ (d i : Nat),i + d=T.length→Ev (fun k=>foldGo k K M i (T.drop i) (a.drop i) (b.drop i)) ((oneR T K M a b).drop i)
 | 0,i,hi=>by
  rw [List.drop_of_length_le (by omega : T.length≤i),List.drop_of_length_le (by omega : a.length≤i),List.drop_of_length_le (by omega : b.length≤i),List.drop_of_length_le (by rw [oneR_length];omega)]
  exact Ev.now _
 | d + 1,i,hi=>by
  have h : i < T.length:=by omega
  rw [oneR_get T K M a b i h,List.drop_eq_getElem_cons h,List.drop_eq_getElem_cons (by omega : i < a.length),List.drop_eq_getElem_cons (by omega : i < b.length)]
  simp only [foldGo]
  have e0 : rd T (i : Int)=T[i]:=rd_lt T i h
  have e1 : rdV a (i : Int)=a[i]:=rdV_lt a i (by omega)
  have e2 : rdV b (i : Int)=b[i]:=rdV_lt b i (by omega)
  rw [e0,e1,e2]
  exact Ev.bind (foldJ_ev _ _ _ _ _ _) (Ev.bind (foldGo_ev T K M a b ha hb d (i + 1) (by omega)) (Ev.now _))
theorem fone_ev {T : List Int} {K M G : Int} (hS : Sch T K M G) {a b : List XV} (ha : a.length=T.length) (hb : b.length=T.length) : Ev (fun k=>fold_One.f k T K M G a b) (oneR T K M a b):=by
 unfold fold_One.f
 have:=hS.n8
 refine Ev.pos ⟨by omega,hS.m1,hS.m3,hb⟩ ?_
 have:=foldGo_ev T K M a b ha hb T.length 0 (by omega)
 simpa only [List.drop_zero] using this
section
variable {T : List Int} {K M G : Int} (hS : Sch T K M G) (l : List (List XV)) (hl : l.length≤1000) (hw : ∀ r ∈ l,Whole T r)
include hS hl hw
theorem set_last (pre : List (List XV)) (p z : List XV) : (pre ++ [p]).set pre.length z=pre ++ [z]:=by
 rw [List.set_append,if_neg (by omega),Nat.sub_self,List.set_cons_zero]
theorem rdR_last (pre : List (List XV)) (p : List XV) : rdR (pre ++ [p]) (pre.length : Nat)=p:=by
 rw [show rdR (pre ++ [p]) (pre.length : Nat)=_ from rdR_lt (pre ++ [p]) pre.length (by simp)]
 simp
theorem frows_loop : ∀ (d i : Nat) (pre : List (List XV)) (p : List XV),i + d=l.length→pre.length < i→Whole T p→Ev (fun k=>fold_Rows.l0 k (pre ++ [p]) l (l.length : Int) i T K M G) (pre ++ foldL T K M p (l.drop i))
 | 0,i,pre,p,hi,hp,hwp=>by
  refine Ev.succ ?_
  simp only [fold_Rows.l0]
  rw [List.drop_of_length_le (by omega)]
  exact Ev.neg (by omega) (Ev.now _)
 | d + 1,i,pre,p,hi,hp,hwp=>by
  have h : i < l.length:=by omega
  have h8:=hS.n8
  have hx:=hw _ (List.getElem_mem h)
  refine Ev.succ ?_
  simp only [fold_Rows.l0]
  have e : wrap64 (((pre ++ [p]).length : Int) - 1)=(pre.length : Int):=by
   rw [List.length_append,List.length_singleton,w64 (by omega) (by omega)]
   omega
  rw [e,show wrap64 ((i : Int) + 1)=(i : Int) + 1 from w64 (by omega) (by omega),rdR_lt l i h,show rd_L3 (pre ++ [p]) (pre.length : Int)=p from rdR_last hS l hl hw pre p,Int.toNat_natCast]
  clear e
  have hpl : ((pre ++ [p]).length : Int)=pre.length + 1:=by rw [List.length_append];rfl
  rw [List.drop_eq_getElem_cons h]
  refine Ev.pos (by omega) (Ev.pos (by omega) (Ev.pos (by omega) (Ev.pos (by omega) (Ev.pos (by omega) (Ev.pos (by omega) (Ev.bind (scmp_ev T K M G p l[i] (by omega)) ?_))))))
  have e2 : foldL T K M p (l[i] :: l.drop (i + 1))=if cmpRow T K p l[i]=0 then foldL T K M (oneR T K M p l[i]) (l.drop (i + 1)) else p :: foldL T K M l[i] (l.drop (i + 1)):=rfl
  rw [e2]
  by_cases hc : cmpRow T K p l[i]=0
  ·rw [if_pos hc]
   refine Ev.pos hc (Ev.bind (fone_ev hS hwp.len hx.len) ?_)
   rw [set_last hS l hl hw]
   exact frows_loop d (i + 1) pre _ (by omega) (by omega) (one_whole K M hwp hx)
  ·rw [if_neg hc]
   refine Ev.neg hc (Ev.pos (by omega) ?_)
   have:=frows_loop d (i + 1) (pre ++ [p]) l[i] (by omega) (by rw [List.length_append,List.length_singleton];omega) hx
   exact this.eq (by rw [List.append_assoc];rfl)
def foldA (T : List Int) (K M : Int) (l : List (List XV)) : List (List XV):=if M=1 then l else foldR T K M l
theorem frows_ev : Ev (fun k=>fold_Rows.f k T K M G l) (foldA T K M l):=by
 simp only [fold_Rows.f]
 unfold foldA
 by_cases hM : M=1
 ·rw [if_pos hM]
  refine Ev.pos hM (Ev.bindc (a:=l) ?_ (Ev.now _))
  simp only [api_Row.f,Option.bind_some,List.length_nil,List.nil_append]
  rw [if_pos (by omega)]
 ·rw [if_neg hM]
  refine Ev.neg hM ?_
  cases hc : l with
  | nil =>
   refine Ev.succ ?_
   simp only [fold_Rows.l0]
   exact Ev.neg (by simp) (Ev.now _)
  | cons x xs =>
   have h : 0 < l.length:=by rw [hc];simp
   have h8:=hS.n8
   have e0 : rdR l (0 : Int)=x:=by
    have:=rdR_lt l 0 h
    rw [show rdR l (0 : Int)=_ from this]
    simp [hc]
   have:=frows_loop hS l hl hw (l.length - 1) 1 [] x (by omega) (by simp) (hw x (by rw [hc];exact List.mem_cons_self))
   rw [← hc]
   refine Ev.succ ?_
   simp only [fold_Rows.l0]
   rw [show wrap64 ((([] : List (List XV)).length : Int) - 1)=-1 from w64 (by simp) (by simp),show wrap64 ((0 : Int) + 1)=1 from w64 (by omega) (by omega)]
   rw [show rd_L3 l (0 : Int)=x from e0]
   refine Ev.pos (by omega) (Ev.pos (by omega) (Ev.pos (by omega) (Ev.neg (by omega) (Ev.pos (by simp) ?_))))
   rw [List.nil_append,hc] at this ⊢
   exact this
end
theorem foldA_length (T : List Int) (K M : Int) (l : List (List XV)) : (foldA T K M l).length≤l.length:=by
 unfold foldA
 split
 ·exact Nat.le_refl _
 ·exact foldR_length T K M l
end Go.Proofs.Ytfiandejapgkoaa.P

/- The parts that chapter 14's laws speak of; the document's Rows and Folded. -/
namespace Go.Proofs.Ytfiandejapgkoaa.P
open Go.RowKit Go.Proofs.YtfiandejapgkoaaW.PrintWords Go.Proofs.YtfiandejapgkoaaW.PrintLast
set_option linter.unusedVariables false
set_option linter.unusedSectionVars false
theorem rdP_lt (l : List (List (List XV))) (i : Nat) (h : i < l.length) : rd_L4 l i=l[i]:=by unfold rd_L4;simp [List.getD,h]
def partR (T : List Int) (K : Int) (r : List (List XV)) : List (List XV):=sortR T K ((r.take 20).map (fitRow T)) []
def partsR (T : List Int) (K : Int) (l : List (List (List XV))) : List (List (List XV)):=(l.take 8).map (partR T K)
structure Part (T : List Int) (K : Int) (p : List (List XV)) : Prop where
 len : p.length≤1000
 full : ∀ r ∈ p,Full T K r
 wide : ∀ r ∈ p,r.length=T.length
 ord : InOrd T K p
section
variable {T : List Int} {K M G : Int} (hS : Sch T K M G)
include hS
theorem fits20 (r : List (List XV)) (hr : ∀ a ∈ r,∀ v ∈ a,gd31 v) : Rows60 T K ((r.take 20).map (fitRow T))∧((r.take 20).map (fitRow T)).length≤20:=by
 have h20 : ((r.take 20).map (fitRow T)).length≤20:=by rw [List.length_map,List.length_take];omega
 refine ⟨⟨by omega,fun q hq=>?_,fun q hq=>?_⟩,h20⟩
 ·obtain ⟨a,ha,rfl⟩:=List.mem_map.mp hq
  exact fitRow_full hS a (GR_gd (hr a (List.mem_of_mem_take ha)))
 ·obtain ⟨a,ha,rfl⟩:=List.mem_map.mp hq
  exact fitRow_length T a
theorem partR_ok (r : List (List XV)) (hr : ∀ a ∈ r,∀ v ∈ a,gd31 v) : Part T K (partR T K r)∧(partR T K r).length≤20:=by
 obtain ⟨h1,h2⟩:=fits20 hS r hr
 obtain ⟨h3,h4⟩:=sorted_ok h1
 obtain ⟨_,a2,_⟩:=sortR_all T K ((r.take 20).map (fitRow T)) [] h1.full (by simp) List.Pairwise.nil
 exact ⟨⟨by have:=h3.len;unfold partR;omega,h3.full,h3.wide,h4⟩,by unfold partR;rw [a2];simp only [List.length_nil];omega⟩
theorem parts_loop (l : List (List (List XV))) (hl : ∀ r ∈ l,∀ a ∈ r,∀ v ∈ a,gd31 v) : ∀ (d i : Nat),i + d=min l.length 8→Ev (fun k=>thresherlaw14_parts.l0 k l ((l.take i).map (partR T K)) i T K M G) (partsR T K l)
 | 0,i,hi=>by
  have e : (l.take i).map (partR T K)=partsR T K l:=by
   unfold partsR
   by_cases h : l.length≤8
   ·rw [List.take_of_length_le (by omega),List.take_of_length_le h]
   ·rw [show i=8 by omega]
  refine Ev.succ ?_
  simp only [thresherlaw14_parts.l0]
  rw [e]
  by_cases h : (i : Int) < (l.length : Int)
  ·refine Ev.pos h ?_
   rw [decide_eq_false (show ¬ ((i : Int) < 8) by omega)]
   refine Ev.succ ?_
   simp only [thresherlaw14_parts.j1]
   exact Ev.neg (by simp) (Ev.now _)
  ·refine Ev.neg h ?_
   refine Ev.succ ?_
   simp only [thresherlaw14_parts.j1]
   exact Ev.neg (by simp) (Ev.now _)
 | d + 1,i,hi=>by
  have h : i < l.length:=by omega
  have h8:=hS.n8
  refine Ev.succ ?_
  simp only [thresherlaw14_parts.l0]
  refine Ev.pos (by omega) ?_
  rw [decide_eq_true (show ((i : Int) < 8) by omega)]
  refine Ev.succ ?_
  simp only [thresherlaw14_parts.j1]
  rw [show wrap64 ((i : Int) + 1)=((i + 1 : Nat) : Int) by rw [w64 (by omega) (by omega)];omega,rdP_lt l i h]
  have hr:=hl _ (List.getElem_mem h)
  obtain ⟨h1,h2⟩:=fits20 hS l[i] hr
  refine Ev.pos trivial (Ev.pos (by omega) (Ev.pos (by omega) (Ev.bind (fits_ev T K M G l[i] 20 (by omega) (by omega)) (Ev.bind (sort_ev T K M G (by omega) _ (by omega) h1.gr) (Ev.pos (by rw [List.length_map,List.length_take];omega) ?_)))))
  have:=parts_loop l hl d (i + 1) (by omega)
  rw [List.take_succ_eq_append_getElem h,List.map_append] at this
  exact this
theorem parts_ev (l : List (List (List XV))) (hl : ∀ r ∈ l,∀ a ∈ r,∀ v ∈ a,gd31 v) : Ev (fun k=>thresherlaw14_parts.f k T K M G l) (partsR T K l):=by
 simp only [thresherlaw14_parts.f]
 exact parts_loop hS l hl (min l.length 8) 0 (by omega)
theorem partsR_ok (l : List (List (List XV))) (hl : ∀ r ∈ l,∀ a ∈ r,∀ v ∈ a,gd31 v) : (partsR T K l).length≤8∧∀ p ∈ partsR T K l,Part T K p∧p.length≤20:=by
 refine ⟨by unfold partsR;rw [List.length_map,List.length_take];omega,fun p hp=>?_⟩
 obtain ⟨r,hr,rfl⟩:=List.mem_map.mp hp
 exact partR_ok hS r (hl r (List.mem_of_mem_take hr))
end
theorem flat_len {l : List (List (List XV))} {n : Nat} : (∀ p ∈ l,p.length≤n)→l.flatten.length≤l.length * n:=by
 induction l with
 | nil=>intro _;simp
 | cons p l ih =>
  intro h
  rw [List.flatten_cons,List.length_append,List.length_cons,Nat.succ_mul]
  have h1:=h p (by simp)
  have h2:=ih (fun q hq=>h q (by simp [hq]))
  omega
theorem parts_le {l : List (List (List XV))} {n : Nat} (hl : l.length≤n) (hp : ∀ p ∈ l,p.length≤20) (hn : n≤8) : l.length≤16∧l.flatten.length≤1000:=by
 have:=flat_len hp
 have:=Nat.mul_le_mul_right 20 hl
 omega
section
variable {T : List Int} {K M G : Int} (hS : Sch T K M G) (l : List (List (List XV))) (hl : l.length≤16∧l.flatten.length≤1000) (hp : ∀ p ∈ l,Part T K p)
include hS hl hp
theorem flat_le : l.flatten.length≤1000:=hl.2
theorem flat_full : ∀ r ∈ l.flatten,Full T K r:=fun r hr=>by
 obtain ⟨p,h1,h2⟩:=List.mem_flatten.mp hr
 exact (hp p h1).full r h2
theorem flat_wide : ∀ r ∈ l.flatten,r.length=T.length:=fun r hr=>by
 obtain ⟨p,h1,h2⟩:=List.mem_flatten.mp hr
 exact (hp p h1).wide r h2
theorem mrows_ev : Ev (fun k=>merge_Rows.f k T K M G l) (sortR T K l.flatten []):=by
 have h8:=hS.n8
 exact merge_ev T K l M G (by omega) (by have:=hl.1;omega) (by have:=flat_le hS l hl hp;omega) (fun p h=>(hp p h).full) (fun p h=>(hp p h).ord)
theorem merged : (sortR T K l.flatten []).length=l.flatten.length∧(∀ r ∈ sortR T K l.flatten [],Full T K r)∧(∀ r ∈ sortR T K l.flatten [],Whole T r)∧InOrd T K (sortR T K l.flatten []):=by
 obtain ⟨a1,a2,a3⟩:=sortR_all T K l.flatten [] (flat_full hS l hl hp) (by simp) List.Pairwise.nil
 have hm : ∀ r ∈ sortR T K l.flatten [],r ∈ l.flatten:=fun r hr=>by
  rcases (a3 r).mp hr with q|q
  ·exact q
  ·exact absurd q (by simp)
 exact ⟨by rw [a2];simp,fun r hr=>flat_full hS l hl hp r (hm r hr),fun r hr=>⟨flat_wide hS l hl hp r (hm r hr),(flat_full hS l hl hp r (hm r hr)).ok⟩,a1⟩
theorem mfold_ev : Ev (fun k=>merge_Folded.f k T K M G l) (foldA T K M (sortR T K l.flatten [])):=by
 obtain ⟨h1,h2,h3,h4⟩:=merged hS l hl hp
 have h5:=flat_le hS l hl hp
 simp only [merge_Folded.f]
 exact Ev.bind (mrows_ev hS l hl hp) (Ev.bind (frows_ev hS _ (by omega) h3) (Ev.now _))
theorem flat_take (i : Nat) : (l.take i).flatten.length≤1000:=by
 have h : (l.take i).flatten.length≤l.flatten.length:=by
  conv=>rhs;rw [← List.take_append_drop i l,List.flatten_append,List.length_append]
  omega
 have:=flat_le hS l hl hp
 omega
end
end Go.Proofs.Ytfiandejapgkoaa.P

/- Parts cut, and rows that are in order already. -/
namespace Go.Proofs.Ytfiandejapgkoaa.P
open Go.RowKit Go.Proofs.YtfiandejapgkoaaW.PrintWords Go.Proofs.YtfiandejapgkoaaW.PrintLast
set_option linter.unusedVariables false
theorem insR_end (T : List Int) (K : Int) (x : List XV) : ∀ l,(∀ y ∈ l,cmpRow T K y x≤0)→insR T K x l=l ++ [x]
 | [],_=>rfl
 | y :: l,h=>by
  rw [insR_cons,if_neg (by have:=h y (by simp);omega),insR_end T K x l (fun z hz=>h z (by simp [hz]))]
  rfl
theorem sortR_sorted (T : List Int) (K : Int) : ∀ (l acc : List (List XV)),InOrd T K (acc ++ l)→sortR T K l acc=acc ++ l
 | [],acc,_=>by rw [List.append_nil];rfl
 | x :: l,acc,h=>by
  show sortR T K l (insR T K x acc)=_
  have h2:=(List.pairwise_append.mp h).2.2
  rw [insR_end T K x acc (fun y hy=>h2 y hy x (by simp)),sortR_sorted T K l _ (by rw [List.append_assoc];exact h),List.append_assoc]
  rfl
theorem sortR_same {T : List Int} {K : Int} {l : List (List XV)} (h : InOrd T K l) : sortR T K l []=l:=sortR_sorted T K l [] h
theorem part_nil (T : List Int) (K : Int) : Part T K []:=⟨by simp,fun r hr=>absurd hr (by simp),fun r hr=>absurd hr (by simp),List.Pairwise.nil⟩
end Go.Proofs.Ytfiandejapgkoaa.P

/- Merged rows are as many as there were, in order; that of one part they are its rows; and what is handed in stays: the plain law. -/
namespace Go.Proofs.Ytfiandejapgkoaa.Pure
open Go.RowKit Go.Proofs.Ytfiandejapgkoaa.P Go.Proofs.YtfiandejapgkoaaW.PrintWords Go.Proofs.YtfiandejapgkoaaW.PrintLast
set_option linter.unusedVariables false
set_option linter.unusedSectionVars false
section
variable {T : List Int} {K M G : Int} (hS : Sch T K M G)
include hS
theorem sorted_loop (a : List (List XV)) (ha : a.length≤1000) (hg : ∀ r ∈ a,GR r) (ho : InOrd T K a) : ∀ (d i : Nat),1≤i→(i + d=a.length ∨ d=0∧a.length≤i)→i≤2000→Ev (fun k=>thresherref09_Sorted.l0 k a i T K M G) true
 | 0,i,h1,hd,hi=>by
  refine Ev.succ ?_
  simp only [thresherref09_Sorted.l0]
  exact Ev.neg (by omega) (Ev.now _)
 | d + 1,i,h1,hd,hi=>by
  have h8:=hS.n8
  have h : i < a.length:=by omega
  have h' : i - 1 < a.length:=by omega
  have hle:=ho.at (i:=i - 1) (j:=i) (by omega) h
  rw [show rdR a ((i - 1 : Nat) : Int)=a[i - 1] from rdR_lt _ _ h',show rdR a (i : Int)=a[i] from rdR_lt _ _ h] at hle
  refine Ev.succ ?_
  simp only [thresherref09_Sorted.l0]
  rw [show wrap64 ((i : Int) - 1)=((i - 1 : Nat) : Int) by rw [w64 (by omega) (by omega)];omega,show wrap64 ((i : Int) + 1)=((i + 1 : Nat) : Int) by rw [w64 (by omega) (by omega)];omega,rdR_lt a i h,rdR_lt a (i - 1) h']
  refine Ev.pos (by omega) (Ev.pos (by omega) (Ev.pos (by omega) (Ev.pos (by omega) (Ev.bind (rowcmp_ev T K M G _ _ (hg _ (List.getElem_mem h')) (hg _ (List.getElem_mem h)) (by omega)) (Ev.neg (by omega) ?_)))))
  exact sorted_loop a ha hg ho d (i + 1) (by omega) (by omega) (by omega)
theorem sorted_ev (a : List (List XV)) (ha : a.length≤1000) (hg : ∀ r ∈ a,GR r) (ho : InOrd T K a) : Ev (fun k=>thresherref09_Sorted.f k T K M G a) true:=by
 simp only [thresherref09_Sorted.f]
 by_cases h : 1≤a.length
 ·exact sorted_loop hS a ha hg ho (a.length - 1) 1 (by omega) (by omega) (by omega)
 ·exact sorted_loop hS a ha hg ho 0 1 (by omega) (by omega) (by omega)
variable (p : List (List (List XV))) (hl : p.length≤8∧p.flatten.length≤1000) (hp : ∀ q ∈ p,Part T K q)
include hl hp
theorem l1_loop (a : List (List XV)) (ha : a=sortR T K p.flatten []) : ∀ (d i : Nat),i + d=p.length→Ev (fun k=>thresherlaw14_MergeCounts.l1 k true p (p.flatten.length : Nat) p a i T K M G) true
 | 0,i,hi=>by
  obtain ⟨m1,m2,m3,m4⟩:=merged hS p ⟨by omega,hl.2⟩ hp
  have hf:=hl.2
  have e1:=mrows_ev hS [] ⟨by simp,by simp⟩ (fun q hq=>absurd hq (by simp))
  have e2:=mfold_ev hS [[],[]] ⟨by simp,by simp⟩ (fun q hq=>by
   have : q=[]:=by simpa using hq
   rw [this];exact part_nil T K)
  refine Ev.succ ?_
  simp only [thresherlaw14_MergeCounts.l1]
  rw [ha]
  refine Ev.neg (by omega) (Ev.bind (sorted_ev hS _ (by omega) (fun r hr=>(m2 r hr).ok.gr) m4) (Ev.pos trivial (Ev.pos (by omega) (Ev.pos rfl (Ev.bind e1 (Ev.pos rfl (Ev.bind e2 (Ev.succ ?_))))))))
  simp only [thresherlaw14_MergeCounts.j2]
  refine (Ev.now _).eq ?_
  have h0:=foldA_length T K M (sortR T K ([[],[]] : List (List (List XV))).flatten [])
  have h1 : (sortR T K ([[],[]] : List (List (List XV))).flatten []).length=0:=rfl
  rw [h1] at h0
  rw [show (foldA T K M (sortR T K ([[],[]] : List (List (List XV))).flatten [])).length=0 by omega]
  rfl
 | d + 1,i,hi=>by
  have h : i < p.length:=by omega
  have hq:=hp _ (List.getElem_mem h)
  have hlen:=hq.len
  have h8:=hS.n8
  have hwide:=hq.wide
  have e0 : (p.take (i + 1)).drop i=[p[i]]:=by
   rw [List.take_succ_eq_append_getElem h,List.drop_append_of_le_length (by rw [List.length_take];omega),List.drop_of_length_le (by rw [List.length_take];omega)]
   rfl
  have e1:=mrows_ev hS [p[i]] ⟨by simp,by rw [show [p[i]].flatten=p[i] by simp];omega⟩ (fun q hq'=>by rw [List.mem_singleton.mp hq'];exact hq)
  rw [show [p[i]].flatten=p[i] by simp,sortR_same hq.ord] at e1
  refine Ev.succ ?_
  simp only [thresherlaw14_MergeCounts.l1]
  rw [show wrap64 ((i : Int) + 1)=((i + 1 : Nat) : Int) by rw [w64 (by omega) (by omega)];omega,rdP_lt p i h]
  simp only [Int.toNat_natCast,e0]
  refine Ev.pos (by omega) (Ev.pos (by omega) (Ev.pos (by omega) (Ev.bind (rows_ev _ _ (by omega) (fun r hr=>by rw [hwide r hr];omega)) (Ev.pos (by omega) (Ev.pos (by omega) (Ev.bind e1 (Ev.bind (rows_ev _ _ (by omega) (fun r hr=>by rw [hwide r hr];omega)) ?_)))))))
  simp only [decide_true]
  exact Ev.pos trivial (Ev.pos trivial (l1_loop a ha d (i + 1) (by omega)))
theorem l0_loop : ∀ (d i : Nat),i + d=p.length→Ev (fun k=>thresherlaw14_MergeCounts.l0 k true p ((p.take i).flatten.length : Nat) (p.take i) i T K M G) true
 | 0,i,hi=>by
  refine Ev.succ ?_
  simp only [thresherlaw14_MergeCounts.l0]
  rw [List.take_of_length_le (by omega)]
  exact Ev.neg (by omega) (Ev.bind (mrows_ev hS p ⟨by omega,hl.2⟩ hp) (l1_loop hS p hl hp _ rfl p.length 0 (by omega)))
 | d + 1,i,hi=>by
  have h : i < p.length:=by omega
  have hlen:=(hp _ (List.getElem_mem h)).len
  have hfl:=flat_take hS p ⟨by omega,hl.2⟩ hp i
  refine Ev.succ ?_
  simp only [thresherlaw14_MergeCounts.l0,Option.bind_some]
  rw [show wrap64 ((i : Int) + 1)=((i + 1 : Nat) : Int) by rw [w64 (by omega) (by omega)];omega,rdP_lt p i h,show wrap64 (((p.take i).flatten.length : Int) + (p[i].length : Int))=(((p.take (i + 1)).flatten.length : Nat) : Int) by
   rw [w64 (by omega) (by omega),List.take_succ_eq_append_getElem h,List.flatten_append,List.length_append]
   simp,List.nil_append,← List.take_succ_eq_append_getElem h]
  exact Ev.pos (by omega) (Ev.pos (by omega) (Ev.pos (by simp;omega) (Ev.pos (by rw [List.length_take];omega) (l0_loop d (i + 1) (by omega)))))
end
theorem MergeCounts : thresherlaw14_MergeCounts.PureG:=by
 intro x r hx ⟨hr,hr2⟩
 obtain ⟨T,K,M,G,hmade,hS⟩:=made13_ev hx
 have hg : ∀ q ∈ r,∀ a ∈ q,∀ v ∈ a,gd31 v:=fun q hq a ha v hv=>(((hr2 q hq).2 a ha).2 v hv)
 obtain ⟨h1,h2⟩:=partsR_ok hS r hg
 apply Ev.rounds
 simp only [thresherlaw14_MergeCounts.f]
 exact Ev.bind shown13_ev (Ev.bind hmade (Ev.bind (parts_ev hS r hg) (l0_loop hS _ ⟨h1,(parts_le h1 (fun p h=>(h2 p h).2) (Nat.le_refl _)).2⟩ (fun p h=>(h2 p h).1) (partsR T K r).length 0 (by omega))))
end Go.Proofs.Ytfiandejapgkoaa.Pure

namespace Go.Proofs.Ytfiandejapgkoaa.mergeCounts
open Go.ChangeShapes Go.WideShapes Go.ChangeAt Go.RowKit Go.Proofs.Ytfiandejapgkoaa.P Go.Proofs.YtfiandejapgkoaaW.PrintWords
set_option linter.unusedVariables false
set_option linter.unusedSimpArgs false
theorem own : ownKnob Try.prog.godebug=none:=by kernel_rfl
theorem laidOut : laidOutB Try.prog=true:=by kernel_rfl
set_option maxRecDepth 100000 in
theorem lifted (os : Os) (started : os.Started) (H : Type) (enc : TypeId × Value→H) :
  ReturnsInHanded {} Try.checked os 6 .any (Rows.mergeCountsSpec.pre6 enc Try.prog Try.f6 Rows.mergeCountsRow.domain false) (Rows.mergeCountsSpec.post enc Try.prog Try.f6 false true false false):=by
 refine returnsInHanded_of_change_sized (C:=Try.checked) own started (by kernel_rfl) Try.func6
  (ChangeSpec.witness6 (enc:=enc) (C:=Try.checked) false ⟨#[],#[.agg #[.int .u8 0,.int .u8 0,.int .u8 0,.int .u8 0,.int .u8 0,.int .u8 0,.int .u8 0,.int .u8 0,.int .u8 0,.int .u8 0,.int .u8 0,.int .u8 0],.slice none 0 0],[]⟩ 8 (by kernel_rfl) (by kernel_rfl) (by kernel_rfl) (by kernel_rfl)) ?_
 intro W base args ds gs before hval0 hW hcnd hsz0 _
 have hval : ∀ (j : Nat) t v,Try.f6.params[j]?=some t→args[j]?=some v→Value.okWide Try.prog W .any base t v:=hval0
 have hW':=hW
 obtain ⟨p,q,hA0,hV,rfl,hfz,hnd⟩:=hW
 have hA : DataW.TrodAll enc Try.prog W 0 (fun _=>true) true Try.f6.params.toList args.toList ds p:=hA0
 rw [Try.params6] at hA hval
 obtain ⟨v0,vs0,d0,ds0,p0,q0,hargs,rfl,rfl,h0,r0⟩:=trodAll_cons hA
 obtain ⟨v1,vs1,d1,ds1,p1,q1,rfl,rfl,rfl,h1,r1⟩:=trodAll_cons r0
 obtain ⟨rfl,rfl,rfl⟩:=trodAll_nil r1
 obtain rfl : args=#[v0,v1]:=by cases args;simp_all
 obtain ⟨rfl,rfl⟩:=trodVars_none hV
 have lt0 : ∀ x ∈ p0,x.block < W.heap.size:=by obtain ⟨m,hm⟩:=h0;exact DataW.trod_lt m _ _ _ hm
 obtain ⟨x0,K0,g0⟩:=(op38).arg h0
 obtain ⟨cs0,rfl⟩:=okWide_agg Try.underlying38 (hval 0 38 v0 rfl rfl)
 have e0:=k38_open K0
 replace e0:=agg_of e0
 have lt1 : ∀ x ∈ p1,x.block < W.heap.size:=by obtain ⟨m,hm⟩:=h1;exact DataW.trod_lt m _ _ _ hm
 obtain ⟨x1,K1,g1⟩:=((opens_slice Try.underlying27 (by kernel_rfl) (opens_slice Try.underlying28 (by kernel_rfl) (opens_slice Try.underlying33 (by kernel_rfl) op31)))).arg h1
 obtain ⟨a1,len1,cap1,rfl⟩:=okWide_slice Try.underlying27 (hval 1 27 v1 rfl rfl)
 obtain ⟨A1,c1,e1,hl1,hr1⟩:=K1
 simp [Value.cells] at e1
 obtain ⟨rfl,rfl,rfl⟩:=e1
 obtain ⟨k,hk⟩:=Pure.MergeCounts x0 x1 g0 g1
 have call : Calls Try.prog 6 #[.agg cs0,.slice a1 x1.length cap1] W fun e W'=>e=.returned (.bool true)∧Below W.heap.size W W':=by
  rw [e0]
  refine (thresherlaw14_MergeCounts.calls k _ _ _ _ _ _ _ _ _ _ _ _ _ _ _ true W hr1 hl1 hk).mono ?_
  rintro e w' ⟨rfl,hd⟩
  exact ⟨rfl,hd⟩
 refine call.mono fun e W' ⟨he,bel⟩=>?_
 subst he
 exact ⟨_,rfl,_,_,_,[],_,[],hW',trodAll_mk1 (shut_bool Try.underlying4 _),(trodAll_cons_mk (Below.trod laidOut (by kernel_rfl) (of_decide_eq_true (by kernel_rfl)) h0 bel lt0) (trodAll_cons_mk (Below.trod laidOut (by kernel_rfl) (of_decide_eq_true (by kernel_rfl)) h1 bel lt1) trodAll_mk0)),rfl,bel.frame _,fun h=>by cases h⟩
theorem over : Rows.mergeCountsRow.holds Try.pinned (OpenSpec.ofChange Rows.mergeCountsSpec) :=
 OpenClaim.holds_of_wide 6 Try.f6 rfl rfl rfl rfl rfl rfl rfl ⟨rfl,rfl,rfl,rfl,rfl⟩ rfl rfl rfl rfl rfl (by kernel_rfl) Try.func6 (by kernel_rfl)
  (of_decide_eq_true (by kernel_rfl)) (by unfold Func.isWrapper;first|(rw [if_pos (by decide +kernel)];kernel_rfl)|(rw [if_neg (by decide +kernel)];exact ⟨rfl,rfl⟩))
  (fun os started H enc _=>lifted os started H enc)
theorem proved : Rows.MergeCountsSaid:=over
#print axioms proved
end Go.Proofs.Ytfiandejapgkoaa.mergeCounts
namespace Go.Proofs.Ytfiandejapgkoaa
theorem mergeCounts_holds : Rows.MergeCountsSaid:=mergeCounts.proved
end Go.Proofs.Ytfiandejapgkoaa

