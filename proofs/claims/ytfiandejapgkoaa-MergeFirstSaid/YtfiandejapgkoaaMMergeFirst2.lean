/- The row of MergeFirst. Merged: SMergeFirst, XFrows, XMergeIn, XMergeSub, XMergeFold, PureMergeFirst, RMergeFirst. -/
import Derived.Test.YtfiandejapgkoaaQMergeFirstPx18
import Derived.Test.YtfiandejapgkoaaQMergeFirstO
import Derived.Test.YtfiandejapgkoaaQMergeFirstPx13
import Derived.Test.YtfiandejapgkoaaQMergeFirstPx3
import Derived.Test.YtfiandejapgkoaaQMergeFirstPx5
import Derived.Test.YtfiandejapgkoaaMMergeFirst1
import Derived.Test.YtfiandejapgkoaaMMergeFirst0
import Derived.Test.YtfiandejapgkoaaQMergeFirstPx10
import Derived.Test.YtfiandejapgkoaaQMergeFirstPx14
import Derived.Test.YtfiandejapgkoaaRows
import Derived.WalkKit
import Derived.ProofKit
import Derived.OpenShut
import Derived.ShutString
import Derived.ChangeOld
import Derived.Below
import Derived.SizedLaws
namespace Go.Proofs.Ytfiandejapgkoaa.P
open Go.RowKit Go.Proofs.YtfiandejapgkoaaW.PrintWords
def thresherlaw14_MergeFirst.PureG : Prop:=∀ (x0 : S38) (x1 : List (List (List (S31)))) (x2 : S43),gd38 x0→(x1.length≤maxLen∧∀ a ∈ x1,(a.length≤maxLen∧∀ aa ∈ a,(aa.length≤maxLen∧∀ aaa ∈ aa,gd31 aaa)))→gd43 x2→∃ k,thresherlaw14_MergeFirst.f k x0.f0.f0 x0.f0.f1 x0.f0.f2 x0.f0.f3 x0.f0.f4 x0.f0.f5 x0.f0.f6 x0.f0.f7 x0.f1 x0.f2 x0.f3 x0.f4 x1 x2.f0 x2.f1=some true
end Go.Proofs.Ytfiandejapgkoaa.P

/- fold.Rows and fold.One: what they compute. -/
namespace Go.Proofs.Ytfiandejapgkoaa.P
open Go.RowKit Go.Proofs.YtfiandejapgkoaaW.PrintWords Go.Proofs.YtfiandejapgkoaaW.PrintLast
set_option linter.unusedVariables false
set_option linter.unusedSectionVars false
theorem shown13_ev : Ev (fun k=>thresherlaw14_shown.f k) true:=Ev.of thresherlaw14_shown.mono (k:=12) (by kernel_rfl)
theorem made13_ev {x : S38} (h : gd38 x) : ∃ T K M G,Ev (fun k=>thresherlaw14_made.f k x.f0.f0 x.f0.f1 x.f0.f2 x.f0.f3 x.f0.f4 x.f0.f5 x.f0.f6 x.f0.f7 x.f1 x.f2 x.f3 x.f4) (T,K,M,G)∧Sch T K M G:=by
 obtain ⟨T,K,M,G,h1,h2⟩:=shape_ev h
 exact ⟨T,K,M,G,Ev.bind h1 (Ev.now _),h2⟩
theorem vadd_j (t : Int) (a b : XV) (p : Bool) (hp : p=!(fitT t a && fitT t b)) : Ev (fun k=>value_Add.j0 k t p a.f0 a.f1 b.f0 b.f1) ((addV t a b).f0,(addV t a b).f1):=by
 refine Ev.succ ?_
 simp only [value_Add.j0]
 unfold addV
 by_cases h : fitT t a=true∧fitT t b=true
 ·rw [if_pos h]
  refine Ev.neg (by rw [hp,h.1,h.2];simp) ?_
  by_cases h3 : t=3
  ·exact (Ev.pos h3 (Ev.now _)).eq (by simp only [if_pos h3])
  ·exact (Ev.neg h3 (Ev.now _)).eq (by simp only [if_neg h3])
 ·rw [if_neg h]
  refine Ev.pos ?_ (Ev.now _)
  rw [hp]
  by_cases h1 : fitT t a=true
  ·have h2 : fitT t b=false:=by
    cases q : fitT t b with
    | false=>rfl
    | true=>exact absurd ⟨h1,q⟩ h
   rw [h1,h2];rfl
  ·rw [Bool.eq_false_iff.mpr h1];rfl
theorem vadd_ev (t : Int) (a b : XV) : Ev (fun k=>value_Add.f k t a.f0 a.f1 b.f0 b.f1) ((addV t a b).f0,(addV t a b).f1):=by
 simp only [value_Add.f]
 refine Ev.bind (vfits_ev t a.f0 a.f1) ?_
 by_cases h1 : fitT t a=true
 ·refine Ev.pos h1 (Ev.bind (vfits_ev t b.f0 b.f1) (vadd_j t a b _ ?_))
  rw [h1,Bool.true_and]
 ·refine Ev.neg h1 (vadd_j t a b true ?_)
  rw [Bool.eq_false_iff.mpr h1];rfl
theorem foldJ_ev (K M t : Int) (i : Nat) (x y : XV) : Ev (fun k=>foldJ k K M t i x y) (jnV K M t i x y):=by
 unfold foldJ jnV
 by_cases h : M=3∧¬ (i : Int) < K
 ·simp only [if_pos h]
  exact Ev.bind (vadd_ev t x y) (Ev.now _)
 ·simp only [if_neg h]
  exact Ev.now _
theorem oneR_get (T : List Int) (K M : Int) (a b : List XV) (i : Nat) (hi : i < T.length) : (oneR T K M a b).drop i=jnV K M (rd T (i : Int)) i (rdV a (i : Int)) (rdV b (i : Int)) :: (oneR T K M a b).drop (i + 1):=by
 rw [List.drop_eq_getElem_cons (by rw [oneR_length];exact hi)]
 congr 1
 simp [oneR]
theorem foldGo_ev (T : List Int) (K M : Int) (a b : List XV) (ha : a.length=T.length) (hb : b.length=T.length) : ∀ (d i : Nat),i + d=T.length→Ev (fun k=>foldGo k K M i (T.drop i) (a.drop i) (b.drop i)) ((oneR T K M a b).drop i)
 | 0,i,hi=>by
  rw [List.drop_of_length_le (by omega : T.length≤i),List.drop_of_length_le (by omega : a.length≤i),List.drop_of_length_le (by omega : b.length≤i),List.drop_of_length_le (by rw [oneR_length];omega)]
  exact Ev.now _
 | d + 1,i,hi=>by
  have h : i < T.length:=by omega
  rw [oneR_get T K M a b i h,List.drop_eq_getElem_cons h,List.drop_eq_getElem_cons (by omega : i < a.length),List.drop_eq_getElem_cons (by omega : i < b.length)]
  simp only [foldGo]
  have e0 : rd T (i : Int)=T[i]:=rd_lt T i h
  have e1 : rdV a (i : Int)=a[i]:=rdV_lt a i (by omega)
  have e2 : rdV b (i : Int)=b[i]:=rdV_lt b i (by omega)
  rw [e0,e1,e2]
  exact Ev.bind (foldJ_ev _ _ _ _ _ _) (Ev.bind (foldGo_ev T K M a b ha hb d (i + 1) (by omega)) (Ev.now _))
theorem fone_ev {T : List Int} {K M G : Int} (hS : Sch T K M G) {a b : List XV} (ha : a.length=T.length) (hb : b.length=T.length) : Ev (fun k=>fold_One.f k T K M G a b) (oneR T K M a b):=by
 unfold fold_One.f
 have:=hS.n8
 refine Ev.pos ⟨by omega,hS.m1,hS.m3,hb⟩ ?_
 have:=foldGo_ev T K M a b ha hb T.length 0 (by omega)
 simpa only [List.drop_zero] using this
section
variable {T : List Int} {K M G : Int} (hS : Sch T K M G) (l : List (List XV)) (hl : l.length≤1000) (hw : ∀ r ∈ l,Whole T r)
include hS hl hw
theorem set_last (pre : List (List XV)) (p z : List XV) : (pre ++ [p]).set pre.length z=pre ++ [z]:=by
 rw [List.set_append,if_neg (by omega),Nat.sub_self,List.set_cons_zero]
theorem rdR_last (pre : List (List XV)) (p : List XV) : rdR (pre ++ [p]) (pre.length : Nat)=p:=by
 rw [show rdR (pre ++ [p]) (pre.length : Nat)=_ from rdR_lt (pre ++ [p]) pre.length (by simp)]
 simp
theorem frows_loop : ∀ (d i : Nat) (pre : List (List XV)) (p : List XV),i + d=l.length→pre.length < i→Whole T p→Ev (fun k=>fold_Rows.l0 k (pre ++ [p]) l (l.length : Int) i T K M G) (pre ++ foldL T K M p (l.drop i))
 | 0,i,pre,p,hi,hp,hwp=>by
  refine Ev.succ ?_
  simp only [fold_Rows.l0]
  rw [List.drop_of_length_le (by omega)]
  exact Ev.neg (by omega) (Ev.now _)
 | d + 1,i,pre,p,hi,hp,hwp=>by
  have h : i < l.length:=by omega
  have h8:=hS.n8
  have hx:=hw _ (List.getElem_mem h)
  refine Ev.succ ?_
  simp only [fold_Rows.l0]
  have e : wrap64 (((pre ++ [p]).length : Int) - 1)=(pre.length : Int):=by
   rw [List.length_append,List.length_singleton,w64 (by omega) (by omega)]
   omega
  rw [e,show wrap64 ((i : Int) + 1)=(i : Int) + 1 from w64 (by omega) (by omega),rdR_lt l i h,show rd_L3 (pre ++ [p]) (pre.length : Int)=p from rdR_last hS l hl hw pre p,Int.toNat_natCast]
  clear e
  have hpl : ((pre ++ [p]).length : Int)=pre.length + 1:=by rw [List.length_append];rfl
  rw [List.drop_eq_getElem_cons h]
  refine Ev.pos (by omega) (Ev.pos (by omega) (Ev.pos (by omega) (Ev.pos (by omega) (Ev.pos (by omega) (Ev.pos (by omega) (Ev.bind (scmp_ev T K M G p l[i] (by omega)) ?_))))))
  have e2 : foldL T K M p (l[i] :: l.drop (i + 1))=if cmpRow T K p l[i]=0 then foldL T K M (oneR T K M p l[i]) (l.drop (i + 1)) else p :: foldL T K M l[i] (l.drop (i + 1)):=rfl
  rw [e2]
  by_cases hc : cmpRow T K p l[i]=0
  ·rw [if_pos hc]
   refine Ev.pos hc (Ev.bind (fone_ev hS hwp.len hx.len) ?_)
   rw [set_last hS l hl hw]
   exact frows_loop d (i + 1) pre _ (by omega) (by omega) (one_whole K M hwp hx)
  ·rw [if_neg hc]
   refine Ev.neg hc (Ev.pos (by omega) ?_)
   have:=frows_loop d (i + 1) (pre ++ [p]) l[i] (by omega) (by rw [List.length_append,List.length_singleton];omega) hx
   exact this.eq (by rw [List.append_assoc];rfl)
def foldA (T : List Int) (K M : Int) (l : List (List XV)) : List (List XV):=if M=1 then l else foldR T K M l
theorem frows_ev : Ev (fun k=>fold_Rows.f k T K M G l) (foldA T K M l):=by
 simp only [fold_Rows.f]
 unfold foldA
 by_cases hM : M=1
 ·rw [if_pos hM]
  refine Ev.pos hM (Ev.bindc (a:=l) ?_ (Ev.now _))
  simp only [api_Row.f,Option.bind_some,List.length_nil,List.nil_append]
  rw [if_pos (by omega)]
 ·rw [if_neg hM]
  refine Ev.neg hM ?_
  cases hc : l with
  | nil =>
   refine Ev.succ ?_
   simp only [fold_Rows.l0]
   exact Ev.neg (by simp) (Ev.now _)
  | cons x xs =>
   have h : 0 < l.length:=by rw [hc];simp
   have h8:=hS.n8
   have e0 : rdR l (0 : Int)=x:=by
    have:=rdR_lt l 0 h
    rw [show rdR l (0 : Int)=_ from this]
    simp [hc]
   have:=frows_loop hS l hl hw (l.length - 1) 1 [] x (by omega) (by simp) (hw x (by rw [hc];exact List.mem_cons_self))
   rw [← hc]
   refine Ev.succ ?_
   simp only [fold_Rows.l0]
   rw [show wrap64 ((([] : List (List XV)).length : Int) - 1)=-1 from w64 (by simp) (by simp),show wrap64 ((0 : Int) + 1)=1 from w64 (by omega) (by omega)]
   rw [show rd_L3 l (0 : Int)=x from e0]
   refine Ev.pos (by omega) (Ev.pos (by omega) (Ev.pos (by omega) (Ev.neg (by omega) (Ev.pos (by simp) ?_))))
   rw [List.nil_append,hc] at this ⊢
   exact this
end
theorem foldA_length (T : List Int) (K M : Int) (l : List (List XV)) : (foldA T K M l).length≤l.length:=by
 unfold foldA
 split
 ·exact Nat.le_refl _
 ·exact foldR_length T K M l
theorem foldA_whole {T : List Int} (K M : Int) {l : List (List XV)} (hw : ∀ r ∈ l,Whole T r) : ∀ r ∈ foldA T K M l,Whole T r:=by
 unfold foldA
 split
 ·exact hw
 ·exact foldR_whole l hw
theorem cut_at (n : Nat) (hn : n≤1000) {x : Int} (hx : U8 x) : ∃ m : Nat,Int.tmod (wrap64 x) (wrap64 ((n : Int) + 1))=m∧m≤n:=by
 unfold U8 at hx
 rw [w64 (by omega) (by omega),w64 (by omega) (by omega),Int.tmod_eq_emod_of_nonneg hx.1]
 have e1:=Int.emod_nonneg x (show (n : Int) + 1≠0 by omega)
 have e2:=Int.emod_lt_of_pos x (show 0 < (n : Int) + 1 by omega)
 exact ⟨(x % ((n : Int) + 1)).toNat,by omega,by omega⟩
end Go.Proofs.Ytfiandejapgkoaa.P

/- The parts that chapter 14's laws speak of; the document's Rows and Folded. -/
namespace Go.Proofs.Ytfiandejapgkoaa.P
open Go.RowKit Go.Proofs.YtfiandejapgkoaaW.PrintWords Go.Proofs.YtfiandejapgkoaaW.PrintLast
set_option linter.unusedVariables false
set_option linter.unusedSectionVars false
theorem rdP_lt (l : List (List (List XV))) (i : Nat) (h : i < l.length) : rd_L4 l i=l[i]:=by unfold rd_L4;simp [List.getD,h]
def partR (T : List Int) (K : Int) (r : List (List XV)) : List (List XV):=sortR T K ((r.take 20).map (fitRow T)) []
def partsR (T : List Int) (K : Int) (l : List (List (List XV))) : List (List (List XV)):=(l.take 8).map (partR T K)
structure Part (T : List Int) (K : Int) (p : List (List XV)) : Prop where
 len : p.length≤1000
 full : ∀ r ∈ p,Full T K r
 wide : ∀ r ∈ p,r.length=T.length
 ord : InOrd T K p
section
variable {T : List Int} {K M G : Int} (hS : Sch T K M G)
include hS
theorem fits20 (r : List (List XV)) (hr : ∀ a ∈ r,∀ v ∈ a,gd31 v) : Rows60 T K ((r.take 20).map (fitRow T))∧((r.take 20).map (fitRow T)).length≤20:=by
 have h20 : ((r.take 20).map (fitRow T)).length≤20:=by rw [List.length_map,List.length_take];omega
 refine ⟨⟨by omega,fun q hq=>?_,fun q hq=>?_⟩,h20⟩
 ·obtain ⟨a,ha,rfl⟩:=List.mem_map.mp hq
  exact fitRow_full hS a (GR_gd (hr a (List.mem_of_mem_take ha)))
 ·obtain ⟨a,ha,rfl⟩:=List.mem_map.mp hq
  exact fitRow_length T a
theorem partR_ok (r : List (List XV)) (hr : ∀ a ∈ r,∀ v ∈ a,gd31 v) : Part T K (partR T K r)∧(partR T K r).length≤20:=by
 obtain ⟨h1,h2⟩:=fits20 hS r hr
 obtain ⟨h3,h4⟩:=sorted_ok h1
 obtain ⟨_,a2,_⟩:=sortR_all T K ((r.take 20).map (fitRow T)) [] h1.full (by simp) List.Pairwise.nil
 exact ⟨⟨by have:=h3.len;unfold partR;omega,h3.full,h3.wide,h4⟩,by unfold partR;rw [a2];simp only [List.length_nil];omega⟩
theorem parts_loop (l : List (List (List XV))) (hl : ∀ r ∈ l,∀ a ∈ r,∀ v ∈ a,gd31 v) : ∀ (d i : Nat),i + d=min l.length 8→Ev (fun k=>thresherlaw14_parts.l0 k l ((l.take i).map (partR T K)) i T K M G) (partsR T K l)
 | 0,i,hi=>by
  have e : (l.take i).map (partR T K)=partsR T K l:=by
   unfold partsR
   by_cases h : l.length≤8
   ·rw [List.take_of_length_le (by omega),List.take_of_length_le h]
   ·rw [show i=8 by omega]
  refine Ev.succ ?_
  simp only [thresherlaw14_parts.l0]
  rw [e]
  by_cases h : (i : Int) < (l.length : Int)
  ·refine Ev.pos h ?_
   rw [decide_eq_false (show ¬ ((i : Int) < 8) by omega)]
   refine Ev.succ ?_
   simp only [thresherlaw14_parts.j1]
   exact Ev.neg (by simp) (Ev.now _)
  ·refine Ev.neg h ?_
   refine Ev.succ ?_
   simp only [thresherlaw14_parts.j1]
   exact Ev.neg (by simp) (Ev.now _)
 | d + 1,i,hi=>by
  have h : i < l.length:=by omega
  have h8:=hS.n8
  refine Ev.succ ?_
  simp only [thresherlaw14_parts.l0]
  refine Ev.pos (by omega) ?_
  rw [decide_eq_true (show ((i : Int) < 8) by omega)]
  refine Ev.succ ?_
  simp only [thresherlaw14_parts.j1]
  rw [show wrap64 ((i : Int) + 1)=((i + 1 : Nat) : Int) by rw [w64 (by omega) (by omega)];omega,rdP_lt l i h]
  have hr:=hl _ (List.getElem_mem h)
  obtain ⟨h1,h2⟩:=fits20 hS l[i] hr
  refine Ev.pos trivial (Ev.pos (by omega) (Ev.pos (by omega) (Ev.bind (fits_ev T K M G l[i] 20 (by omega) (by omega)) (Ev.bind (sort_ev T K M G (by omega) _ (by omega) h1.gr) (Ev.pos (by rw [List.length_map,List.length_take];omega) ?_)))))
  have:=parts_loop l hl d (i + 1) (by omega)
  rw [List.take_succ_eq_append_getElem h,List.map_append] at this
  exact this
theorem parts_ev (l : List (List (List XV))) (hl : ∀ r ∈ l,∀ a ∈ r,∀ v ∈ a,gd31 v) : Ev (fun k=>thresherlaw14_parts.f k T K M G l) (partsR T K l):=by
 simp only [thresherlaw14_parts.f]
 exact parts_loop hS l hl (min l.length 8) 0 (by omega)
theorem partsR_ok (l : List (List (List XV))) (hl : ∀ r ∈ l,∀ a ∈ r,∀ v ∈ a,gd31 v) : (partsR T K l).length≤8∧∀ p ∈ partsR T K l,Part T K p∧p.length≤20:=by
 refine ⟨by unfold partsR;rw [List.length_map,List.length_take];omega,fun p hp=>?_⟩
 obtain ⟨r,hr,rfl⟩:=List.mem_map.mp hp
 exact partR_ok hS r (hl r (List.mem_of_mem_take hr))
end
theorem flat_len {l : List (List (List XV))} {n : Nat} : (∀ p ∈ l,p.length≤n)→l.flatten.length≤l.length * n:=by
 induction l with
 | nil=>intro _;simp
 | cons p l ih =>
  intro h
  rw [List.flatten_cons,List.length_append,List.length_cons,Nat.succ_mul]
  have h1:=h p (by simp)
  have h2:=ih (fun q hq=>h q (by simp [hq]))
  omega
theorem parts_le {l : List (List (List XV))} {n : Nat} (hl : l.length≤n) (hp : ∀ p ∈ l,p.length≤20) (hn : n≤8) : l.length≤16∧l.flatten.length≤1000:=by
 have:=flat_len hp
 have:=Nat.mul_le_mul_right 20 hl
 omega
section
variable {T : List Int} {K M G : Int} (hS : Sch T K M G) (l : List (List (List XV))) (hl : l.length≤16∧l.flatten.length≤1000) (hp : ∀ p ∈ l,Part T K p)
include hS hl hp
theorem flat_le : l.flatten.length≤1000:=hl.2
theorem flat_full : ∀ r ∈ l.flatten,Full T K r:=fun r hr=>by
 obtain ⟨p,h1,h2⟩:=List.mem_flatten.mp hr
 exact (hp p h1).full r h2
theorem flat_wide : ∀ r ∈ l.flatten,r.length=T.length:=fun r hr=>by
 obtain ⟨p,h1,h2⟩:=List.mem_flatten.mp hr
 exact (hp p h1).wide r h2
theorem mrows_ev : Ev (fun k=>merge_Rows.f k T K M G l) (sortR T K l.flatten []):=by
 have h8:=hS.n8
 exact merge_ev T K l M G (by omega) (by have:=hl.1;omega) (by have:=flat_le hS l hl hp;omega) (fun p h=>(hp p h).full) (fun p h=>(hp p h).ord)
theorem merged : (sortR T K l.flatten []).length=l.flatten.length∧(∀ r ∈ sortR T K l.flatten [],Full T K r)∧(∀ r ∈ sortR T K l.flatten [],Whole T r)∧InOrd T K (sortR T K l.flatten []):=by
 obtain ⟨a1,a2,a3⟩:=sortR_all T K l.flatten [] (flat_full hS l hl hp) (by simp) List.Pairwise.nil
 have hm : ∀ r ∈ sortR T K l.flatten [],r ∈ l.flatten:=fun r hr=>by
  rcases (a3 r).mp hr with q|q
  ·exact q
  ·exact absurd q (by simp)
 exact ⟨by rw [a2];simp,fun r hr=>flat_full hS l hl hp r (hm r hr),fun r hr=>⟨flat_wide hS l hl hp r (hm r hr),(flat_full hS l hl hp r (hm r hr)).ok⟩,a1⟩
theorem mfold_ev : Ev (fun k=>merge_Folded.f k T K M G l) (foldA T K M (sortR T K l.flatten [])):=by
 obtain ⟨h1,h2,h3,h4⟩:=merged hS l hl hp
 have h5:=flat_le hS l hl hp
 simp only [merge_Folded.f]
 exact Ev.bind (mrows_ev hS l hl hp) (Ev.bind (frows_ev hS _ (by omega) h3) (Ev.now _))
end
end Go.Proofs.Ytfiandejapgkoaa.P

/- Parts cut, and rows that are in order already. -/
namespace Go.Proofs.Ytfiandejapgkoaa.P
open Go.RowKit Go.Proofs.YtfiandejapgkoaaW.PrintWords Go.Proofs.YtfiandejapgkoaaW.PrintLast
set_option linter.unusedVariables false
end Go.Proofs.Ytfiandejapgkoaa.P

/- To sort, and fold, some rows first, and all then, is to sort, and fold, all. -/
namespace Go.Proofs.Ytfiandejapgkoaa.P
open Go.RowKit Go.Proofs.YtfiandejapgkoaaW.PrintWords Go.Proofs.YtfiandejapgkoaaW.PrintLast
set_option linter.unusedVariables false
set_option linter.unusedSectionVars false
theorem sortR_app (T : List Int) (K : Int) (l m acc : List (List XV)) : sortR T K (l ++ m) acc=sortR T K m (sortR T K l acc):=List.foldl_append
section
variable {T : List Int} {K : Int}
theorem ins_swap {x z : List XV} (hx : Full T K x) (hz : Full T K z) (h : cmpRow T K z x > 0) : ∀ l : List (List XV),(∀ r ∈ l,Full T K r)→insR T K z (insR T K x l)=insR T K x (insR T K z l)
 | [],_=>by
  have hxz : ¬ cmpRow T K x z > 0:=by have:=cmpRow_anti T K z x;omega
  show insR T K z [x]=insR T K x [z]
  rw [insR_cons,insR_cons,if_neg hxz,if_pos h]
  rfl
 | y :: l,hl=>by
  have hxz : ¬ cmpRow T K x z > 0:=by have:=cmpRow_anti T K z x;omega
  have hy:=hl y (by simp)
  have ih:=ins_swap hx hz h l (fun r hr=>hl r (by simp [hr]))
  rw [insR_cons,insR_cons T K z y l]
  by_cases h1 : cmpRow T K y x > 0
  ·rw [if_pos h1]
   by_cases h2 : cmpRow T K y z > 0
   ·rw [if_pos h2,insR_cons,if_neg hxz,insR_cons,if_pos h2,insR_cons,if_pos h]
   ·rw [if_neg h2,insR_cons,if_neg hxz,insR_cons,if_neg h2,insR_cons,if_pos h1]
  ·rw [if_neg h1]
   have h2 : ¬ cmpRow T K y z > 0:=by
    have:=cmpRow_tr T K hy.ok hx.ok hz.ok hx.key (by omega) (by have:=cmpRow_anti T K z x;omega : cmpRow T K x z≤0)
    omega
   rw [if_neg h2,insR_cons,if_neg h2,insR_cons,if_neg h1,ih]
theorem ins_past {x : List XV} (hx : Full T K x) : ∀ (l acc : List (List XV)),(∀ z ∈ l,Full T K z∧cmpRow T K z x > 0)→(∀ r ∈ acc,Full T K r)→sortR T K l (insR T K x acc)=insR T K x (sortR T K l acc)
 | [],acc,_,_=>rfl
 | z :: l,acc,hl,ha=>by
  have hz:=hl z (by simp)
  show sortR T K l (insR T K z (insR T K x acc))=insR T K x (sortR T K l (insR T K z acc))
  rw [ins_swap hx hz.1 hz.2 acc ha]
  exact ins_past hx l _ (fun w hw=>hl w (by simp [hw])) (fun r hr=>by
   rcases (insR_mem T K z acc r).mp hr with rfl|hr
   ·exact hz.1
   ·exact ha r hr)
theorem ins_in {x : List XV} (hx : Full T K x) : ∀ (l acc : List (List XV)),(∀ z ∈ l,Full T K z)→InOrd T K l→(∀ r ∈ acc,Full T K r)→sortR T K (insR T K x l) acc=insR T K x (sortR T K l acc)
 | [],acc,_,_,_=>rfl
 | y :: l,acc,hl,ho,ha=>by
  obtain ⟨o1,o2⟩:=List.pairwise_cons.mp ho
  have hy:=hl y (by simp)
  have ha' : ∀ r ∈ insR T K y acc,Full T K r:=fun r hr=>by
   rcases (insR_mem T K y acc r).mp hr with rfl|hr
   ·exact hy
   ·exact ha r hr
  rw [insR_cons]
  split
  case isTrue h =>
   show sortR T K (y :: l) (insR T K x acc)=_
   refine ins_past hx (y :: l) acc (fun z hz=>⟨hl z hz,?_⟩) ha
   rcases List.mem_cons.mp hz with rfl|hz'
   ·exact h
   ·have h1:=o1 z hz'
    have hzf:=hl z hz
    have a1:=cmpRow_anti T K x z
    have a2:=cmpRow_anti T K x y
    by_cases h2 : cmpRow T K z x > 0
    ·exact h2
    ·have:=cmpRow_tr T K hy.ok hzf.ok hx.ok hzf.key h1 (by omega)
     omega
  case isFalse h =>
   show sortR T K (insR T K x l) (insR T K y acc)=insR T K x (sortR T K l (insR T K y acc))
   exact ins_in hx l _ (fun z hz=>hl z (by simp [hz])) o2 ha'
theorem sort_acc (l : List (List XV)) (hl : ∀ r ∈ l,Full T K r) (acc : List (List XV)) (ha : ∀ r ∈ acc,Full T K r) : sortR T K (sortR T K l []) acc=sortR T K l acc:=by
 have key : ∀ n,∀ l : List (List XV),l.length=n→(∀ r ∈ l,Full T K r)→sortR T K (sortR T K l []) acc=sortR T K l acc:=by
  intro n
  induction n with
  | zero=>intro l h _;rw [List.eq_nil_of_length_eq_zero h];rfl
  | succ n ih =>
   intro l h hl
   obtain ⟨m,x,rfl⟩ : ∃ m x,l=m ++ [x]:=⟨l.dropLast,l.getLast (fun e=>by rw [e] at h;simp at h),(List.dropLast_concat_getLast _).symm⟩
   have hm : ∀ r ∈ m,Full T K r:=fun r hr=>hl r (by simp [hr])
   have hx:=hl x (by simp)
   obtain ⟨a1,a2,a3⟩:=sortR_all T K m [] hm (by simp) List.Pairwise.nil
   have hmf : ∀ r ∈ sortR T K m [],Full T K r:=fun r hr=>by
    rcases (a3 r).mp hr with q|q
    ·exact hm r q
    ·exact absurd q (by simp)
   rw [sortR_app,sortR_app]
   show sortR T K (insR T K x (sortR T K m [])) acc=insR T K x (sortR T K m acc)
   rw [ins_in hx _ acc hmf a1 ha,ih m (by rw [List.length_append,List.length_singleton] at h;omega) hm]
 exact key _ l rfl hl
theorem sort_first (a b c : List (List XV)) (ha : ∀ r ∈ a,Full T K r) (hb : ∀ r ∈ b,Full T K r) : sortR T K (a ++ (sortR T K b [] ++ c)) []=sortR T K (a ++ (b ++ c)) []:=by
 obtain ⟨a1,a2,a3⟩:=sortR_all T K a [] ha (by simp) List.Pairwise.nil
 rw [sortR_app,sortR_app,sortR_app,sortR_app,sort_acc b hb _ (fun r hr=>by
  rcases (a3 r).mp hr with q|q
  ·exact ha r q
  ·exact absurd q (by simp))]
theorem ins_app (x : List XV) : ∀ (s t : List (List XV)),((∃ w ∈ s,cmpRow T K w x > 0)∧insR T K x (s ++ t)=insR T K x s ++ t) ∨ ((∀ w ∈ s,¬ cmpRow T K w x > 0)∧insR T K x (s ++ t)=s ++ insR T K x t)
 | [],t=>.inr ⟨fun w hw=>absurd hw (by simp),rfl⟩
 | y :: s,t=>by
  by_cases h : cmpRow T K y x > 0
  ·refine .inl ⟨⟨y,by simp,h⟩,?_⟩
   rw [List.cons_append,insR_cons,insR_cons,if_pos h,if_pos h]
   rfl
  ·rcases ins_app x s t with ⟨⟨w,hw,hwx⟩,e⟩|⟨hw,e⟩
   ·refine .inl ⟨⟨w,by simp [hw],hwx⟩,?_⟩
    rw [List.cons_append,insR_cons,insR_cons,if_neg h,if_neg h,e]
    rfl
   ·refine .inr ⟨fun w hw'=>?_,?_⟩
    ·rcases List.mem_cons.mp hw' with rfl|hw'
     ·exact h
     ·exact hw w hw'
    ·rw [List.cons_append,insR_cons,if_neg h,e]
     rfl
variable {M : Int} (h0 : 0≤K) {x y : List XV} (hx : Whole T x) (hy : Whole T y) (hxy : cmpRow T K x y=0)
include h0 hx hy hxy
theorem rel_ins (z : List XV) (s1 s2 : List (List XV)) : ∃ t1 t2,insR T K z (s1 ++ x :: y :: s2)=t1 ++ x :: y :: t2∧insR T K z (s1 ++ oneR T K M x y :: s2)=t1 ++ oneR T K M x y :: t2:=by
 have e1 : cmpRow T K x z=cmpRow T K y z:=cmp_same h0 hx hy hxy z
 have e2 : cmpRow T K (oneR T K M x y) z=cmpRow T K y z:=cmp_one hy.len z
 rcases ins_app (T:=T) (K:=K) z s1 (x :: y :: s2) with ⟨hw,e⟩|⟨hw,e⟩
 ·rcases ins_app (T:=T) (K:=K) z s1 (oneR T K M x y :: s2) with ⟨_,e'⟩|⟨hw',_⟩
  ·exact ⟨insR T K z s1,s2,e,e'⟩
  ·obtain ⟨w,h1,h2⟩:=hw
   exact absurd h2 (hw' w h1)
 ·rcases ins_app (T:=T) (K:=K) z s1 (oneR T K M x y :: s2) with ⟨⟨w,h1,h2⟩,_⟩|⟨_,e'⟩
  ·exact absurd h2 (hw w h1)
  ·rw [e,e']
   by_cases h : cmpRow T K y z > 0
   ·refine ⟨s1 ++ [z],s2,?_,?_⟩
    ·rw [insR_cons,if_pos (by rw [e1];exact h),List.append_assoc];rfl
    ·rw [insR_cons,if_pos (by rw [e2];exact h),List.append_assoc];rfl
   ·refine ⟨s1,insR T K z s2,?_,?_⟩
    ·rw [insR_cons,if_neg (by rw [e1];exact h),insR_cons,if_neg h]
    ·rw [insR_cons,if_neg (by rw [e2];exact h)]
theorem rel_sort : ∀ (v s1 s2 : List (List XV)),∃ t1 t2,sortR T K v (s1 ++ x :: y :: s2)=t1 ++ x :: y :: t2∧sortR T K v (s1 ++ oneR T K M x y :: s2)=t1 ++ oneR T K M x y :: t2
 | [],s1,s2=>⟨s1,s2,rfl,rfl⟩
 | z :: v,s1,s2=>by
  obtain ⟨t1,t2,e1,e2⟩:=rel_ins (M:=M) h0 hx hy hxy z s1 s2
  show ∃ u1 u2,sortR T K v (insR T K z _)=_∧sortR T K v (insR T K z _)=_
  rw [e1,e2]
  exact rel_sort v t1 t2
theorem ins_two (s : List (List XV)) : ∃ s1 s2,insR T K y (insR T K x s)=s1 ++ x :: y :: s2∧insR T K (oneR T K M x y) s=s1 ++ oneR T K M x y :: s2:=by
 have e1 : ∀ w,cmpRow T K w x=cmpRow T K w y:=fun w=>cmp_same2 h0 hx hy hxy w
 have e2 : ∀ w,cmpRow T K w (oneR T K M x y)=cmpRow T K w y:=fun w=>cmp_one2 hy.len w
 induction s with
 | nil =>
  refine ⟨[],[],?_,rfl⟩
  show insR T K y [x]=_
  rw [insR_cons,if_neg (by omega)]
  rfl
 | cons w s ih =>
  by_cases h : cmpRow T K w y > 0
  ·refine ⟨[],w :: s,?_,?_⟩
   ·rw [insR_cons,if_pos (by rw [e1];exact h),insR_cons,if_neg (by omega),insR_cons,if_pos h]
    rfl
   ·rw [insR_cons,if_pos (by rw [e2];exact h)]
    rfl
  ·obtain ⟨s1,s2,e3,e4⟩:=ih
   refine ⟨w :: s1,s2,?_,?_⟩
   ·rw [insR_cons,if_neg (by rw [e1];exact h),insR_cons,if_neg h,e3]
    rfl
   ·rw [insR_cons,if_neg (by rw [e2];exact h),e4]
    rfl
theorem fold_two (s1 s2 : List (List XV)) (h1 : ∀ r ∈ s1,Whole T r) (h2 : ∀ r ∈ s2,Whole T r) : foldR T K M (s1 ++ x :: y :: s2)=foldR T K M (s1 ++ oneR T K M x y :: s2):=by
 have h3 : ∀ r ∈ x :: y :: s2,Whole T r:=fun r hr=>by
  rcases List.mem_cons.mp hr with rfl|hr
  ·exact hx
  ·rcases List.mem_cons.mp hr with rfl|hr
   ·exact hy
   ·exact h2 r hr
 have h4 : ∀ r ∈ oneR T K M x y :: s2,Whole T r:=fun r hr=>by
  rcases List.mem_cons.mp hr with rfl|hr
  ·exact one_whole K M hx hy
  ·exact h2 r hr
 have e : foldR T K M (x :: y :: s2)=foldR T K M (oneR T K M x y :: s2):=by
  show foldL T K M x (y :: s2)=foldL T K M (oneR T K M x y) s2
  rw [foldL_cons,if_pos hxy]
 rw [← foldR_fold h0 s1 _ h1 h3,← foldR_fold h0 s1 _ h1 h4,e]
omit hx hy hxy
theorem sort_whole (l : List (List XV)) (hl : ∀ r ∈ l,Whole T r) (hf : ∀ r ∈ l,Full T K r) : ∀ r ∈ sortR T K l [],Whole T r:=fun r hr=>by
 obtain ⟨_,_,a3⟩:=sortR_all T K l [] hf (by simp) List.Pairwise.nil
 rcases (a3 r).mp hr with q|q
 ·exact hl r q
 ·exact absurd q (by simp)
theorem full_of {r : List XV} (h : Whole T r) : Full T K r:=⟨h.ok,by rw [h.len];omega⟩
include hx hy hxy
theorem fold_pair (u v : List (List XV)) (hu : ∀ r ∈ u,Whole T r) (hv : ∀ r ∈ v,Whole T r) : foldR T K M (sortR T K (u ++ x :: y :: v) [])=foldR T K M (sortR T K (u ++ oneR T K M x y :: v) []):=by
 obtain ⟨s1,s2,e1,e2⟩:=ins_two (M:=M) h0 hx hy hxy (sortR T K u [])
 have e3 : sortR T K (u ++ x :: y :: v) []=sortR T K v (s1 ++ x :: y :: s2):=by rw [sortR_app,← e1];rfl
 have e4 : sortR T K (u ++ oneR T K M x y :: v) []=sortR T K v (s1 ++ oneR T K M x y :: s2):=by rw [sortR_app,← e2];rfl
 obtain ⟨t1,t2,e5,e6⟩:=rel_sort (M:=M) h0 hx hy hxy v s1 s2
 have hw : ∀ r ∈ sortR T K (u ++ x :: y :: v) [],Whole T r:=by
  have hall : ∀ r ∈ u ++ x :: y :: v,Whole T r:=fun r hr=>by
   rcases List.mem_append.mp hr with hr|hr
   ·exact hu r hr
   ·rcases List.mem_cons.mp hr with rfl|hr
    ·exact hx
    ·rcases List.mem_cons.mp hr with rfl|hr
     ·exact hy
     ·exact hv r hr
  exact sort_whole h0 _ hall (fun r hr=>full_of h0 (hall r hr))
 rw [e3,e5] at hw
 rw [e3,e4,e5,e6]
 exact fold_two h0 hx hy hxy t1 t2 (fun r hr=>hw r (by simp [hr])) (fun r hr=>hw r (by simp [hr]))
omit hx hy hxy
theorem fold_run : ∀ (l : List (List XV)) (p : List XV) (u v : List (List XV)),Whole T p→(∀ r ∈ l,Whole T r)→(∀ r ∈ u,Whole T r)→(∀ r ∈ v,Whole T r)→foldR T K M (sortR T K (u ++ (foldL T K M p l ++ v)) [])=foldR T K M (sortR T K (u ++ (p :: l ++ v)) [])
 | [],p,u,v,hp,hl,hu,hv=>rfl
 | r :: l,p,u,v,hp,hl,hu,hv=>by
  have hr:=hl r (by simp)
  have hl' : ∀ q ∈ l,Whole T q:=fun q hq=>hl q (by simp [hq])
  rw [foldL_cons]
  split
  case isTrue h =>
   rw [fold_run l _ u v (one_whole K M hp hr) hl' hu hv]
   exact (fold_pair h0 hp hr h u (l ++ v) hu (fun q hq=>by
    rcases List.mem_append.mp hq with hq|hq
    ·exact hl' q hq
    ·exact hv q hq)).symm
  case isFalse h =>
   have:=fold_run l r (u ++ [p]) v hr hl' (fun q hq=>by
    rcases List.mem_append.mp hq with hq|hq
    ·exact hu q hq
    ·rw [List.mem_singleton.mp hq];exact hp) hv
   rw [List.append_assoc,List.append_assoc] at this
   exact this
theorem fold_some (d u v : List (List XV)) (hd : ∀ r ∈ d,Whole T r) (hu : ∀ r ∈ u,Whole T r) (hv : ∀ r ∈ v,Whole T r) : foldR T K M (sortR T K (u ++ (foldR T K M d ++ v)) [])=foldR T K M (sortR T K (u ++ (d ++ v)) []):=by
 cases d with
 | nil=>rfl
 | cons p l=>exact fold_run h0 l p u v (hd p (by simp)) (fun r hr=>hd r (by simp [hr])) hu hv
theorem fold_first (a b c : List (List XV)) (ha : ∀ r ∈ a,Whole T r) (hb : ∀ r ∈ b,Whole T r) (hc : ∀ r ∈ c,Whole T r) : foldA T K M (sortR T K (a ++ (foldA T K M (sortR T K b []) ++ c)) [])=foldA T K M (sortR T K (a ++ (b ++ c)) []):=by
 have hfa : ∀ r ∈ a,Full T K r:=fun r hr=>full_of h0 (ha r hr)
 have hfb : ∀ r ∈ b,Full T K r:=fun r hr=>full_of h0 (hb r hr)
 rw [← sort_first a b c hfa hfb]
 unfold foldA
 by_cases h : M=1
 ·simp only [if_pos h]
 ·simp only [if_neg h]
  exact fold_some h0 _ a c (sort_whole h0 b hb hfb) ha hc
theorem foldL_keys : ∀ (l : List (List XV)) (p : List XV),(∀ r ∈ l,r.length=T.length)→∀ z ∈ foldL T K M p l,∃ w ∈ p :: l,∀ x,cmpRow T K x z=cmpRow T K x w
 | [],p,_,z,hz=>⟨p,by simp,fun x=>by rw [List.mem_singleton.mp hz]⟩
 | r :: l,p,hl,z,hz=>by
  have hr:=hl r (by simp)
  rw [foldL_cons] at hz
  split at hz
  ·obtain ⟨w,hw,e⟩:=foldL_keys l _ (fun q hq=>hl q (by simp [hq])) z hz
   rcases List.mem_cons.mp hw with rfl|hw
   ·exact ⟨r,by simp,fun x=>(e x).trans (cmp_one2 hr x)⟩
   ·exact ⟨w,by simp [hw],e⟩
  ·rcases List.mem_cons.mp hz with rfl|hz
   ·exact ⟨z,by simp,fun x=>rfl⟩
   ·obtain ⟨w,hw,e⟩:=foldL_keys l r (fun q hq=>hl q (by simp [hq])) z hz
    exact ⟨w,List.mem_cons_of_mem _ hw,e⟩
theorem foldL_ord : ∀ (l : List (List XV)) (p : List XV),(∀ r ∈ l,r.length=T.length)→InOrd T K (p :: l)→InOrd T K (foldL T K M p l)
 | [],p,_,h=>h
 | r :: l,p,hl,h=>by
  have hr:=hl r (by simp)
  have hl' : ∀ q ∈ l,q.length=T.length:=fun q hq=>hl q (by simp [hq])
  obtain ⟨o1,o2⟩:=List.pairwise_cons.mp h
  obtain ⟨o3,o4⟩:=List.pairwise_cons.mp o2
  rw [foldL_cons]
  split
  ·exact foldL_ord l _ hl' (List.pairwise_cons.mpr ⟨fun z hz=>by rw [cmp_one hr];exact o3 z hz,o4⟩)
  ·refine List.pairwise_cons.mpr ⟨fun z hz=>?_,foldL_ord l r hl' o2⟩
   obtain ⟨w,hw,e⟩:=foldL_keys (M:=M) h0 l r hl' z hz
   rw [e]
   exact o1 w hw
theorem foldA_ord (l : List (List XV)) (hl : ∀ r ∈ l,r.length=T.length) (h : InOrd T K l) : InOrd T K (foldA T K M l):=by
 unfold foldA
 split
 ·exact h
 ·cases l with
  | nil=>exact List.Pairwise.nil
  | cons p l=>exact foldL_ord h0 l p (fun r hr=>hl r (by simp [hr])) h
end
end Go.Proofs.Ytfiandejapgkoaa.P

/- To merge, and fold, some parts first, and what comes of them with the others then, is to merge, and fold, all: the plain law. -/
namespace Go.Proofs.Ytfiandejapgkoaa.Pure
open Go.RowKit Go.Proofs.Ytfiandejapgkoaa.P Go.Proofs.YtfiandejapgkoaaW.PrintWords Go.Proofs.YtfiandejapgkoaaW.PrintLast
set_option linter.unusedVariables false
theorem some_ok {T : List Int} {K : Int} {A C : List (List (List XV))} {B : List (List XV)} (hA : ∀ q ∈ A,Part T K q) (hB : Part T K B) (hC : ∀ q ∈ C,Part T K q) : ∀ q ∈ (A ++ [B]) ++ C,Part T K q:=by
 intro q hq
 rcases List.mem_append.mp hq with hq|hq
 ·rcases List.mem_append.mp hq with hq|hq
  ·exact hA q hq
  ·rw [List.mem_singleton.mp hq];exact hB
 ·exact hC q hq
theorem some_flat (A C : List (List (List XV))) (B : List (List XV)) : ((A ++ [B]) ++ C).flatten=A.flatten ++ (B ++ C.flatten):=by simp
theorem MergeFirst : thresherlaw14_MergeFirst.PureG:=by
 intro x r c hx ⟨hr,hr2⟩ ⟨u0,u1⟩
 replace u0:=u8_of u0
 replace u1:=u8_of u1
 obtain ⟨T,K,M,G,hmade,hS⟩:=made13_ev hx
 have h8:=hS.n8
 have hK : 0≤K:=by have:=hS.k1;omega
 have hg : ∀ q ∈ r,∀ a ∈ q,∀ v ∈ a,gd31 v:=fun q hq a ha v hv=>(((hr2 q hq).2 a ha).2 v hv)
 obtain ⟨h1,h2⟩:=partsR_ok hS r hg
 have hpev:=parts_ev hS r hg
 generalize partsR T K r=p at h1 h2 hpev
 have hl:=parts_le h1 (fun q h=>(h2 q h).2) (Nat.le_refl _)
 have hp:=fun q h=>(h2 q h).1
 obtain ⟨i,e1,hi⟩:=cut_at p.length (by omega) u0
 have E1:=Aside0.mk e1
 clear e1
 have e3 : wrap64 ((p.length : Int) - (i : Int))=((p.length - i : Nat) : Int):=by rw [w64 (by omega) (by omega)];omega
 have E3:=Aside0.mk e3
 clear e3
 obtain ⟨m,e2,hm⟩:=cut_at (p.length - i) (by omega) u1
 have E2:=Aside0.mk e2
 clear e2
 have e4 : wrap64 ((i : Int) + (m : Int))=((i + m : Nat) : Int):=by rw [w64 (by omega) (by omega)];omega
 have E4:=Aside0.mk e4
 clear e4
 have e5 : ¬ wrap64 ((p.length : Int) + 1)=0:=by rw [w64 (by omega) (by omega)];omega
 have E5:=Aside0.mk e5
 clear e5
 have e6 : ¬ wrap64 (((p.length - i : Nat) : Int) + 1)=0:=by rw [w64 (by omega) (by omega)];omega
 have E6:=Aside0.mk e6
 clear e6
 have hcat : p.flatten=(p.take i).flatten ++ (((p.take (i + m)).drop i).flatten ++ (p.drop (i + m)).flatten):=by
  have a1 : p.take i ++ (p.take (i + m)).drop i=p.take (i + m):=by
   have:=List.take_append_drop i (p.take (i + m))
   rwa [List.take_take,Nat.min_eq_left (by omega)] at this
  rw [← List.append_assoc,← List.flatten_append,← List.flatten_append,a1,List.take_append_drop]
 have hlA : (p.take i).length≤i:=by rw [List.length_take];omega
 have hlC : (p.drop (i + m)).length + i≤8:=by rw [List.length_drop];omega
 have hlB : ((p.take (i + m)).drop i).length≤8:=by rw [List.length_drop,List.length_take];omega
 have hA : ∀ q ∈ p.take i,Part T K q:=fun q h=>hp q (List.mem_of_mem_take h)
 have hB : ∀ q ∈ (p.take (i + m)).drop i,Part T K q:=fun q h=>hp q (List.mem_of_mem_take (List.mem_of_mem_drop h))
 have hC : ∀ q ∈ p.drop (i + m),Part T K q:=fun q h=>hp q (List.mem_of_mem_drop h)
 have hBb : ∀ q ∈ (p.take (i + m)).drop i,q.length≤20:=fun q h=>(h2 q (List.mem_of_mem_take (List.mem_of_mem_drop h))).2
 have hfl:=hl.2
 have hlen:=congrArg List.length hcat
 rw [List.length_append,List.length_append] at hlen
 have b0:=parts_le hlB hBb (Nat.le_refl _)
 obtain ⟨q1,q2,q3,q4⟩:=merged hS _ b0 hB
 have f1:=foldA_length T K M (sortR T K ((p.take (i + m)).drop i).flatten [])
 have f2:=foldA_whole K M q3
 have f3:=foldA_ord (M:=M) hK _ (fun r hr=>(q3 r hr).len) q4
 have hlA8 : (p.take i).length + 1 + (p.drop (i + m)).length≤16:=by omega
 have pm : Part T K (sortR T K ((p.take (i + m)).drop i).flatten []):=⟨by omega,q2,fun r hr=>(q3 r hr).len,q4⟩
 have pf : Part T K (foldA T K M (sortR T K ((p.take (i + m)).drop i).flatten [])):=⟨by omega,fun r hr=>full_of hK (f2 r hr),fun r hr=>(f2 r hr).len,f3⟩
 have evB1:=mfold_ev hS _ b0 hB
 have evB2:=mrows_ev hS _ b0 hB
 have evp1:=mfold_ev hS p hl hp
 have evp2:=mrows_ev hS p hl hp
 have evS1:=mfold_ev hS ((p.take i ++ [foldA T K M (sortR T K ((p.take (i + m)).drop i).flatten [])]) ++ p.drop (i + m)) ⟨by rw [List.length_append,List.length_append,List.length_singleton];exact hlA8,by rw [some_flat,List.length_append,List.length_append];omega⟩ (some_ok hA pf hC)
 have evS2:=mrows_ev hS ((p.take i ++ [sortR T K ((p.take (i + m)).drop i).flatten []]) ++ p.drop (i + m)) ⟨by rw [List.length_append,List.length_append,List.length_singleton];exact hlA8,by rw [some_flat,List.length_append,List.length_append];omega⟩ (some_ok hA pm hC)
 have wof : ∀ {L : List (List (List XV))},(∀ q ∈ L,Part T K q)→∀ r ∈ L.flatten,Whole T r:=fun hL r hr=>by
  obtain ⟨q,a1,a2⟩:=List.mem_flatten.mp hr
  exact ⟨(hL q a1).wide r a2,((hL q a1).full r a2).ok⟩
 rw [some_flat,fold_first hK _ _ _ (wof hA) (wof hB) (wof hC),← hcat] at evS1
 rw [some_flat,sort_first _ _ _ (fun r hr=>full_of hK (wof hA r hr)) (fun r hr=>full_of hK (wof hB r hr)),← hcat] at evS2
 obtain ⟨m1,m2,m3,m4⟩:=merged hS p hl hp
 have g1:=foldA_length T K M (sortR T K p.flatten [])
 have g2:=foldA_whole K M m3
 have EB1:=Aside0.mk evB1
 have EB2:=Aside0.mk evB2
 have EP1:=Aside0.mk evp1
 have EP2:=Aside0.mk evp2
 have ES1:=Aside0.mk evS1
 have ES2:=Aside0.mk evS2
 clear evB1 evB2 evp1 evp2 evS1 evS2
 apply Ev.rounds
 simp only [thresherlaw14_MergeFirst.f]
 refine Ev.bind shown13_ev (Ev.bind hmade (Ev.bind hpev ?_))
 simp only [E1.out,E3.out,E2.out,E4.out,Option.bind_some,Int.toNat_natCast,List.nil_append]
 refine Ev.neg E5.out (Ev.neg E6.out (Ev.pos (by omega) (Ev.pos (by omega) (Ev.pos (by simp only [List.length_nil];omega) (Ev.pos (by simp only [List.length_nil];omega) (Ev.pos (by omega) (Ev.pos (by omega) (Ev.bind EB1.out (Ev.pos (by omega) (Ev.bind EB2.out (Ev.pos (by omega) (Ev.pos (by omega) (Ev.pos (by rw [List.length_append,List.length_singleton];omega) (Ev.pos (by rw [List.length_append,List.length_singleton];omega) (Ev.bind ES1.out (Ev.bind EP1.out (Ev.bind (rows_ev _ _ (by omega) (fun q h=>by rw [(g2 q h).len];omega)) (Ev.bind ES2.out (Ev.bind EP2.out (Ev.bind (rows_ev _ _ (by omega) (fun q h=>by rw [(m3 q h).len];omega)) ?_))))))))))))))))))))
 simp only [decide_true]
 refine Ev.pos trivial (Ev.pos trivial (Ev.succ ?_))
 simp only [thresherlaw14_MergeFirst.j0]
 exact Ev.now _
end Go.Proofs.Ytfiandejapgkoaa.Pure

namespace Go.Proofs.Ytfiandejapgkoaa.mergeFirst
open Go.ChangeShapes Go.WideShapes Go.ChangeAt Go.RowKit Go.Proofs.Ytfiandejapgkoaa.P Go.Proofs.YtfiandejapgkoaaW.PrintWords
set_option linter.unusedVariables false
set_option linter.unusedSimpArgs false
theorem own : ownKnob Try.prog.godebug=none:=by kernel_rfl
theorem laidOut : laidOutB Try.prog=true:=by kernel_rfl
set_option maxRecDepth 100000 in
theorem lifted (os : Os) (started : os.Started) (H : Type) (enc : TypeId × Value→H) :
  ReturnsInHanded {} Try.checked os 5 .any (Rows.mergeFirstSpec.pre6 enc Try.prog Try.f5 Rows.mergeFirstRow.domain false) (Rows.mergeFirstSpec.post enc Try.prog Try.f5 false true false false):=by
 refine returnsInHanded_of_change_sized (C:=Try.checked) own started (by kernel_rfl) Try.func5
  (ChangeSpec.witness6 (enc:=enc) (C:=Try.checked) false ⟨#[],#[.agg #[.int .u8 0,.int .u8 0,.int .u8 0,.int .u8 0,.int .u8 0,.int .u8 0,.int .u8 0,.int .u8 0,.int .u8 0,.int .u8 0,.int .u8 0,.int .u8 0],.slice none 0 0,.agg #[.int .u8 0,.int .u8 0]],[]⟩ 8 (by kernel_rfl) (by kernel_rfl) (by kernel_rfl) (by kernel_rfl)) ?_
 intro W base args ds gs before hval0 hW hcnd hsz0 _
 have hval : ∀ (j : Nat) t v,Try.f5.params[j]?=some t→args[j]?=some v→Value.okWide Try.prog W .any base t v:=hval0
 have hW':=hW
 obtain ⟨p,q,hA0,hV,rfl,hfz,hnd⟩:=hW
 have hA : DataW.TrodAll enc Try.prog W 0 (fun _=>true) true Try.f5.params.toList args.toList ds p:=hA0
 rw [Try.params5] at hA hval
 obtain ⟨v0,vs0,d0,ds0,p0,q0,hargs,rfl,rfl,h0,r0⟩:=trodAll_cons hA
 obtain ⟨v1,vs1,d1,ds1,p1,q1,rfl,rfl,rfl,h1,r1⟩:=trodAll_cons r0
 obtain ⟨v2,vs2,d2,ds2,p2,q2,rfl,rfl,rfl,h2,r2⟩:=trodAll_cons r1
 obtain ⟨rfl,rfl,rfl⟩:=trodAll_nil r2
 obtain rfl : args=#[v0,v1,v2]:=by cases args;simp_all
 obtain ⟨rfl,rfl⟩:=trodVars_none hV
 have lt0 : ∀ x ∈ p0,x.block < W.heap.size:=by obtain ⟨m,hm⟩:=h0;exact DataW.trod_lt m _ _ _ hm
 obtain ⟨x0,K0,g0⟩:=(op38).arg h0
 obtain ⟨cs0,rfl⟩:=okWide_agg Try.underlying38 (hval 0 38 v0 rfl rfl)
 have e0:=k38_open K0
 replace e0:=agg_of e0
 have lt1 : ∀ x ∈ p1,x.block < W.heap.size:=by obtain ⟨m,hm⟩:=h1;exact DataW.trod_lt m _ _ _ hm
 obtain ⟨x1,K1,g1⟩:=((opens_slice Try.underlying27 (by kernel_rfl) (opens_slice Try.underlying28 (by kernel_rfl) (opens_slice Try.underlying33 (by kernel_rfl) op31)))).arg h1
 obtain ⟨a1,len1,cap1,rfl⟩:=okWide_slice Try.underlying27 (hval 1 27 v1 rfl rfl)
 obtain ⟨A1,c1,e1,hl1,hr1⟩:=K1
 simp [Value.cells] at e1
 obtain ⟨rfl,rfl,rfl⟩:=e1
 have lt2 : ∀ x ∈ p2,x.block < W.heap.size:=by obtain ⟨m,hm⟩:=h2;exact DataW.trod_lt m _ _ _ hm
 obtain ⟨x2,K2,g2⟩:=(op43).arg h2
 obtain ⟨cs2,rfl⟩:=okWide_aggA Try.underlying43 (hval 2 43 v2 rfl rfl)
 have e2:=k43_open K2
 replace e2:=agg_of e2
 obtain ⟨k,hk⟩:=Pure.MergeFirst x0 x1 x2 g0 g1 g2
 have call : Calls Try.prog 5 #[.agg cs0,.slice a1 x1.length cap1,.agg cs2] W fun e W'=>e=.returned (.bool true)∧Below W.heap.size W W':=by
  rw [e0,e2]
  refine (thresherlaw14_MergeFirst.calls k _ _ _ _ _ _ _ _ _ _ _ _ _ _ _ _ _ true W hr1 hl1 hk).mono ?_
  rintro e w' ⟨rfl,hd⟩
  exact ⟨rfl,hd⟩
 refine call.mono fun e W' ⟨he,bel⟩=>?_
 subst he
 exact ⟨_,rfl,_,_,_,[],_,[],hW',trodAll_mk1 (shut_bool Try.underlying4 _),(trodAll_cons_mk (Below.trod laidOut (by kernel_rfl) (of_decide_eq_true (by kernel_rfl)) h0 bel lt0) (trodAll_cons_mk (Below.trod laidOut (by kernel_rfl) (of_decide_eq_true (by kernel_rfl)) h1 bel lt1) (trodAll_cons_mk (Below.trod laidOut (by kernel_rfl) (of_decide_eq_true (by kernel_rfl)) h2 bel lt2) trodAll_mk0))),rfl,bel.frame _,fun h=>by cases h⟩
theorem over : Rows.mergeFirstRow.holds Try.pinned (OpenSpec.ofChange Rows.mergeFirstSpec) :=
 OpenClaim.holds_of_wide 5 Try.f5 rfl rfl rfl rfl rfl rfl rfl ⟨rfl,rfl,rfl,rfl,rfl⟩ rfl rfl rfl rfl rfl (by kernel_rfl) Try.func5 (by kernel_rfl)
  (of_decide_eq_true (by kernel_rfl)) (by unfold Func.isWrapper;first|(rw [if_pos (by decide +kernel)];kernel_rfl)|(rw [if_neg (by decide +kernel)];exact ⟨rfl,rfl⟩))
  (fun os started H enc _=>lifted os started H enc)
theorem proved : Rows.MergeFirstSaid:=over
#print axioms proved
end Go.Proofs.Ytfiandejapgkoaa.mergeFirst
namespace Go.Proofs.Ytfiandejapgkoaa
theorem mergeFirst_holds : Rows.MergeFirstSaid:=mergeFirst.proved
end Go.Proofs.Ytfiandejapgkoaa

