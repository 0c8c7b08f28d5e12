/- The row of MergeAll. Merged: SMergeAll, XFoldEv, XFoldIn, XMergeIn, PureMergeAll, RMergeAll. -/
import Derived.Test.YtfiandejapgkoaaQMergeAllPx17
import Derived.Test.YtfiandejapgkoaaQMergeAllO
import Derived.Test.YtfiandejapgkoaaQMergeAllPx13
import Derived.Test.YtfiandejapgkoaaQMergeAllPx15
import Derived.Test.YtfiandejapgkoaaQMergeAllPx14
import Derived.Test.YtfiandejapgkoaaQMergeAllPx3
import Derived.Test.YtfiandejapgkoaaQMergeAllPx5
import Derived.Test.YtfiandejapgkoaaMMergeAll1
import Derived.Test.YtfiandejapgkoaaQMergeAllPx10
import Derived.Test.YtfiandejapgkoaaQMergeAllPx16
import Derived.Test.YtfiandejapgkoaaMMergeAll0
import Derived.Test.YtfiandejapgkoaaRows
import Derived.WalkKit
import Derived.ProofKit
import Derived.OpenShut
import Derived.ShutString
import Derived.ChangeOld
import Derived.Below
import Derived.SizedLaws
namespace Go.Proofs.Ytfiandejapgkoaa.P
open Go.RowKit Go.Proofs.YtfiandejapgkoaaW.PrintWords
def thresherlaw14_MergeAll.PureG : Prop:=∀ (x0 : S38) (x1 : List (List (List (S31)))),gd38 x0→(x1.length≤maxLen∧∀ a ∈ x1,(a.length≤maxLen∧∀ aa ∈ a,(aa.length≤maxLen∧∀ aaa ∈ aa,gd31 aaa)))→∃ k,thresherlaw14_MergeAll.f k x0.f0.f0 x0.f0.f1 x0.f0.f2 x0.f0.f3 x0.f0.f4 x0.f0.f5 x0.f0.f6 x0.f0.f7 x0.f1 x0.f2 x0.f3 x0.f4 x1=some true
end Go.Proofs.Ytfiandejapgkoaa.P

/- fold.Rows, fold.One and the document's: what they compute. -/
namespace Go.Proofs.Ytfiandejapgkoaa.P
open Go.RowKit Go.Proofs.YtfiandejapgkoaaW.PrintWords Go.Proofs.YtfiandejapgkoaaW.PrintLast
set_option linter.unusedVariables false
set_option linter.unusedSectionVars false
theorem shown13_ev : Ev (fun k=>thresherlaw14_shown.f k) true:=Ev.of thresherlaw14_shown.mono (k:=12) (by kernel_rfl)
theorem made13_ev {x : S38} (h : gd38 x) : ∃ T K M G,Ev (fun k=>thresherlaw14_made.f k x.f0.f0 x.f0.f1 x.f0.f2 x.f0.f3 x.f0.f4 x.f0.f5 x.f0.f6 x.f0.f7 x.f1 x.f2 x.f3 x.f4) (T,K,M,G)∧Sch T K M G:=by
 obtain ⟨T,K,M,G,h1,h2⟩:=shape_ev h
 exact ⟨T,K,M,G,Ev.bind h1 (Ev.now _),h2⟩
theorem vadd_j (t : Int) (a b : XV) (p : Bool) (hp : p=!(fitT t a && fitT t b)) : Ev (fun k=>value_Add.j0 k t p a.f0 a.f1 b.f0 b.f1) ((addV t a b).f0,(addV t a b).f1):=by
 refine Ev.succ ?_
 simp only [value_Add.j0]
 unfold addV
 by_cases h : fitT t a=true∧fitT t b=true
 ·rw [if_pos h]
  refine Ev.neg (by rw [hp,h.1,h.2];simp) ?_
  by_cases h3 : t=3
  ·exact (Ev.pos h3 (Ev.now _)).eq (by simp only [if_pos h3])
  ·exact (Ev.neg h3 (Ev.now _)).eq (by simp only [if_neg h3])
 ·rw [if_neg h]
  refine Ev.pos ?_ (Ev.now _)
  rw [hp]
  by_cases h1 : fitT t a=true
  ·have h2 : fitT t b=false:=by
    cases q : fitT t b with
    | false=>rfl
    | true=>exact absurd ⟨h1,q⟩ h
   rw [h1,h2];rfl
  ·rw [Bool.eq_false_iff.mpr h1];rfl
theorem vadd_ev (t : Int) (a b : XV) : Ev (fun k=>value_Add.f k t a.f0 a.f1 b.f0 b.f1) ((addV t a b).f0,(addV t a b).f1):=by
 simp only [value_Add.f]
 refine Ev.bind (vfits_ev t a.f0 a.f1) ?_
 by_cases h1 : fitT t a=true
 ·refine Ev.pos h1 (Ev.bind (vfits_ev t b.f0 b.f1) (vadd_j t a b _ ?_))
  rw [h1,Bool.true_and]
 ·refine Ev.neg h1 (vadd_j t a b true ?_)
  rw [Bool.eq_false_iff.mpr h1];rfl
theorem radd_ev (t : Int) (a b : XV) : Ev (fun k=>thresherref03_Add.f k t a.f0 a.f1 b.f0 b.f1) ((addV t a b).f0,(addV t a b).f1):=by
 simp only [thresherref03_Add.f]
 refine Ev.bind (both_ev t a b) ?_
 unfold addV
 by_cases h : fitT t a=true∧fitT t b=true
 ·rw [if_pos h]
  refine Ev.pos (by rw [h.1,h.2];rfl) ?_
  by_cases h3 : t=3
  ·exact (Ev.pos h3 (Ev.now _)).eq (by simp only [if_pos h3])
  ·exact (Ev.neg h3 (Ev.now _)).eq (by simp only [if_neg h3])
 ·rw [if_neg h]
  exact Ev.neg (fun q=>h (by simpa using q)) (Ev.now _)
theorem foldJ_ev (K M t : Int) (i : Nat) (x y : XV) : Ev (fun k=>foldJ k K M t i x y) (jnV K M t i x y):=by
 unfold foldJ jnV
 by_cases h : M=3∧¬ (i : Int) < K
 ·simp only [if_pos h]
  exact Ev.bind (vadd_ev t x y) (Ev.now _)
 ·simp only [if_neg h]
  exact Ev.now _
theorem oneR_get (T : List Int) (K M : Int) (a b : List XV) (i : Nat) (hi : i < T.length) : (oneR T K M a b).drop i=jnV K M (rd T (i : Int)) i (rdV a (i : Int)) (rdV b (i : Int)) :: (oneR T K M a b).drop (i + 1):=by
 rw [List.drop_eq_getElem_cons (by rw [oneR_length];exact hi)]
 congr 1
 simp [oneR]
theorem foldGo_ev (T : List Int) (K M : Int) (a b : List XV) (ha : a.length=T.length) (hb : b.length=T.length) : ∀ (d i : Nat),i + d=T.length→Ev (fun k=>foldGo k K M i (T.drop i) (a.drop i) (b.drop i)) ((oneR T K M a b).drop i)
 | 0,i,hi=>by
  rw [List.drop_of_length_le (by omega : T.length≤i),List.drop_of_length_le (by omega : a.length≤i),List.drop_of_length_le (by omega : b.length≤i),List.drop_of_length_le (by rw [oneR_length];omega)]
  exact Ev.now _
 | d + 1,i,hi=>by
  have h : i < T.length:=by omega
  rw [oneR_get T K M a b i h,List.drop_eq_getElem_cons h,List.drop_eq_getElem_cons (by omega : i < a.length),List.drop_eq_getElem_cons (by omega : i < b.length)]
  simp only [foldGo]
  have e0 : rd T (i : Int)=T[i]:=rd_lt T i h
  have e1 : rdV a (i : Int)=a[i]:=rdV_lt a i (by omega)
  have e2 : rdV b (i : Int)=b[i]:=rdV_lt b i (by omega)
  rw [e0,e1,e2]
  exact Ev.bind (foldJ_ev _ _ _ _ _ _) (Ev.bind (foldGo_ev T K M a b ha hb d (i + 1) (by omega)) (Ev.now _))
theorem fone_ev {T : List Int} {K M G : Int} (hS : Sch T K M G) {a b : List XV} (ha : a.length=T.length) (hb : b.length=T.length) : Ev (fun k=>fold_One.f k T K M G a b) (oneR T K M a b):=by
 unfold fold_One.f
 have:=hS.n8
 refine Ev.pos ⟨by omega,hS.m1,hS.m3,hb⟩ ?_
 have:=foldGo_ev T K M a b ha hb T.length 0 (by omega)
 simpa only [List.drop_zero] using this
theorem rone_loop {T : List Int} {K M G : Int} (hS : Sch T K M G) (hM : M=3) {a b : List XV} (ha : a.length=T.length) (hb : b.length=T.length) : ∀ (d i : Nat) (out : List XV),i + d=T.length→K≤i→out.length=T.length→out=(oneR T K M a b).take i ++ b.drop i→Ev (fun k=>thresherref13_One.l0 k a b out i T K M G) (oneR T K M a b)
 | 0,i,out,hi,hK,hl,ho=>by
  refine Ev.succ ?_
  simp only [thresherref13_One.l0]
  refine Ev.neg (by omega) ((Ev.now _).eq ?_)
  rw [ho,List.drop_of_length_le (by omega),List.append_nil,List.take_of_length_le (by rw [oneR_length];omega)]
 | d + 1,i,out,hi,hK,hl,ho=>by
  have h : i < T.length:=by omega
  have h8:=hS.n8
  refine Ev.succ ?_
  simp only [thresherref13_One.l0]
  rw [show wrap64 ((i : Int) + 1)=(i : Int) + 1 from w64 (by omega) (by omega)]
  refine Ev.pos (by omega) (Ev.pos hM (Ev.pos (by omega) (Ev.pos (by omega) (Ev.pos (by omega) (Ev.pos (by omega) (Ev.bind (radd_ev _ _ _) ?_))))))
  refine rone_loop hS hM ha hb d (i + 1) _ (by omega) (by omega) (by rw [List.length_set];exact hl) ?_
  have htl : ((oneR T K M a b).take i).length=i:=by rw [List.length_take,oneR_length];omega
  have hj : jnV K M (rd T (i : Int)) i (rdV a (i : Int)) (rdV b (i : Int))=addV (rd T (i : Int)) (rdV a (i : Int)) (rdV b (i : Int)):=by unfold jnV;rw [if_pos ⟨hM,by omega⟩]
  have hg : (oneR T K M a b)[i]'(by rw [oneR_length];exact h)=addV (rd T (i : Int)) (rdV a (i : Int)) (rdV b (i : Int)):=by rw [← hj];simp [oneR]
  rw [ho,Int.toNat_natCast,List.set_append,if_neg (by omega),htl,Nat.sub_self,List.drop_eq_getElem_cons (by omega : i < b.length),List.set_cons_zero,List.take_succ_eq_append_getElem (by rw [oneR_length];exact h),hg,List.append_assoc]
  rfl
theorem rone_ev {T : List Int} {K M G : Int} (hS : Sch T K M G) {a b : List XV} (ha : a.length=T.length) (hb : b.length=T.length) : Ev (fun k=>thresherref13_One.f k T K M G a b) (oneR T K M a b):=by
 have h8:=hS.n8
 have hkn:=hS.kn
 have hk1:=hS.k1
 obtain ⟨j,hj⟩ : ∃ j : Nat,K=j:=⟨K.toNat,by omega⟩
 have key : ∀ i : Nat,i < T.length→(M≠3 ∨ (i : Int) < K)→(oneR T K M a b)[i]?=b[i]?:=fun i hi hc=>by
  rw [List.getElem?_eq_getElem (by rw [oneR_length];exact hi),List.getElem?_eq_getElem (by omega)]
  congr 1
  have e2 : rdV b (i : Int)=b[i]:=rdV_lt b i (by omega)
  rw [← e2]
  have : jnV K M (rd T (i : Int)) i (rdV a (i : Int)) (rdV b (i : Int))=rdV b (i : Int):=by unfold jnV;rw [if_neg (by omega)]
  rw [← this]
  simp [oneR]
 simp only [thresherref13_One.f]
 refine Ev.bindc rfl (Ev.pos (by simp only [List.length_nil];omega) ?_)
 rw [List.nil_append]
 by_cases hM : M=3
 ·rw [hj]
  rw [hj] at hS
  have:=rone_loop hS hM ha hb (T.length - j) j b (by omega) (Int.le_refl _) hb (by
   conv=>lhs;rw [← List.take_append_drop j b]
   congr 1
   apply List.ext_getElem?
   intro i
   by_cases hi : i < j
   ·rw [List.getElem?_take,if_pos hi,List.getElem?_take,if_pos hi]
    have:=key i (by omega) (Or.inr (by omega))
    rw [hj] at this
    exact this.symm
   ·rw [List.getElem?_take,if_neg hi,List.getElem?_take,if_neg hi])
  exact this
 ·refine Ev.succ ?_
  simp only [thresherref13_One.l0]
  have e : b=oneR T K M a b:=by
   apply List.ext_getElem?
   intro i
   by_cases hi : i < T.length
   ·exact (key i hi (Or.inl hM)).symm
   ·rw [List.getElem?_eq_none (by omega),List.getElem?_eq_none (by rw [oneR_length];omega)]
  by_cases hc : K < (b.length : Int)
  ·exact Ev.pos hc (Ev.neg hM ((Ev.now _).eq e))
  ·exact Ev.neg hc ((Ev.now _).eq e)
section
variable {T : List Int} {K M G : Int} (hS : Sch T K M G) (l : List (List XV)) (hl : l.length≤1000) (hw : ∀ r ∈ l,Whole T r)
include hS hl hw
theorem set_last (pre : List (List XV)) (p z : List XV) : (pre ++ [p]).set pre.length z=pre ++ [z]:=by
 rw [List.set_append,if_neg (by omega),Nat.sub_self,List.set_cons_zero]
theorem rdR_last (pre : List (List XV)) (p : List XV) : rdR (pre ++ [p]) (pre.length : Nat)=p:=by
 rw [show rdR (pre ++ [p]) (pre.length : Nat)=_ from rdR_lt (pre ++ [p]) pre.length (by simp)]
 simp
theorem frows_loop : ∀ (d i : Nat) (pre : List (List XV)) (p : List XV),i + d=l.length→pre.length < i→Whole T p→Ev (fun k=>fold_Rows.l0 k (pre ++ [p]) l (l.length : Int) i T K M G) (pre ++ foldL T K M p (l.drop i))
 | 0,i,pre,p,hi,hp,hwp=>by
  refine Ev.succ ?_
  simp only [fold_Rows.l0]
  rw [List.drop_of_length_le (by omega)]
  exact Ev.neg (by omega) (Ev.now _)
 | d + 1,i,pre,p,hi,hp,hwp=>by
  have h : i < l.length:=by omega
  have h8:=hS.n8
  have hx:=hw _ (List.getElem_mem h)
  refine Ev.succ ?_
  simp only [fold_Rows.l0]
  have e : wrap64 (((pre ++ [p]).length : Int) - 1)=(pre.length : Int):=by
   rw [List.length_append,List.length_singleton,w64 (by omega) (by omega)]
   omega
  rw [e,show wrap64 ((i : Int) + 1)=(i : Int) + 1 from w64 (by omega) (by omega),rdR_lt l i h,show rd_L3 (pre ++ [p]) (pre.length : Int)=p from rdR_last hS l hl hw pre p,Int.toNat_natCast]
  clear e
  have hpl : ((pre ++ [p]).length : Int)=pre.length + 1:=by rw [List.length_append];rfl
  rw [List.drop_eq_getElem_cons h]
  refine Ev.pos (by omega) (Ev.pos (by omega) (Ev.pos (by omega) (Ev.pos (by omega) (Ev.pos (by omega) (Ev.pos (by omega) (Ev.bind (scmp_ev T K M G p l[i] (by omega)) ?_))))))
  have e2 : foldL T K M p (l[i] :: l.drop (i + 1))=if cmpRow T K p l[i]=0 then foldL T K M (oneR T K M p l[i]) (l.drop (i + 1)) else p :: foldL T K M l[i] (l.drop (i + 1)):=rfl
  rw [e2]
  by_cases hc : cmpRow T K p l[i]=0
  ·rw [if_pos hc]
   refine Ev.pos hc (Ev.bind (fone_ev hS hwp.len hx.len) ?_)
   rw [set_last hS l hl hw]
   exact frows_loop d (i + 1) pre _ (by omega) (by omega) (one_whole K M hwp hx)
  ·rw [if_neg hc]
   refine Ev.neg hc (Ev.pos (by omega) ?_)
   have:=frows_loop d (i + 1) (pre ++ [p]) l[i] (by omega) (by rw [List.length_append,List.length_singleton];omega) hx
   exact this.eq (by rw [List.append_assoc];rfl)
def foldA (T : List Int) (K M : Int) (l : List (List XV)) : List (List XV):=if M=1 then l else foldR T K M l
theorem frows_ev : Ev (fun k=>fold_Rows.f k T K M G l) (foldA T K M l):=by
 simp only [fold_Rows.f]
 unfold foldA
 by_cases hM : M=1
 ·rw [if_pos hM]
  refine Ev.pos hM (Ev.bindc (a:=l) ?_ (Ev.now _))
  simp only [api_Row.f,Option.bind_some,List.length_nil,List.nil_append]
  rw [if_pos (by omega)]
 ·rw [if_neg hM]
  refine Ev.neg hM ?_
  cases hc : l with
  | nil =>
   refine Ev.succ ?_
   simp only [fold_Rows.l0]
   exact Ev.neg (by simp) (Ev.now _)
  | cons x xs =>
   have h : 0 < l.length:=by rw [hc];simp
   have h8:=hS.n8
   have e0 : rdR l (0 : Int)=x:=by
    have:=rdR_lt l 0 h
    rw [show rdR l (0 : Int)=_ from this]
    simp [hc]
   have:=frows_loop hS l hl hw (l.length - 1) 1 [] x (by omega) (by simp) (hw x (by rw [hc];exact List.mem_cons_self))
   rw [← hc]
   refine Ev.succ ?_
   simp only [fold_Rows.l0]
   rw [show wrap64 ((([] : List (List XV)).length : Int) - 1)=-1 from w64 (by simp) (by simp),show wrap64 ((0 : Int) + 1)=1 from w64 (by omega) (by omega)]
   rw [show rd_L3 l (0 : Int)=x from e0]
   refine Ev.pos (by omega) (Ev.pos (by omega) (Ev.pos (by omega) (Ev.neg (by omega) (Ev.pos (by simp) ?_))))
   rw [List.nil_append,hc] at this ⊢
   exact this
theorem rrows_j (out : List (List XV)) (i : Nat) (h : i < l.length) (hn : out.length≤1000) (c : Bool) {R : List (List XV)}
  (hf : c=false→Ev (fun k=>thresherref13_Rows.l0 k l (out ++ [l[i]]) ((i : Int) + 1) T K M G) R)
  (ht : c=true→∃ pre p,out=pre ++ [p]∧Whole T p∧Ev (fun k=>thresherref13_Rows.l0 k l (pre ++ [oneR T K M p l[i]]) ((i : Int) + 1) T K M G) R) :
  Ev (fun k=>thresherref13_Rows.j1 k l out i (out.length : Int) c T K M G) R:=by
 refine Ev.succ ?_
 simp only [thresherref13_Rows.j1]
 rw [show wrap64 ((i : Int) + 1)=(i : Int) + 1 from w64 (by omega) (by omega),rdR_lt l i h]
 cases c with
 | false=>exact Ev.neg (by simp) (Ev.pos (by omega) (Ev.pos (by omega) (Ev.pos (by omega) (hf rfl))))
 | true =>
  obtain ⟨pre,p,rfl,hp,hR⟩:=ht rfl
  have hpl : ((pre ++ [p]).length : Int)=pre.length + 1:=by rw [List.length_append];rfl
  have hpl2 : (pre ++ [p]).length=pre.length + 1:=by rw [List.length_append];rfl
  rw [show wrap64 (((pre ++ [p]).length : Int) - 1)=(pre.length : Int) by rw [w64 (by omega) (by omega)];omega,show rd_L3 (pre ++ [p]) (pre.length : Int)=p from rdR_last hS l hl hw pre p,Int.toNat_natCast]
  refine Ev.pos rfl (Ev.pos (by omega) (Ev.pos (by omega) (Ev.pos (by omega) (Ev.pos (by omega) (Ev.bind (rone_ev hS hp.len (hw _ (List.getElem_mem h)).len) ?_)))))
  rw [set_last hS l hl hw]
  exact hR
theorem rrows_plain (hM : M=1) : ∀ (d i : Nat) (out : List (List XV)),i + d=l.length→out.length=i→Ev (fun k=>thresherref13_Rows.l0 k l out i T K M G) (out ++ l.drop i)
 | 0,i,out,hi,ho=>by
  refine Ev.succ ?_
  simp only [thresherref13_Rows.l0]
  rw [List.drop_of_length_le (by omega),List.append_nil]
  exact Ev.neg (by omega) (Ev.now _)
 | d + 1,i,out,hi,ho=>by
  have h : i < l.length:=by omega
  refine Ev.succ ?_
  simp only [thresherref13_Rows.l0]
  refine Ev.pos (by omega) (Ev.pos hM (rrows_j hS l hl hw out i h (by omega) false (fun _=>?_) (fun h=>absurd h (by simp))))
  have:=rrows_plain hM d (i + 1) (out ++ [l[i]]) (by omega) (by rw [List.length_append];simp;omega)
  exact this.eq (by rw [List.append_assoc,List.drop_eq_getElem_cons h];rfl)
theorem rrows_loop (hM : M≠1) : ∀ (d i : Nat) (pre : List (List XV)) (p : List XV),i + d=l.length→pre.length < i→Whole T p→Ev (fun k=>thresherref13_Rows.l0 k l (pre ++ [p]) i T K M G) (pre ++ foldL T K M p (l.drop i))
 | 0,i,pre,p,hi,hp,hwp=>by
  refine Ev.succ ?_
  simp only [thresherref13_Rows.l0]
  rw [List.drop_of_length_le (by omega)]
  exact Ev.neg (by omega) (Ev.now _)
 | d + 1,i,pre,p,hi,hp,hwp=>by
  have h : i < l.length:=by omega
  have h8:=hS.n8
  have hx:=hw _ (List.getElem_mem h)
  have hpl : ((pre ++ [p]).length : Int)=pre.length + 1:=by rw [List.length_append];rfl
  have hpl2 : (pre ++ [p]).length=pre.length + 1:=by rw [List.length_append];rfl
  refine Ev.succ ?_
  simp only [thresherref13_Rows.l0]
  rw [show wrap64 (((pre ++ [p]).length : Int) - 1)=(pre.length : Int) by rw [w64 (by omega) (by omega)];omega,rdR_lt l i h,show rd_L3 (pre ++ [p]) (pre.length : Int)=p from rdR_last hS l hl hw pre p]
  rw [List.drop_eq_getElem_cons h]
  refine Ev.pos (by omega) (Ev.neg hM (Ev.pos (by omega) (Ev.pos (by omega) (Ev.pos (by omega) (Ev.pos (by omega) (Ev.bind (rowcmp_ev T K M G p l[i] hwp.ok.gr hx.ok.gr (by omega)) ?_))))))
  have e2 : foldL T K M p (l[i] :: l.drop (i + 1))=if cmpRow T K p l[i]=0 then foldL T K M (oneR T K M p l[i]) (l.drop (i + 1)) else p :: foldL T K M l[i] (l.drop (i + 1)):=rfl
  rw [e2]
  refine rrows_j hS l hl hw (pre ++ [p]) i h (by omega) _ (fun hc=>?_) (fun hc=>⟨pre,p,rfl,hwp,?_⟩)
  ·rw [if_neg (by simpa using hc)]
   have:=rrows_loop hM d (i + 1) (pre ++ [p]) l[i] (by omega) (by rw [List.length_append,List.length_singleton];omega) hx
   exact this.eq (by rw [List.append_assoc];rfl)
  ·rw [if_pos (by simpa using hc)]
   exact rrows_loop hM d (i + 1) pre _ (by omega) (by omega) (one_whole K M hwp hx)
theorem rrows_ev : Ev (fun k=>thresherref13_Rows.f k T K M G l) (foldA T K M l):=by
 simp only [thresherref13_Rows.f]
 unfold foldA
 by_cases hM : M=1
 ·rw [if_pos hM]
  have:=rrows_plain hS l hl hw hM l.length 0 [] (by omega) rfl
  exact this.eq (by rw [List.drop_zero,List.nil_append])
 ·rw [if_neg hM]
  cases hc : l with
  | nil =>
   refine Ev.succ ?_
   simp only [thresherref13_Rows.l0]
   exact Ev.neg (by simp) (Ev.now _)
  | cons x xs =>
   have h : 0 < l.length:=by rw [hc];simp
   have:=rrows_loop hS l hl hw hM (l.length - 1) 1 [] x (by omega) (by simp) (hw x (by rw [hc];exact List.mem_cons_self))
   rw [← hc]
   refine Ev.succ ?_
   simp only [thresherref13_Rows.l0]
   have e0 : l[0]=x:=by simp [hc]
   refine Ev.pos (by omega) (Ev.neg hM (Ev.neg (by simp) (rrows_j hS l hl hw [] 0 h (by simp) false (fun _=>?_) (fun h=>absurd h (by simp)))))
   rw [e0]
   rw [List.nil_append,hc] at this ⊢
   exact this
end
end Go.Proofs.Ytfiandejapgkoaa.P

/- Rows that come in, made to fit and put in order; folded: how many, and of which form. -/
namespace Go.Proofs.Ytfiandejapgkoaa.P
open Go.RowKit Go.Proofs.YtfiandejapgkoaaW.PrintWords Go.Proofs.YtfiandejapgkoaaW.PrintLast
set_option linter.unusedVariables false
set_option linter.unusedSectionVars false
theorem foldA_length (T : List Int) (K M : Int) (l : List (List XV)) : (foldA T K M l).length≤l.length:=by
 unfold foldA
 split
 ·exact Nat.le_refl _
 ·exact foldR_length T K M l
theorem foldA_whole {T : List Int} (K M : Int) {l : List (List XV)} (hw : ∀ r ∈ l,Whole T r) : ∀ r ∈ foldA T K M l,Whole T r:=by
 unfold foldA
 split
 ·exact hw
 ·exact foldR_whole l hw
end Go.Proofs.Ytfiandejapgkoaa.P

/- The parts that chapter 14's laws speak of; the document's Rows and Folded. -/
namespace Go.Proofs.Ytfiandejapgkoaa.P
open Go.RowKit Go.Proofs.YtfiandejapgkoaaW.PrintWords Go.Proofs.YtfiandejapgkoaaW.PrintLast
set_option linter.unusedVariables false
set_option linter.unusedSectionVars false
theorem rdP_lt (l : List (List (List XV))) (i : Nat) (h : i < l.length) : rd_L4 l i=l[i]:=by unfold rd_L4;simp [List.getD,h]
def partR (T : List Int) (K : Int) (r : List (List XV)) : List (List XV):=sortR T K ((r.take 20).map (fitRow T)) []
def partsR (T : List Int) (K : Int) (l : List (List (List XV))) : List (List (List XV)):=(l.take 8).map (partR T K)
structure Part (T : List Int) (K : Int) (p : List (List XV)) : Prop where
 len : p.length≤60
 full : ∀ r ∈ p,Full T K r
 wide : ∀ r ∈ p,r.length=T.length
 ord : InOrd T K p
section
variable {T : List Int} {K M G : Int} (hS : Sch T K M G)
include hS
theorem fits20 (r : List (List XV)) (hr : ∀ a ∈ r,∀ v ∈ a,gd31 v) : Rows60 T K ((r.take 20).map (fitRow T))∧((r.take 20).map (fitRow T)).length≤20:=by
 have h20 : ((r.take 20).map (fitRow T)).length≤20:=by rw [List.length_map,List.length_take];omega
 refine ⟨⟨by omega,fun q hq=>?_,fun q hq=>?_⟩,h20⟩
 ·obtain ⟨a,ha,rfl⟩:=List.mem_map.mp hq
  exact fitRow_full hS a (GR_gd (hr a (List.mem_of_mem_take ha)))
 ·obtain ⟨a,ha,rfl⟩:=List.mem_map.mp hq
  exact fitRow_length T a
theorem partR_ok (r : List (List XV)) (hr : ∀ a ∈ r,∀ v ∈ a,gd31 v) : Part T K (partR T K r)∧(partR T K r).length≤20:=by
 obtain ⟨h1,h2⟩:=fits20 hS r hr
 obtain ⟨h3,h4⟩:=sorted_ok h1
 obtain ⟨_,a2,_⟩:=sortR_all T K ((r.take 20).map (fitRow T)) [] h1.full (by simp) List.Pairwise.nil
 exact ⟨⟨h3.len,h3.full,h3.wide,h4⟩,by unfold partR;rw [a2];simp only [List.length_nil];omega⟩
theorem parts_loop (l : List (List (List XV))) (hl : ∀ r ∈ l,∀ a ∈ r,∀ v ∈ a,gd31 v) : ∀ (d i : Nat),i + d=min l.length 8→Ev (fun k=>thresherlaw14_parts.l0 k l ((l.take i).map (partR T K)) i T K M G) (partsR T K l)
 | 0,i,hi=>by
  have e : (l.take i).map (partR T K)=partsR T K l:=by
   unfold partsR
   by_cases h : l.length≤8
   ·rw [List.take_of_length_le (by omega),List.take_of_length_le h]
   ·rw [show i=8 by omega]
  refine Ev.succ ?_
  simp only [thresherlaw14_parts.l0]
  rw [e]
  by_cases h : (i : Int) < (l.length : Int)
  ·refine Ev.pos h ?_
   rw [decide_eq_false (show ¬ ((i : Int) < 8) by omega)]
   refine Ev.succ ?_
   simp only [thresherlaw14_parts.j1]
   exact Ev.neg (by simp) (Ev.now _)
  ·refine Ev.neg h ?_
   refine Ev.succ ?_
   simp only [thresherlaw14_parts.j1]
   exact Ev.neg (by simp) (Ev.now _)
 | d + 1,i,hi=>by
  have h : i < l.length:=by omega
  have h8:=hS.n8
  refine Ev.succ ?_
  simp only [thresherlaw14_parts.l0]
  refine Ev.pos (by omega) ?_
  rw [decide_eq_true (show ((i : Int) < 8) by omega)]
  refine Ev.succ ?_
  simp only [thresherlaw14_parts.j1]
  rw [show wrap64 ((i : Int) + 1)=((i + 1 : Nat) : Int) by rw [w64 (by omega) (by omega)];omega,rdP_lt l i h]
  have hr:=hl _ (List.getElem_mem h)
  obtain ⟨h1,h2⟩:=fits20 hS l[i] hr
  refine Ev.pos trivial (Ev.pos (by omega) (Ev.pos (by omega) (Ev.bind (fits_ev T K M G l[i] 20 (by omega) (by omega)) (Ev.bind (sort_ev T K M G (by omega) _ (by omega) h1.gr) (Ev.pos (by rw [List.length_map,List.length_take];omega) ?_)))))
  have:=parts_loop l hl d (i + 1) (by omega)
  rw [List.take_succ_eq_append_getElem h,List.map_append] at this
  exact this
theorem parts_ev (l : List (List (List XV))) (hl : ∀ r ∈ l,∀ a ∈ r,∀ v ∈ a,gd31 v) : Ev (fun k=>thresherlaw14_parts.f k T K M G l) (partsR T K l):=by
 simp only [thresherlaw14_parts.f]
 exact parts_loop hS l hl (min l.length 8) 0 (by omega)
theorem partsR_ok (l : List (List (List XV))) (hl : ∀ r ∈ l,∀ a ∈ r,∀ v ∈ a,gd31 v) : (partsR T K l).length≤8∧∀ p ∈ partsR T K l,Part T K p∧p.length≤20:=by
 refine ⟨by unfold partsR;rw [List.length_map,List.length_take];omega,fun p hp=>?_⟩
 obtain ⟨r,hr,rfl⟩:=List.mem_map.mp hp
 exact partR_ok hS r (hl r (List.mem_of_mem_take hr))
end
theorem flat_len {l : List (List (List XV))} {n : Nat} : (∀ p ∈ l,p.length≤n)→l.flatten.length≤l.length * n:=by
 induction l with
 | nil=>intro _;simp
 | cons p l ih =>
  intro h
  rw [List.flatten_cons,List.length_append,List.length_cons,Nat.succ_mul]
  have h1:=h p (by simp)
  have h2:=ih (fun q hq=>h q (by simp [hq]))
  omega
section
variable {T : List Int} {K M G : Int} (hS : Sch T K M G) (l : List (List (List XV))) (hl : l.length≤16) (hp : ∀ p ∈ l,Part T K p)
include hS hl hp
theorem flat_le : l.flatten.length≤1000:=by
 have:=flat_len (l:=l) (n:=60) (fun p h=>(hp p h).len)
 have:=Nat.mul_le_mul_right 60 hl
 omega
theorem flat_full : ∀ r ∈ l.flatten,Full T K r:=fun r hr=>by
 obtain ⟨p,h1,h2⟩:=List.mem_flatten.mp hr
 exact (hp p h1).full r h2
theorem flat_wide : ∀ r ∈ l.flatten,r.length=T.length:=fun r hr=>by
 obtain ⟨p,h1,h2⟩:=List.mem_flatten.mp hr
 exact (hp p h1).wide r h2
theorem mrows_ev : Ev (fun k=>merge_Rows.f k T K M G l) (sortR T K l.flatten []):=by
 have h8:=hS.n8
 exact merge_ev T K l M G (by omega) (by omega) (by have:=flat_le hS l hl hp;omega) (fun p h=>(hp p h).full) (fun p h=>(hp p h).ord)
theorem merged : (sortR T K l.flatten []).length=l.flatten.length∧(∀ r ∈ sortR T K l.flatten [],Full T K r)∧(∀ r ∈ sortR T K l.flatten [],Whole T r)∧InOrd T K (sortR T K l.flatten []):=by
 obtain ⟨a1,a2,a3⟩:=sortR_all T K l.flatten [] (flat_full hS l hl hp) (by simp) List.Pairwise.nil
 have hm : ∀ r ∈ sortR T K l.flatten [],r ∈ l.flatten:=fun r hr=>by
  rcases (a3 r).mp hr with q|q
  ·exact q
  ·exact absurd q (by simp)
 exact ⟨by rw [a2];simp,fun r hr=>flat_full hS l hl hp r (hm r hr),fun r hr=>⟨flat_wide hS l hl hp r (hm r hr),(flat_full hS l hl hp r (hm r hr)).ok⟩,a1⟩
theorem mfold_ev : Ev (fun k=>merge_Folded.f k T K M G l) (foldA T K M (sortR T K l.flatten [])):=by
 obtain ⟨h1,h2,h3,h4⟩:=merged hS l hl hp
 have h5:=flat_le hS l hl hp
 simp only [merge_Folded.f]
 exact Ev.bind (mrows_ev hS l hl hp) (Ev.bind (frows_ev hS _ (by omega) h3) (Ev.now _))
theorem flat_take (i : Nat) : (l.take i).flatten.length≤1000:=by
 have h : (l.take i).flatten.length≤l.flatten.length:=by
  conv=>rhs;rw [← List.take_append_drop i l,List.flatten_append,List.length_append]
  omega
 have:=flat_le hS l hl hp
 omega
theorem r14_loop : ∀ (d i : Nat),i + d=l.length→Ev (fun k=>thresherref14_Rows.l0 k l (l.take i).flatten i T K M G) (sortR T K l.flatten [])
 | 0,i,hi=>by
  have h8:=hS.n8
  refine Ev.succ ?_
  simp only [thresherref14_Rows.l0]
  rw [List.take_of_length_le (by omega)]
  exact Ev.neg (by omega) (Ev.bind (sort_ev T K M G (by omega) _ (by have:=flat_le hS l hl hp;omega) (fun r hr=>(flat_full hS l hl hp r hr).ok.gr)) (Ev.now _))
 | d + 1,i,hi=>by
  have h : i < l.length:=by omega
  refine Ev.succ ?_
  simp only [thresherref14_Rows.l0]
  rw [show wrap64 ((i : Int) + 1)=((i + 1 : Nat) : Int) by rw [w64 (by omega) (by omega)];omega,rdP_lt l i h]
  have h1:=(hp _ (List.getElem_mem h)).len
  have h2:=flat_take hS l hl hp i
  refine Ev.pos (by omega) (Ev.pos (by omega) (Ev.pos (by omega) ?_))
  have:=r14_loop d (i + 1) (by omega)
  rw [List.take_succ_eq_append_getElem h,List.flatten_append] at this
  simpa using this
theorem r14_ev : Ev (fun k=>thresherref14_Rows.f k T K M G l) (sortR T K l.flatten []):=by
 simp only [thresherref14_Rows.f]
 exact r14_loop hS l hl hp l.length 0 (by omega)
theorem r14f_ev : Ev (fun k=>thresherref14_Folded.f k T K M G l) (foldA T K M (sortR T K l.flatten [])):=by
 obtain ⟨h1,h2,h3,h4⟩:=merged hS l hl hp
 have h5:=flat_le hS l hl hp
 simp only [thresherref14_Folded.f]
 exact Ev.bind (r14_ev hS l hl hp) (Ev.bind (rrows_ev hS _ (by omega) h3) (Ev.now _))
end
end Go.Proofs.Ytfiandejapgkoaa.P

/- The rows of any parts, merged, and folded, are as the document says: the plain law. -/
namespace Go.Proofs.Ytfiandejapgkoaa.Pure
open Go.RowKit Go.Proofs.Ytfiandejapgkoaa.P Go.Proofs.YtfiandejapgkoaaW.PrintWords Go.Proofs.YtfiandejapgkoaaW.PrintLast
set_option linter.unusedVariables false
theorem MergeAll : thresherlaw14_MergeAll.PureG:=by
 intro x r hx ⟨hr,hr2⟩
 obtain ⟨T,K,M,G,hmade,hS⟩:=made13_ev hx
 have h8:=hS.n8
 have hg : ∀ q ∈ r,∀ a ∈ q,∀ v ∈ a,gd31 v:=fun q hq a ha v hv=>(((hr2 q hq).2 a ha).2 v hv)
 obtain ⟨h1,h2⟩:=partsR_ok hS r hg
 have hl : (partsR T K r).length≤16:=by omega
 have hp:=fun p h=>(h2 p h).1
 obtain ⟨m1,m2,m3,m4⟩:=merged hS _ hl hp
 have hf:=flat_le hS _ hl hp
 have f1:=foldA_length T K M (sortR T K (partsR T K r).flatten [])
 have f2:=foldA_whole K M m3
 apply Ev.rounds
 simp only [thresherlaw14_MergeAll.f]
 refine Ev.bind shown13_ev (Ev.bind hmade (Ev.bind (parts_ev hS r hg) (Ev.bind (mrows_ev hS _ hl hp) (Ev.bind (r14_ev hS _ hl hp) (Ev.bind (rows_ev _ _ (by omega) (fun q h=>by rw [(m3 q h).len];omega)) (Ev.bind (mfold_ev hS _ hl hp) (Ev.bind (r14f_ev hS _ hl hp) (Ev.bind (rows_ev _ _ (by omega) (fun q h=>by rw [(f2 q h).len];omega)) ?_))))))))
 simp only [decide_true]
 refine Ev.pos trivial (Ev.pos trivial (Ev.succ ?_))
 simp only [thresherlaw14_MergeAll.j0]
 exact Ev.now _
end Go.Proofs.Ytfiandejapgkoaa.Pure

namespace Go.Proofs.Ytfiandejapgkoaa.mergeAll
open Go.ChangeShapes Go.WideShapes Go.ChangeAt Go.RowKit Go.Proofs.Ytfiandejapgkoaa.P Go.Proofs.YtfiandejapgkoaaW.PrintWords
set_option linter.unusedVariables false
set_option linter.unusedSimpArgs false
theorem own : ownKnob Try.prog.godebug=none:=by kernel_rfl
theorem laidOut : laidOutB Try.prog=true:=by kernel_rfl
set_option maxRecDepth 100000 in
theorem lifted (os : Os) (started : os.Started) (H : Type) (enc : TypeId × Value→H) :
  ReturnsInHanded {} Try.checked os 4 .any (Rows.mergeAllSpec.pre6 enc Try.prog Try.f4 Rows.mergeAllRow.domain false) (Rows.mergeAllSpec.post enc Try.prog Try.f4 false true false false):=by
 refine returnsInHanded_of_change_sized (C:=Try.checked) own started (by kernel_rfl) Try.func4
  (ChangeSpec.witness6 (enc:=enc) (C:=Try.checked) false ⟨#[],#[.agg #[.int .u8 0,.int .u8 0,.int .u8 0,.int .u8 0,.int .u8 0,.int .u8 0,.int .u8 0,.int .u8 0,.int .u8 0,.int .u8 0,.int .u8 0,.int .u8 0],.slice none 0 0],[]⟩ 8 (by kernel_rfl) (by kernel_rfl) (by kernel_rfl) (by kernel_rfl)) ?_
 intro W base args ds gs before hval0 hW hcnd hsz0 _
 have hval : ∀ (j : Nat) t v,Try.f4.params[j]?=some t→args[j]?=some v→Value.okWide Try.prog W .any base t v:=hval0
 have hW':=hW
 obtain ⟨p,q,hA0,hV,rfl,hfz,hnd⟩:=hW
 have hA : DataW.TrodAll enc Try.prog W 0 (fun _=>true) true Try.f4.params.toList args.toList ds p:=hA0
 rw [Try.params4] at hA hval
 obtain ⟨v0,vs0,d0,ds0,p0,q0,hargs,rfl,rfl,h0,r0⟩:=trodAll_cons hA
 obtain ⟨v1,vs1,d1,ds1,p1,q1,rfl,rfl,rfl,h1,r1⟩:=trodAll_cons r0
 obtain ⟨rfl,rfl,rfl⟩:=trodAll_nil r1
 obtain rfl : args=#[v0,v1]:=by cases args;simp_all
 obtain ⟨rfl,rfl⟩:=trodVars_none hV
 have lt0 : ∀ x ∈ p0,x.block < W.heap.size:=by obtain ⟨m,hm⟩:=h0;exact DataW.trod_lt m _ _ _ hm
 obtain ⟨x0,K0,g0⟩:=(op38).arg h0
 obtain ⟨cs0,rfl⟩:=okWide_agg Try.underlying38 (hval 0 38 v0 rfl rfl)
 have e0:=k38_open K0
 replace e0:=agg_of e0
 have lt1 : ∀ x ∈ p1,x.block < W.heap.size:=by obtain ⟨m,hm⟩:=h1;exact DataW.trod_lt m _ _ _ hm
 obtain ⟨x1,K1,g1⟩:=((opens_slice Try.underlying27 (by kernel_rfl) (opens_slice Try.underlying28 (by kernel_rfl) (opens_slice Try.underlying33 (by kernel_rfl) op31)))).arg h1
 obtain ⟨a1,len1,cap1,rfl⟩:=okWide_slice Try.underlying27 (hval 1 27 v1 rfl rfl)
 obtain ⟨A1,c1,e1,hl1,hr1⟩:=K1
 simp [Value.cells] at e1
 obtain ⟨rfl,rfl,rfl⟩:=e1
 obtain ⟨k,hk⟩:=Pure.MergeAll x0 x1 g0 g1
 have call : Calls Try.prog 4 #[.agg cs0,.slice a1 x1.length cap1] W fun e W'=>e=.returned (.bool true)∧Below W.heap.size W W':=by
  rw [e0]
  refine (thresherlaw14_MergeAll.calls k _ _ _ _ _ _ _ _ _ _ _ _ _ _ _ true W hr1 hl1 hk).mono ?_
  rintro e w' ⟨rfl,hd⟩
  exact ⟨rfl,hd⟩
 refine call.mono fun e W' ⟨he,bel⟩=>?_
 subst he
 exact ⟨_,rfl,_,_,_,[],_,[],hW',trodAll_mk1 (shut_bool Try.underlying4 _),(trodAll_cons_mk (Below.trod laidOut (by kernel_rfl) (of_decide_eq_true (by kernel_rfl)) h0 bel lt0) (trodAll_cons_mk (Below.trod laidOut (by kernel_rfl) (of_decide_eq_true (by kernel_rfl)) h1 bel lt1) trodAll_mk0)),rfl,bel.frame _,fun h=>by cases h⟩
theorem over : Rows.mergeAllRow.holds Try.pinned (OpenSpec.ofChange Rows.mergeAllSpec) :=
 OpenClaim.holds_of_wide 4 Try.f4 rfl rfl rfl rfl rfl rfl rfl ⟨rfl,rfl,rfl,rfl,rfl⟩ rfl rfl rfl rfl rfl (by kernel_rfl) Try.func4 (by kernel_rfl)
  (of_decide_eq_true (by kernel_rfl)) (by unfold Func.isWrapper;first|(rw [if_pos (by decide +kernel)];kernel_rfl)|(rw [if_neg (by decide +kernel)];exact ⟨rfl,rfl⟩))
  (fun os started H enc _=>lifted os started H enc)
theorem proved : Rows.MergeAllSaid:=over
#print axioms proved
end Go.Proofs.Ytfiandejapgkoaa.mergeAll
namespace Go.Proofs.Ytfiandejapgkoaa
theorem mergeAll_holds : Rows.MergeAllSaid:=mergeAll.proved
end Go.Proofs.Ytfiandejapgkoaa

