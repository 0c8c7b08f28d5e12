/- The row of IndexGrows. Merged: SIndexGrows, XChunks, XFit, XFitOk, XMade, XRVal, XFits, XRCmp, XRefMarks, XShape, XRowOk, XMarkOrd, XSort, XRange, XSixty, PureIndexGrows, RIndexGrows. -/
import Derived.Test.YtfccebnoflhkcaaQIndexGrowsPx14
import Derived.Test.YtfccebnoflhkcaaQIndexGrowsO
import Derived.Test.YtfccebnoflhkcaaQIndexGrowsXBase
import Derived.Test.YtfccebnoflhkcaaQIndexGrowsPx7
import Derived.Test.YtfccebnoflhkcaaQIndexGrowsXOrd
import Derived.Test.YtfccebnoflhkcaaQIndexGrowsPx3
import Derived.Test.YtfccebnoflhkcaaQIndexGrowsPx4
import Derived.Test.YtfccebnoflhkcaaQIndexGrowsPx5
import Derived.Test.YtfccebnoflhkcaaQIndexGrowsPx8
import Derived.Test.YtfccebnoflhkcaaQIndexGrowsPx6
import Derived.Test.YtfccebnoflhkcaaQIndexGrowsPx2
import Derived.Test.YtfccebnoflhkcaaQIndexGrowsHMeets
import Derived.Test.YtfccebnoflhkcaaQIndexGrowsXVCmp
import Derived.Test.YtfccebnoflhkcaaRows
import Derived.WalkKit
import Derived.ProofKit
import Derived.OpenShut
import Derived.ShutString
import Derived.ChangeOld
import Derived.Below
import Derived.SizedLaws
namespace Go.Proofs.Ytfccebnoflhkcaa.P
open Go.RowKit Go.Proofs.YtfccebnoflhkcaaW.PrintWords
def thresherlaw12_IndexGrows.PureG : Prop:=∀ (x0 : S24) (x1 : List (List (S44))) (x2 : S29),gd24 x0→(x1.length≤maxLen∧∀ a ∈ x1,(a.length≤maxLen∧∀ aa ∈ a,gd44 aa))→gd29 x2→∃ k,thresherlaw12_IndexGrows.f k x0.f0.f0 x0.f0.f1 x0.f0.f2 x0.f0.f3 x0.f0.f4 x0.f0.f5 x0.f0.f6 x0.f0.f7 x0.f1 x0.f2 x0.f3 x0.f4 x1 x2.f0 x2.f1 x2.f2 x2.f3=some true
end Go.Proofs.Ytfccebnoflhkcaa.P

/- Rows cut after every so many: plain. -/
namespace Go.Proofs.Ytfccebnoflhkcaa.P
open Go.RowKit Go.Proofs.YtfccebnoflhkcaaW.PrintWords Go.Proofs.YtfccebnoflhkcaaW.PrintLast Go.Proofs.YtfccebnoflhkcaaW.PrintMore
set_option linter.unusedVariables false
set_option linter.unusedSimpArgs false
def chunks {α : Type} (g : Nat) (l : List α) : List (List α):=if h : l=[] ∨ g=0 then [] else l.take g :: chunks g (l.drop g)
termination_by l.length
decreasing_by
 have h1 : l≠[]:=fun e=>h (Or.inl e)
 have h2:=List.length_pos_iff.mpr h1
 rw [List.length_drop]
 omega
theorem chunks_nil {α : Type} (g : Nat) : chunks g ([] : List α)=[]:=by rw [chunks];simp
theorem chunks_step {α : Type} {g : Nat} {l : List α} (hg : 1≤g) (hl : l≠[]) : chunks g l=l.take g :: chunks g (l.drop g):=by
 rw [chunks,dif_neg]
 rintro (h|h)
 ·exact hl h
 ·omega
theorem chunks_length {α : Type} {g : Nat} (hg : 1≤g) : ∀ (n : Nat) (l : List α),l.length≤n→(chunks g l).length≤l.length
 | 0,l,h=>by rw [List.length_eq_zero_iff.mp (by omega : l.length=0),chunks_nil];simp
 | n + 1,l,h=>by
  by_cases e : l=[]
  ·rw [e,chunks_nil];simp
  ·rw [chunks_step hg e]
   have h2:=List.length_pos_iff.mpr e
   have:=chunks_length hg n (l.drop g) (by rw [List.length_drop];omega)
   rw [List.length_drop] at this
   rw [List.length_cons]
   omega
end Go.Proofs.Ytfccebnoflhkcaa.P

/- A row made to fit. -/
namespace Go.Proofs.Ytfccebnoflhkcaa.P
open Go.RowKit Go.Proofs.YtfccebnoflhkcaaW.PrintWords Go.Proofs.YtfccebnoflhkcaaW.PrintLast Go.Proofs.YtfccebnoflhkcaaW.PrintMore
set_option linter.unusedVariables false
set_option linter.unusedSimpArgs false
theorem fit_turn (T : List Int) (K M G : Int) (r : List XV) (i : Nat) (acc : List XV) (v0 : Int) (v1 : ByteArray) (hi : i < T.length) (hT : T.length≤1000000) (ha : acc.length=i) {R : List XV} (h : Ev (fun k=>thresherref04_Fit.l0 k r (acc ++ [fit1 (rd T i) ⟨v0,v1⟩]) ((i + 1 : Nat) : Int) T K M G) R) : Ev (fun k=>thresherref04_Fit.j1 k r acc i T K M G v0 v1) R:=by
 refine Ev.succ ?_
 simp only [thresherref04_Fit.j1]
 simp (disch:=omega) only [w64]
 refine Ev.pos (by omega) (Ev.pos (by omega) ?_)
 unfold fit1 at h
 by_cases e : rd T i=3
 ·rw [if_pos e] at h
  refine Ev.pos e ?_
  by_cases s : (v1.size : Int) > 60
  ·simp only [if_pos s] at h
   exact Ev.pos s (Ev.pos (by omega) (Ev.pos (by omega) (Ev.pos (by omega) h)))
  ·simp only [if_neg s] at h
   exact Ev.neg s (Ev.pos (by omega) h)
 ·rw [if_neg e] at h
  exact Ev.neg e (Ev.pos (by omega) h)
theorem fit_loop (T : List Int) (K M G : Int) (r : List XV) (hT : T.length≤1000000) : ∀ (d i : Nat) (acc : List XV),i + d=T.length→acc.length=i→Ev (fun k=>thresherref04_Fit.l0 k r acc i T K M G) (acc ++ (List.range' i d).map fun (j : Nat)=>fit1 (rd T j) (rdV r j))
 | 0,i,acc,hi,ha=>by
  refine Ev.succ ?_
  simp only [thresherref04_Fit.l0]
  exact Ev.neg (by omega) ((Ev.now _).eq (by simp))
 | d + 1,i,acc,hi,ha=>by
  refine Ev.succ ?_
  simp only [thresherref04_Fit.l0]
  refine Ev.pos (by omega) ?_
  have hl : (acc ++ [fit1 (rd T i) (rdV r i)]).length=i + 1:=by simp;omega
  have h:=(fit_loop T K M G r hT d (i + 1) (acc ++ [fit1 (rd T i) (rdV r i)]) (by omega) hl).eq (r':=acc ++ (List.range' i (d + 1)).map fun (j : Nat)=>fit1 (rd T j) (rdV r j)) (by rw [List.append_assoc,List.range'_succ];rfl)
  by_cases e : i < r.length
  ·exact Ev.pos (by omega) (Ev.pos (by omega) (fit_turn T K M G r i acc _ _ (by omega) hT ha h))
  ·refine Ev.neg (by omega) (fit_turn T K M G r i acc _ _ (by omega) hT ha ?_)
   have e2 : rdV r i=⟨0,⟨#[]⟩⟩:=rdV_ge r i (by omega)
   rw [e2] at h
   exact h
theorem fit_ev (T : List Int) (K M G : Int) (r : List XV) (hT : T.length≤1000000) : Ev (fun k=>thresherref04_Fit.f k T K M G r) (fitRow T r):=by
 simp only [thresherref04_Fit.f]
 exact fit_loop T K M G r hT T.length 0 [] (by omega) rfl
end Go.Proofs.Ytfccebnoflhkcaa.P

/- A row made to fit fits. -/
namespace Go.Proofs.Ytfccebnoflhkcaa.P
open Go.RowKit Go.Proofs.YtfccebnoflhkcaaW.PrintWords Go.Proofs.YtfccebnoflhkcaaW.PrintLast Go.Proofs.YtfccebnoflhkcaaW.PrintMore
set_option linter.unusedVariables false
set_option linter.unusedSimpArgs false
theorem rdV_of (P : XV→Prop) (r : List XV) (h0 : P ⟨0,⟨#[]⟩⟩) (h : ∀ v ∈ r,P v) (i : Nat) : P (rdV r i):=by
 by_cases hi : i < r.length
 ·show P (rd_T44 r i)
  rw [rdV_lt r i hi]
  exact h _ (List.getElem_mem hi)
 ·show P (rd_T44 r i)
  rw [rdV_ge r i (by omega)]
  exact h0
theorem fit1_GV (t : Int) (v : XV) (h : GV v) : GV (fit1 t v):=by
 unfold fit1
 split
 ·exact ⟨by simp,by simp⟩
 ·exact h
theorem fitRow_at {T : List Int} {K M G : Int} (hS : Sch T K M G) (r : List XV) (hr : ∀ v ∈ r,GV v) (m : Nat) (hm : m≤T.length) : FitAt T (fitRow T r) m 0:=by
 intro j _ hj
 rw [rdV_fitRow T r j (by omega)]
 obtain ⟨h1,h2⟩:=hS.rdt j (by omega)
 exact ⟨fitT_fit1 _ _ h1 h2,fit1_GV _ _ (rdV_of GV r ⟨by simp,by simp⟩ hr j)⟩
theorem cmpFrom_congr (T : List Int) (a b c : List XV) : ∀ m i,(∀ j : Nat,i≤j→j < i + m→rdV a j=rdV b j)→cmpFrom T a c m i=cmpFrom T b c m i
 | 0,i,h=>rfl
 | m + 1,i,h=>by
  unfold cmpFrom
  rw [h i (by omega) (by omega),cmpFrom_congr T a b c m (i + 1) (fun j h1 h2=>h j (by omega) (by omega))]
theorem rdV_take (r : List XV) (n j : Nat) (h : j < n) : rdV (r.take n) j=rdV r j:=by
 show rd_T44 _ _=rd_T44 _ _
 by_cases hi : j < r.length
 ·rw [rdV_lt _ j (by rw [List.length_take];omega),rdV_lt r j hi,List.getElem_take]
 ·rw [rdV_ge _ j (by rw [List.length_take];omega),rdV_ge r j (by omega)]
end Go.Proofs.Ytfccebnoflhkcaa.P

/- A schema made of any numbers. -/
namespace Go.Proofs.Ytfccebnoflhkcaa.P
open Go.RowKit Go.Proofs.YtfccebnoflhkcaaW.PrintWords Go.Proofs.YtfccebnoflhkcaaW.PrintLast Go.Proofs.YtfccebnoflhkcaaW.PrintMore
set_option linter.unusedVariables false
set_option linter.unusedSimpArgs false
def U8 (x : Int) : Prop:=0≤x∧x≤255
theorem made_one {x : Int} {m : Int} (h : U8 x) (hm : 0 < m) (hm2 : m≤1000) : wrap64 (1 + Int.tmod (wrap64 x) m)=1 + x % m∧1≤1 + x % m∧1 + x % m≤m:=by
 obtain ⟨h0,h1⟩:=h
 have e1 : wrap64 x=x:=w64 (by omega) (by omega)
 have h2:=Int.emod_nonneg x (show m≠0 by omega)
 have h3:=Int.emod_lt_of_pos x hm
 rw [e1,Int.tmod_eq_emod_of_nonneg h0]
 exact ⟨w64 (by omega) (by omega),by omega,by omega⟩
theorem made_loop (x0 x1 x2 x3 x4 x5 x6 x7 K M G : Int) (hx : ∀ x ∈ [x0,x1,x2,x3,x4,x5,x6,x7],U8 x) (n : Nat) (hn : n≤8) : ∀ (d i : Nat) (T : List Int),i + d=n→T.length=i→(∀ t ∈ T,1≤t∧t≤3)→∃ T',Ev (fun k=>thresherref04_Made.l0 k n i x0 x1 x2 x3 x4 x5 x6 x7 T K M G) (T',K,M,G)∧T'.length=n∧∀ t ∈ T',1≤t∧t≤3
 | 0,i,T,hi,hT,ht=>by
  refine ⟨T,Ev.succ ?_,by omega,ht⟩
  simp only [thresherref04_Made.l0]
  exact Ev.neg (by omega) (Ev.now _)
 | d + 1,i,T,hi,hT,ht=>by
  have hr : U8 (rd [x0,x1,x2,x3,x4,x5,x6,x7] i):=by
   rw [rd_lt _ i (by simp;omega)]
   exact hx _ (List.getElem_mem _)
  obtain ⟨e,l1,l2⟩:=made_one (m:=3) hr (by omega) (by omega)
  obtain ⟨T',h1,h2,h3⟩:=made_loop x0 x1 x2 x3 x4 x5 x6 x7 K M G hx n hn d (i + 1) (T ++ [1 + rd [x0,x1,x2,x3,x4,x5,x6,x7] i % 3]) (by omega) (by simp;omega) (by
   intro t h
   rcases List.mem_append.mp h with h|h
   ·exact ht t h
   ·rw [List.mem_singleton.mp h];exact ⟨l1,l2⟩)
  refine ⟨T',Ev.succ ?_,h2,h3⟩
  simp only [thresherref04_Made.l0]
  rw [e]
  clear e
  simp (disch:=omega) only [w64]
  exact Ev.pos (by omega) (Ev.pos (by omega) (Ev.pos (by omega) (Ev.pos (by omega) h1)))
theorem made_ev (x0 x1 x2 x3 x4 x5 x6 x7 a b c d : Int) (h0 : U8 x0) (h1 : U8 x1) (h2 : U8 x2) (h3 : U8 x3) (h4 : U8 x4) (h5 : U8 x5) (h6 : U8 x6) (h7 : U8 x7) (ha : U8 a) (hb : U8 b) (hc : U8 c) (hd : U8 d) : ∃ T K M G,Ev (fun k=>thresherref04_Made.f k x0 x1 x2 x3 x4 x5 x6 x7 a b c d) (T,K,M,G)∧Sch T K M G:=by
 obtain ⟨ea,a1,a2⟩:=made_one (m:=8) ha (by omega) (by omega)
 obtain ⟨n,hn⟩ : ∃ n : Nat,1 + a % 8=n:=⟨(1 + a % 8).toNat,by omega⟩
 obtain ⟨eb,b1,b2⟩:=made_one (m:=1 + a % 8) hb (by omega) (by omega)
 obtain ⟨ec,c1,c2⟩:=made_one (m:=3) hc (by omega) (by omega)
 obtain ⟨ed,d1,d2⟩:=made_one (m:=8) hd (by omega) (by omega)
 simp only [thresherref04_Made.f,ea,eb,ec,ed]
 clear ea eb ec ed
 rw [hn] at b1 b2 a1 a2 ⊢
 obtain ⟨T,e,l,t⟩:=made_loop x0 x1 x2 x3 x4 x5 x6 x7 (1 + b % n) (1 + c % 3) (1 + d % 8) (by
  intro x hx
  simp only [List.mem_cons,List.not_mem_nil,or_false] at hx
  rcases hx with rfl|rfl|rfl|rfl|rfl|rfl|rfl|rfl <;> assumption) n (by omega) n 0 [] (by omega) rfl (by simp)
 exact ⟨T,_,_,_,Ev.neg (by omega) e,⟨by omega,by omega,t,b1,by omega,c1,c2,d1,d2⟩⟩
end Go.Proofs.Ytfccebnoflhkcaa.P

/- The document's Compare of values tells the same order. -/
namespace Go.Proofs.Ytfccebnoflhkcaa.P
open Go.RowKit Go.Proofs.YtfccebnoflhkcaaW.PrintWords Go.Proofs.YtfccebnoflhkcaaW.PrintLast Go.Proofs.YtfccebnoflhkcaaW.PrintMore
set_option linter.unusedVariables false
set_option linter.unusedSimpArgs false
theorem rfits_f (k : Nat) (t n : Int) (s : ByteArray) : thresherref03_Fits.f (k + 1) t n s=some (fitT t ⟨n,s⟩):=by
 unfold thresherref03_Fits.f fitT
 by_cases h1 : t=1
 ·rw [if_pos h1,if_pos (Or.inl h1)]
  subst h1
  rfl
 ·rw [if_neg h1]
  by_cases h2 : t=2
  ·rw [if_pos (Or.inr h2)]
   subst h2
   rfl
  ·rw [if_neg (by omega),show (t == 2)=false by simpa using h2]
   simp only [thresherref03_Fits.j0,Bool.false_eq_true,if_false]
   by_cases h3 : t=3
   ·rw [if_pos h3,if_pos h3]
    split <;> rfl
   ·rw [if_neg h3,if_neg h3]
theorem rfits_ev (t n : Int) (s : ByteArray) : Ev (fun k=>thresherref03_Fits.f k t n s) (fitT t ⟨n,s⟩):=Ev.succ ⟨0,fun k _=>rfits_f k t n s⟩
theorem both_ev (t : Int) (a b : XV) : Ev (fun k=>thresherref03_both.f k t a.f0 a.f1 b.f0 b.f1) (fitT t a && fitT t b):=by
 simp only [thresherref03_both.f]
 refine Ev.bind (rfits_ev t a.f0 a.f1) (Ev.bind (rfits_ev t b.f0 b.f1) ?_)
 by_cases ha : fitT t a=true
 ·exact (Ev.pos ha (Ev.now _)).eq (by rw [ha,Bool.true_and])
 ·exact (Ev.neg ha (Ev.now _)).eq (by rw [Bool.eq_false_iff.mpr ha,Bool.false_and])
theorem bt_lt (s : ByteArray) (i : Nat) (h : i < s.size) : bt s i=((s.data.toList[i]'(by simpa using h)).toNat : Int):=by
 unfold bt
 rw [dif_pos (by simpa using h)]
 rfl
theorem texts_loop (a b : ByteArray) (ha : a.size≤9223372036854775807) : ∀ (d i : Nat),i + d=a.size→i≤b.size→Ev (fun k=>thresherref03_texts.l0 k a b i) (Lib.compareBytes (a.data.toList.drop i) (b.data.toList.drop i))
 | 0,i,hi,hb=>by
  have hn : a.data.toList.length=a.size:=by simp
  have hn2 : b.data.toList.length=b.size:=by simp
  refine Ev.succ ?_
  simp only [thresherref03_texts.l0]
  refine Ev.neg (by omega) (Ev.succ ?_)
  simp only [thresherref03_texts.j1]
  refine Ev.neg (by simp) ?_
  rw [List.drop_of_length_le (by omega : a.data.toList.length≤i)]
  by_cases h : i < b.size
  ·rw [List.drop_eq_getElem_cons (by omega : i < b.data.toList.length)]
   exact Ev.pos (by omega) (Ev.now _)
  ·rw [List.drop_of_length_le (by omega : b.data.toList.length≤i)]
   exact Ev.neg (by omega) (Ev.neg (by omega) (Ev.now _))
 | d + 1,i,hi,hb=>by
  have hn : a.data.toList.length=a.size:=by simp
  have hn2 : b.data.toList.length=b.size:=by simp
  have h1 : i < a.data.toList.length:=by omega
  refine Ev.succ ?_
  simp only [thresherref03_texts.l0]
  refine Ev.pos (by omega) (Ev.succ ?_)
  simp only [thresherref03_texts.j1]
  rw [List.drop_eq_getElem_cons h1]
  by_cases h : i < b.size
  ·have h2 : i < b.data.toList.length:=by omega
   rw [List.drop_eq_getElem_cons h2,bt_lt a i (by omega),bt_lt b i h]
   simp (disch:=omega) only [w64]
   unfold Lib.compareBytes
   refine Ev.pos (by simpa using h) (Ev.pos (by omega) (Ev.pos (by omega) (Ev.pos (by omega) ?_)))
   by_cases p : a.data.toList[i] < b.data.toList[i]
   ·rw [if_pos p]
    exact Ev.pos (by have:=UInt8.lt_iff_toNat_lt.mp p;omega) (Ev.now _)
   ·rw [if_neg p]
    refine Ev.neg (fun q=>p (UInt8.lt_iff_toNat_lt.mpr (by omega))) ?_
    by_cases r : b.data.toList[i] < a.data.toList[i]
    ·rw [if_pos r]
     exact Ev.pos (by have:=UInt8.lt_iff_toNat_lt.mp r;omega) (Ev.now _)
    ·rw [if_neg r]
     exact Ev.neg (fun q=>r (UInt8.lt_iff_toNat_lt.mpr (by omega))) (texts_loop a b ha d (i + 1) (by omega) (by omega))
  ·rw [List.drop_of_length_le (by omega : b.data.toList.length≤i)]
   exact Ev.neg (by simpa using h) (Ev.neg (by omega) (Ev.pos (by omega) (Ev.now _)))
theorem texts_ev (a b : ByteArray) (ha : a.size≤9223372036854775807) : Ev (fun k=>thresherref03_texts.f k a b) (Lib.compareBytes a.data.toList b.data.toList):=by
 simp only [thresherref03_texts.f]
 exact texts_loop a b ha a.size 0 (by omega) (by omega)
theorem rcmpj_ev (p q : Bool) (r : Int) (h : r=if p=true then -1 else if q=true then 1 else 0) : Ev (fun k=>thresherref03_Compare.j0 k p q) r:=by
 refine Ev.succ ⟨0,fun k _=>?_⟩
 simp only [thresherref03_Compare.j0]
 rw [h]
 cases p <;> cases q <;> rfl
theorem rcmp_ev (t : Int) (a b : XV) (ga : GV a) (gb : GV b) (hs : a.f1.size≤9223372036854775807) : Ev (fun k=>thresherref03_Compare.f k t a.f0 a.f1 b.f0 b.f1) (cmpV t a b):=by
 obtain ⟨g1,g2⟩:=ga
 obtain ⟨g3,g4⟩:=gb
 simp only [thresherref03_Compare.f]
 refine Ev.bind (both_ev t a b) ?_
 by_cases h : fitT t a=true∧fitT t b=true
 ·rw [cmpV_fit h.1 h.2]
  refine Ev.pos (by rw [h.1,h.2];rfl) ?_
  by_cases e2 : t=2
  ·have ec : cmpC t a b=sgn (un a.f0) (un b.f0):=by unfold cmpC;rw [if_neg (by omega),if_pos e2]
   rw [ec]
   refine Ev.pos e2 ?_
   by_cases hn : ((decide (a.f0 < 0)) != (decide (b.f0 < 0)))=true
   ·refine Ev.pos hn (rcmpj_ev _ _ _ ?_)
    simp only [decide_eq_true_eq]
    unfold sgn un
    by_cases p : a.f0 < 0
    ·by_cases q : b.f0 < 0
     ·simp [p,q] at hn
     ·repeat' split
      all_goals omega
    ·by_cases q : b.f0 < 0
     ·repeat' split
      all_goals omega
     ·simp [p,q] at hn
   ·refine Ev.neg hn (rcmpj_ev _ _ _ ?_)
    simp only [decide_eq_true_eq]
    unfold sgn un
    by_cases p : a.f0 < 0
    ·by_cases q : b.f0 < 0
     ·repeat' split
      all_goals omega
     ·simp [p,q] at hn
    ·by_cases q : b.f0 < 0
     ·simp [p,q] at hn
     ·repeat' split
      all_goals omega
  ·refine Ev.neg e2 ?_
   by_cases e3 : t=3
   ·exact (Ev.pos e3 (Ev.bind (texts_ev _ _ hs) (Ev.now _))).eq (by unfold cmpC;rw [if_pos e3])
   ·have ec : cmpC t a b=sgn a.f0 b.f0:=by unfold cmpC;rw [if_neg e3,if_neg e2]
    rw [ec]
    refine Ev.neg e3 (rcmpj_ev _ _ _ ?_)
    simp only [decide_eq_true_eq]
    rfl
 ·exact (Ev.neg (fun q=>h (by simpa using q)) (Ev.now _)).eq (by unfold cmpV;rw [if_neg h])
def GR (r : List XV) : Prop:=∀ v ∈ r,GV v∧v.f1.size≤9223372036854775807
theorem GR.rdV {r : List XV} (h : GR r) (i : Nat) : GV (rdV r i)∧(P.rdV r i).f1.size≤9223372036854775807:=by
 by_cases hi : i < r.length
 ·show GV (rd_T44 r i)∧(rd_T44 r i).f1.size≤_
  rw [rdV_lt r i hi]
  exact h _ (List.getElem_mem hi)
 ·show GV (rd_T44 r i)∧(rd_T44 r i).f1.size≤_
  rw [rdV_ge r i (by omega)]
  exact ⟨⟨by simp,by simp⟩,by decide⟩
end Go.Proofs.Ytfccebnoflhkcaa.P

/- Rows made to fit. -/
namespace Go.Proofs.Ytfccebnoflhkcaa.P
open Go.RowKit Go.Proofs.YtfccebnoflhkcaaW.PrintWords Go.Proofs.YtfccebnoflhkcaaW.PrintLast Go.Proofs.YtfccebnoflhkcaaW.PrintMore
set_option linter.unusedVariables false
set_option linter.unusedSimpArgs false
theorem fits_loop (T : List Int) (K M G : Int) (l : List (List XV)) (n : Nat) (hn : n≤1000000) (hT : T.length≤1000000) : ∀ (d i : Nat) (acc : List (List XV)),i + d=min l.length n→acc.length=i→Ev (fun k=>thresherref04_Fits.l0 k l n acc i T K M G) (acc ++ ((l.take n).drop i).map (fitRow T))
 | 0,i,acc,hi,ha=>by
  refine Ev.succ ?_
  simp only [thresherref04_Fits.l0]
  have e : (l.take n).drop i=[]:=List.drop_of_length_le (by simp;omega)
  rw [e]
  by_cases h : (i : Int) < l.length
  ·exact Ev.pos h (Ev.neg (by omega) ((Ev.now _).eq (by simp)))
  ·exact Ev.neg h ((Ev.now _).eq (by simp))
 | d + 1,i,acc,hi,ha=>by
  have h1 : i < l.length:=by omega
  have h2 : i < n:=by omega
  refine Ev.succ ?_
  simp only [thresherref04_Fits.l0]
  have e : (l.take n).drop i=l[i] :: (l.take n).drop (i + 1):=by
   rw [List.drop_eq_getElem_cons (by simp;omega)]
   simp
  rw [rdR_lt l i h1,e]
  simp (disch:=omega) only [w64]
  refine Ev.pos (by omega) (Ev.pos (by omega) (Ev.pos (by omega) (Ev.bind (fit_ev T K M G _ hT) (Ev.pos (by omega) ?_))))
  refine (fits_loop T K M G l n hn hT d (i + 1) (acc ++ [fitRow T l[i]]) (by omega) (by simp;omega)).eq ?_
  simp
theorem fits_ev (T : List Int) (K M G : Int) (l : List (List XV)) (n : Nat) (hn : n≤1000000) (hT : T.length≤1000000) : Ev (fun k=>thresherref04_Fits.f k T K M G l n) ((l.take n).map (fitRow T)):=by
 simp only [thresherref04_Fits.f]
 exact fits_loop T K M G l n hn hT (min l.length n) 0 [] (by omega) rfl
end Go.Proofs.Ytfccebnoflhkcaa.P

/- The document's Compare of rows tells the same order. -/
namespace Go.Proofs.Ytfccebnoflhkcaa.P
open Go.RowKit Go.Proofs.YtfccebnoflhkcaaW.PrintWords Go.Proofs.YtfccebnoflhkcaaW.PrintLast Go.Proofs.YtfccebnoflhkcaaW.PrintMore
set_option linter.unusedVariables false
set_option linter.unusedSimpArgs false
theorem rowcmp_loop (T : List Int) (K M G : Int) (a b : List XV) (ga : GR a) (gb : GR b) (m : Nat) (hm : min (min (min K.toNat T.length) a.length) b.length=m) (hT : T.length≤1000000000) : ∀ (d i : Nat),i + d=m→Ev (fun k=>thresherref04_Compare.l0 k a b i T K M G) (cmpFrom T a b d i)
 | 0,i,hi=>by
  have hj : Ev (fun k=>thresherref04_Compare.j1 k a b i false T K M G) 0:=by
   refine Ev.succ ?_
   simp only [thresherref04_Compare.j1]
   exact Ev.neg (by simp) (Ev.now _)
  refine Ev.succ ?_
  simp only [thresherref04_Compare.l0]
  unfold cmpFrom
  by_cases h1 : (i : Int) < K
  ·refine Ev.pos h1 ?_
   by_cases h2 : (i : Int) < (T.length : Int)
   ·refine Ev.pos h2 ?_
    by_cases h3 : (i : Int) < (a.length : Int)
    ·refine Ev.pos h3 ?_
     rw [decide_eq_false (by omega : ¬ (i : Int) < (b.length : Int))]
     exact hj
    ·exact Ev.neg h3 hj
   ·exact Ev.neg h2 hj
  ·exact Ev.neg h1 hj
 | d + 1,i,hi=>by
  refine Ev.succ ?_
  simp only [thresherref04_Compare.l0]
  unfold cmpFrom
  refine Ev.pos (by omega) (Ev.pos (by omega) (Ev.pos (by omega) (Ev.succ ?_)))
  simp only [thresherref04_Compare.j1]
  simp (disch:=omega) only [w64]
  refine Ev.pos (decide_eq_true (by omega)) (Ev.pos (by omega) (Ev.pos (by omega) (Ev.pos (by omega) (Ev.pos (by omega) (Ev.bind (rcmp_ev _ _ _ (ga.rdV i).1 (gb.rdV i).1 (ga.rdV i).2) ?_)))))
  by_cases h : cmpV (rd T i) (rdV a i) (rdV b i)=0
  ·rw [if_pos h]
   exact Ev.pos h (rowcmp_loop T K M G a b ga gb m hm hT d (i + 1) (by omega))
  ·rw [if_neg h]
   exact Ev.neg h (Ev.now _)
theorem rowcmp_ev (T : List Int) (K M G : Int) (a b : List XV) (ga : GR a) (gb : GR b) (hT : T.length≤1000000000) : Ev (fun k=>thresherref04_Compare.f k T K M G a b) (cmpRow T K a b):=by
 simp only [thresherref04_Compare.f]
 exact rowcmp_loop T K M G a b ga gb _ rfl hT _ 0 (by omega)
end Go.Proofs.Ytfccebnoflhkcaa.P

/- The document's marks: the key of each granule's first row. -/
namespace Go.Proofs.Ytfccebnoflhkcaa.P
open Go.RowKit Go.Proofs.YtfccebnoflhkcaaW.PrintWords Go.Proofs.YtfccebnoflhkcaaW.PrintLast Go.Proofs.YtfccebnoflhkcaaW.PrintMore
set_option linter.unusedVariables false
set_option linter.unusedSimpArgs false
theorem refkey_f (T : List Int) (K : Nat) (M G : Int) (r : List XV) (hK : K≤r.length) (hK2 : K≤1000000) : thresherref10_Key.f T K M G r=some (r.take K):=by
 have h1 : ([] : List XV).length + (r.take K).length < 5864062014805:=by rw [List.length_take];simp;omega
 simp [thresherref10_Key.f]
 omega
def markOf (K : Nat) (c : List (List XV)) : List XV:=(c.headD []).take K
theorem refmarks_loop (T : List Int) (K : Nat) (M : Int) (g : Nat) (hg : 1≤g) (hg8 : g≤1000000) (hK2 : K≤1000000) (l : List (List XV)) (hl : l.length≤1000000) (hr : ∀ r ∈ l,K≤r.length) : ∀ (d i c : Nat) (acc : List (List XV)),i + d=l.length→acc.length≤i→c < g→i % g=c→Ev (fun k=>thresherref10_Marks.l0 k l acc i T K M g) (acc ++ (chunks g (l.drop (if c=0 then i else i + (g - c)))).map (markOf K))
 | 0,i,c,acc,hi,ha,hc,hm=>by
  refine Ev.succ ?_
  simp only [thresherref10_Marks.l0]
  have e : chunks g (l.drop (if c=0 then i else i + (g - c)))=[]:=by rw [List.drop_of_length_le (by split <;> omega),chunks_nil]
  rw [e]
  exact Ev.neg (by omega) ((Ev.now _).eq (by simp))
 | d + 1,i,c,acc,hi,ha,hc,hm=>by
  have h : i < l.length:=by omega
  refine Ev.succ ?_
  simp only [thresherref10_Marks.l0]
  have et : Int.tmod (i : Int) (g : Int)=((i % g : Nat) : Int):=by rw [Int.tmod_eq_emod_of_nonneg (by omega)];rfl
  rw [et,hm]
  have hn : (i + 1) % g=if c + 1=g then 0 else c + 1:=by
   rw [Nat.add_mod,hm]
   by_cases q : c + 1=g
   ·rw [if_pos q]
    by_cases q1 : g=1
    ·subst q1;exact Nat.mod_one _
    ·rw [Nat.mod_eq_of_lt (by omega : 1 < g),q,Nat.mod_self]
   ·rw [if_neg q,Nat.mod_eq_of_lt (by omega : 1 < g),Nat.mod_eq_of_lt (by omega)]
  simp (disch:=omega) only [w64]
  refine Ev.pos (by omega) (Ev.neg (by omega) ?_)
  by_cases c0 : c=0
  ·subst c0
   rw [if_pos rfl,rdR_lt l i h]
   have ne : l.drop i≠[]:=fun h0=>by have h4:=congrArg List.length h0;rw [List.length_drop,List.length_nil] at h4;omega
   refine Ev.pos (by omega) (Ev.pos (by omega) (Ev.bindc (refkey_f T K M g _ (hr _ (List.getElem_mem h)) hK2) (Ev.pos (by omega) ?_)))
   refine (refmarks_loop T K M g hg hg8 hK2 l hl hr d (i + 1) (if 0 + 1=g then 0 else 0 + 1) (acc ++ [l[i].take K]) (by omega) (by simp;omega) (by split <;> omega) hn).eq ?_
   rw [chunks_step hg ne,List.drop_drop]
   have e1 : (if (if 0 + 1=g then 0 else 0 + 1)=0 then i + 1 else i + 1 + (g - (if 0 + 1=g then 0 else 0 + 1)))=i + g:=by
    by_cases q : 0 + 1=g
    ·rw [if_pos q,if_pos rfl];omega
    ·rw [if_neg q,if_neg (by omega)];omega
   have e2 : markOf K ((l.drop i).take g)=l[i].take K:=by
    rw [List.drop_eq_getElem_cons h,show g=(g - 1) + 1 by omega,List.take_succ_cons]
    rfl
   rw [e1,List.map_cons,e2]
   simp
  ·rw [if_neg c0]
   refine Ev.neg (by omega) ?_
   refine (refmarks_loop T K M g hg hg8 hK2 l hl hr d (i + 1) (if c + 1=g then 0 else c + 1) acc (by omega) (by omega) (by split <;> omega) hn).eq ?_
   have e1 : (if (if c + 1=g then 0 else c + 1)=0 then i + 1 else i + 1 + (g - (if c + 1=g then 0 else c + 1)))=i + (g - c):=by
    by_cases q : c + 1=g
    ·rw [if_pos q,if_pos rfl];omega
    ·rw [if_neg q,if_neg (by omega)];omega
   rw [e1]
theorem refmarks_ev (T : List Int) (K : Nat) (M : Int) (g : Nat) (hg : 1≤g) (hg8 : g≤1000000) (hK2 : K≤1000000) (l : List (List XV)) (hl : l.length≤1000000) (hr : ∀ r ∈ l,K≤r.length) : Ev (fun k=>thresherref10_Marks.f k T K M g l) ((chunks g l).map (markOf K)):=by
 simp only [thresherref10_Marks.f]
 have:=refmarks_loop T K M g hg hg8 hK2 l hl hr l.length 0 0 [] (by omega) (by simp) (by omega) (Nat.zero_mod _)
 simpa using this
end Go.Proofs.Ytfccebnoflhkcaa.P

/- A schema of a shape. -/
namespace Go.Proofs.Ytfccebnoflhkcaa.P
open Go.RowKit Go.Proofs.YtfccebnoflhkcaaW.PrintWords Go.Proofs.YtfccebnoflhkcaaW.PrintLast Go.Proofs.YtfccebnoflhkcaaW.PrintMore
theorem u8_of {x : Int} (h : (Lit.int .u8 x).wf=true) : U8 x:=wf_u8 h
theorem shape_ev {x : S24} (h : gd24 x) : ∃ T K M G,Ev (fun k=>thresherref04_Made.f k x.f0.f0 x.f0.f1 x.f0.f2 x.f0.f3 x.f0.f4 x.f0.f5 x.f0.f6 x.f0.f7 x.f1 x.f2 x.f3 x.f4) (T,K,M,G)∧Sch T K M G:=by
 obtain ⟨⟨h0,h1,h2,h3,h4,h5,h6,h7⟩,ha,hb,hc,hd⟩:=h
 exact made_ev _ _ _ _ _ _ _ _ _ _ _ _ (u8_of h0) (u8_of h1) (u8_of h2) (u8_of h3) (u8_of h4) (u8_of h5) (u8_of h6) (u8_of h7) (u8_of ha) (u8_of hb) (u8_of hc) (u8_of hd)
end Go.Proofs.Ytfccebnoflhkcaa.P

/- Rows that fit, as far as they go: their order. -/
namespace Go.Proofs.Ytfccebnoflhkcaa.P
open Go.RowKit Go.Proofs.YtfccebnoflhkcaaW.PrintWords Go.Proofs.YtfccebnoflhkcaaW.PrintLast Go.Proofs.YtfccebnoflhkcaaW.PrintMore
set_option linter.unusedVariables false
set_option linter.unusedSimpArgs false
structure RowOk (T : List Int) (a : List XV) : Prop where
 len : a.length≤T.length
 fit : FitAt T a a.length 0
 gr : GR a
theorem FitAt.mono {T : List Int} {a : List XV} {m m' : Nat} (h : FitAt T a m 0) (hm : m'≤m) : FitAt T a m' 0:=fun j h1 h2=>h j h1 (by omega)
theorem fit1_size (t : Int) (v : XV) (h : v.f1.size≤9223372036854775807) : (fit1 t v).f1.size≤9223372036854775807:=by
 unfold fit1
 split
 ·show (if (v.f1.size : Int) > 60 then v.f1.extract 0 60 else v.f1).size≤_
  split
  ·rw [ByteArray.size_extract];omega
  ·exact h
 ·show (0 : Nat)≤_;omega
theorem fitRow_ok {T : List Int} {K M G : Int} (hS : Sch T K M G) (r : List XV) (hr : GR r) : RowOk T (fitRow T r):=by
 refine ⟨by rw [fitRow_length];omega,by rw [fitRow_length];exact fitRow_at hS r (fun v h=>(hr v h).1) _ (Nat.le_refl _),fun v hv=>?_⟩
 obtain ⟨i,hi,rfl⟩:=List.getElem_of_mem hv
 have hi2 : i < T.length:=by rwa [fitRow_length] at hi
 have e:=rdV_fitRow T r i hi2
 rw [show rdV (fitRow T r) i=(fitRow T r)[i] from rdV_lt _ i hi] at e
 rw [e]
 have:=hr.rdV i
 exact ⟨fit1_GV _ _ this.1,fit1_size _ _ this.2⟩
theorem RowOk.take {T : List Int} {a : List XV} (h : RowOk T a) (n : Nat) : RowOk T (a.take n):=by
 have hl : (a.take n).length≤a.length:=by rw [List.length_take];omega
 refine ⟨by have:=h.len;omega,fun j h1 h2=>?_,fun v hv=>h.gr v (List.mem_of_mem_take hv)⟩
 rw [List.length_take] at h2
 rw [rdV_take a n j (by omega)]
 exact h.fit j h1 (by omega)
theorem cmpFrom_pre (T : List Int) (a b : List XV) : ∀ m' m i,m'≤m→cmpFrom T a b m i≤0→cmpFrom T a b m' i≤0
 | 0,_,_,_,_=>by simp [cmpFrom]
 | m' + 1,0,_,h,_=>by omega
 | m' + 1,m + 1,i,h,hc=>by
  simp only [cmpFrom] at hc ⊢
  split
  ·rename_i h0
   rw [if_pos h0] at hc
   exact cmpFrom_pre T a b m' m (i + 1) (by omega) hc
  ·rename_i h0
   rw [if_neg h0] at hc
   exact hc
theorem cmpRow_anti (T : List Int) (K : Int) (a b : List XV) : cmpRow T K b a=- cmpRow T K a b:=by
 unfold cmpRow
 rw [cmpFrom_anti,show min (min (min K.toNat T.length) b.length) a.length=min (min (min K.toNat T.length) a.length) b.length by omega]
theorem cmpRow_tr (T : List Int) (K : Int) {a b c : List XV} (ha : RowOk T a) (hb : RowOk T b) (hc : RowOk T c) (hf : min K.toNat T.length≤b.length) : cmpRow T K a b≤0→cmpRow T K b c≤0→cmpRow T K a c≤0:=by
 unfold cmpRow
 intro h1 h2
 exact cmpFrom_trans T a b c _ 0 (ha.fit.mono (by omega)) (hb.fit.mono (by omega)) (hc.fit.mono (by omega)) (cmpFrom_pre T a b _ _ 0 (by omega) h1) (cmpFrom_pre T b c _ _ 0 (by omega) h2)
theorem cmpRow_take (T : List Int) (K : Nat) (a x : List XV) : cmpRow T K (a.take K) x=cmpRow T K a x:=by
 unfold cmpRow
 have e : min (min (min (K : Int).toNat T.length) (a.take K).length) x.length=min (min (min (K : Int).toNat T.length) a.length) x.length:=by rw [List.length_take];omega
 rw [e]
 refine cmpFrom_congr T _ _ x _ 0 (fun j h1 h2=>rdV_take a K j (by omega))
theorem cmpRow_take2 (T : List Int) (K : Nat) (a x : List XV) : cmpRow T K x (a.take K)=cmpRow T K x a:=by
 rw [cmpRow_anti T K (a.take K) x,cmpRow_take,← cmpRow_anti]
theorem cmpRow_self (T : List Int) (K : Int) (a : List XV) : cmpRow T K a a=0:=by have:=cmpRow_anti T K a a;omega
structure Full (T : List Int) (K : Int) (a : List XV) : Prop where
 ok : RowOk T a
 key : min K.toNat T.length≤a.length
theorem fitRow_full {T : List Int} {K M G : Int} (hS : Sch T K M G) (r : List XV) (hr : GR r) : Full T K (fitRow T r):=⟨fitRow_ok hS r hr,by rw [fitRow_length];omega⟩
def InOrd (T : List Int) (K : Int) (l : List (List XV)) : Prop:=l.Pairwise (fun a b=>cmpRow T K a b≤0)
theorem InOrd.at {T : List Int} {K : Int} {l : List (List XV)} (h : InOrd T K l) {i j : Nat} (hij : i≤j) (hj : j < l.length) : cmpRow T K (rdR l i) (rdR l j)≤0:=by
 rw [show rdR l i=l[i] from rdR_lt l i (by omega),show rdR l j=l[j] from rdR_lt l j hj]
 rcases Nat.eq_or_lt_of_le hij with e|h1
 ·subst e;rw [cmpRow_self];omega
 ·exact List.pairwise_iff_getElem.mp h i j (by omega) hj h1
end Go.Proofs.Ytfccebnoflhkcaa.P

/- The marks of rows in order are in order. -/
namespace Go.Proofs.Ytfccebnoflhkcaa.P
open Go.RowKit Go.Proofs.YtfccebnoflhkcaaW.PrintWords Go.Proofs.YtfccebnoflhkcaaW.PrintLast Go.Proofs.YtfccebnoflhkcaaW.PrintMore
set_option linter.unusedVariables false
set_option linter.unusedSimpArgs false
theorem chunks_get {α : Type} {g : Nat} (hg : 1≤g) : ∀ (n : Nat) (l : List α),l.length≤n→∀ c,(chunks g l)[c]?=if c * g < l.length then some ((l.drop (c * g)).take g) else none
 | 0,l,h,c=>by rw [List.length_eq_zero_iff.mp (by omega : l.length=0),chunks_nil];simp
 | n + 1,l,h,c=>by
  by_cases e : l=[]
  ·rw [e,chunks_nil];simp
  ·rw [chunks_step hg e]
   have h2:=List.length_pos_iff.mpr e
   cases c with
   | zero=>rw [if_pos (by omega)];simp
   | succ c =>
    rw [List.getElem?_cons_succ,chunks_get hg n (l.drop g) (by rw [List.length_drop];omega) c,List.length_drop,List.drop_drop]
    have e1 : (c + 1) * g=g + c * g:=by rw [Nat.succ_mul];omega
    rw [e1]
    by_cases q : c * g < l.length - g
    ·rw [if_pos q,if_pos (by omega)]
    ·rw [if_neg q,if_neg (by omega)]
def marksR (K g : Nat) (l : List (List XV)) : List (List XV):=(chunks g l).map (markOf K)
theorem marksR_get {g : Nat} (hg : 1≤g) (K : Nat) (l : List (List XV)) (c : Nat) : (marksR K g l)[c]?=if c * g < l.length then some ((rdR l (c * g : Nat)).take K) else none:=by
 unfold marksR
 rw [List.getElem?_map,chunks_get hg l.length l (Nat.le_refl _) c]
 by_cases q : c * g < l.length
 ·rw [if_pos q,if_pos q,show rdR l (c * g : Nat)=l[c * g] from rdR_lt l _ q,Option.map_some]
  unfold markOf
  rw [List.drop_eq_getElem_cons q]
  cases g with
  | zero=>omega
  | succ g=>rfl
 ·rw [if_neg q,if_neg q];rfl
theorem marksR_lt {g : Nat} (hg : 1≤g) (K : Nat) (l : List (List XV)) (c : Nat) : c < (marksR K g l).length ↔ c * g < l.length:=by
 have h:=marksR_get hg K l c
 by_cases q : c * g < l.length
 ·rw [if_pos q] at h
  exact ⟨fun _=>q,fun _=>(List.getElem?_eq_some_iff.mp h).1⟩
 ·rw [if_neg q] at h
  have:=List.getElem?_eq_none_iff.mp h
  exact ⟨fun h2=>by omega,fun h2=>absurd h2 q⟩
theorem marksR_at {g : Nat} (hg : 1≤g) (K : Nat) (l : List (List XV)) (c : Nat) (hc : c < (marksR K g l).length) : rdR (marksR K g l) c=(rdR l (c * g : Nat)).take K:=by
 have h:=marksR_get hg K l c
 rw [if_pos ((marksR_lt hg K l c).mp hc)] at h
 rw [show rdR (marksR K g l) c=_ from rdR_lt _ c hc]
 exact (List.getElem?_eq_some_iff.mp h).2
theorem marksR_le {g : Nat} (hg : 1≤g) (K : Nat) (l : List (List XV)) : (marksR K g l).length≤l.length:=by
 unfold marksR
 rw [List.length_map]
 exact chunks_length hg l.length l (Nat.le_refl _)
theorem marksR_full {T : List Int} {K g : Nat} (hg : 1≤g) {l : List (List XV)} (hf : ∀ r ∈ l,Full T K r) : ∀ r ∈ marksR K g l,Full T K r:=by
 intro r hr
 obtain ⟨c,hc,rfl⟩:=List.getElem_of_mem hr
 have e:=marksR_at hg K l c hc
 rw [show rdR (marksR K g l) c=_ from rdR_lt _ c hc] at e
 have hq:=(marksR_lt hg K l c).mp hc
 have h1:=hf _ (List.getElem_mem hq)
 rw [e,show rdR l (c * g : Nat)=_ from rdR_lt l _ hq]
 exact ⟨h1.ok.take K,by rw [List.length_take];have:=h1.key;omega⟩
theorem marksR_cmp {T : List Int} {K g : Nat} (hg : 1≤g) {l : List (List XV)} (c : Nat) (hc : c < (marksR K g l).length) (x : List XV) : cmpRow T K (rdR (marksR K g l) c) x=cmpRow T K (rdR l (c * g : Nat)) x:=by
 rw [marksR_at hg K l c hc,cmpRow_take]
theorem marksR_cmp2 {T : List Int} {K g : Nat} (hg : 1≤g) {l : List (List XV)} (c : Nat) (hc : c < (marksR K g l).length) (x : List XV) : cmpRow T K x (rdR (marksR K g l) c)=cmpRow T K x (rdR l (c * g : Nat)):=by
 rw [marksR_at hg K l c hc,cmpRow_take2]
theorem marksR_ord {T : List Int} {K g : Nat} (hg : 1≤g) {l : List (List XV)} (ho : InOrd T K l) : InOrd T K (marksR K g l):=by
 refine List.pairwise_iff_getElem.mpr (fun i j hi hj hij=>?_)
 rw [← show rdR (marksR K g l) i=_ from rdR_lt _ i hi,← show rdR (marksR K g l) j=_ from rdR_lt _ j hj,marksR_cmp hg i hi,marksR_cmp2 hg j hj]
 exact ho.at (Nat.mul_le_mul_right g (by omega)) ((marksR_lt hg K l j).mp hj)
end Go.Proofs.Ytfccebnoflhkcaa.P

/- The document's Sort puts rows in order. -/
namespace Go.Proofs.Ytfccebnoflhkcaa.P
open Go.RowKit Go.Proofs.YtfccebnoflhkcaaW.PrintWords Go.Proofs.YtfccebnoflhkcaaW.PrintLast Go.Proofs.YtfccebnoflhkcaaW.PrintMore
set_option linter.unusedVariables false
set_option linter.unusedSimpArgs false
def insR (T : List Int) (K : Int) (x : List XV) : List (List XV)→List (List XV)
 | []=>[x]
 | y :: l=>if cmpRow T K y x > 0 then x :: y :: l else y :: insR T K x l
theorem insR_cons (T : List Int) (K : Int) (x y : List XV) (l : List (List XV)) : insR T K x (y :: l)=if cmpRow T K y x > 0 then x :: y :: l else y :: insR T K x l:=rfl
def sortR (T : List Int) (K : Int) (l acc : List (List XV)) : List (List XV):=l.foldl (fun a x=>insR T K x a) acc
theorem insR_length (T : List Int) (K : Int) (x : List XV) : ∀ l,(insR T K x l).length=l.length + 1
 | []=>rfl
 | y :: l=>by
  unfold insR
  split
  ·simp
  ·simp [insR_length T K x l]
theorem insR_mem (T : List Int) (K : Int) (x : List XV) : ∀ l z,z ∈ insR T K x l ↔ z=x ∨ z ∈ l
 | [],z=>by simp [insR]
 | y :: l,z=>by
  unfold insR
  split
  ·simp
  ·rw [List.mem_cons,insR_mem T K x l z,List.mem_cons]
   constructor
   ·rintro (h|h|h)
    ·exact Or.inr (Or.inl h)
    ·exact Or.inl h
    ·exact Or.inr (Or.inr h)
   ·rintro (h|h|h)
    ·exact Or.inr (Or.inl h)
    ·exact Or.inl h
    ·exact Or.inr (Or.inr h)
theorem insR_ord (T : List Int) (K : Int) (x : List XV) (hx : Full T K x) : ∀ l,(∀ r ∈ l,Full T K r)→InOrd T K l→InOrd T K (insR T K x l)
 | [],_,_=>List.pairwise_singleton _ _
 | y :: l,hl,ho=>by
  have ho2:=List.pairwise_cons.mp ho
  have hy:=hl y List.mem_cons_self
  unfold insR
  split
  ·rename_i h
   have h2 : cmpRow T K x y≤0:=by rw [cmpRow_anti];omega
   refine List.pairwise_cons.mpr ⟨fun z hz=>?_,ho⟩
   rcases List.mem_cons.mp hz with rfl|hz
   ·exact h2
   ·exact cmpRow_tr T K hx.ok hy.ok (hl z (List.mem_cons_of_mem _ hz)).ok hy.key h2 (ho2.1 z hz)
  ·rename_i h
   refine List.pairwise_cons.mpr ⟨fun z hz=>?_,insR_ord T K x hx l (fun r hr=>hl r (List.mem_cons_of_mem _ hr)) ho2.2⟩
   rcases (insR_mem T K x l z).mp hz with rfl|hz
   ·omega
   ·exact ho2.1 z hz
theorem sortR_all (T : List Int) (K : Int) : ∀ (l acc : List (List XV)),(∀ r ∈ l,Full T K r)→(∀ r ∈ acc,Full T K r)→InOrd T K acc→InOrd T K (sortR T K l acc)∧(sortR T K l acc).length=l.length + acc.length∧∀ z,z ∈ sortR T K l acc ↔ z ∈ l ∨ z ∈ acc
 | [],acc,_,_,ho=>⟨ho,by simp [sortR],fun z=>by simp [sortR]⟩
 | x :: l,acc,hl,ha,ho=>by
  have hx:=hl x List.mem_cons_self
  obtain ⟨a1,a2,a3⟩:=sortR_all T K l (insR T K x acc) (fun r hr=>hl r (List.mem_cons_of_mem _ hr)) (fun r hr=>by
   rcases (insR_mem T K x acc r).mp hr with rfl|h
   ·exact hx
   ·exact ha r h) (insR_ord T K x hx acc ha ho)
  refine ⟨a1,?_,fun z=>?_⟩
  ·show (sortR T K l (insR T K x acc)).length=_
   rw [a2,insR_length,List.length_cons];omega
  ·show z ∈ sortR T K l (insR T K x acc) ↔ _
   rw [a3,insR_mem,List.mem_cons]
   constructor
   ·rintro (h|h|h)
    ·exact Or.inl (Or.inr h)
    ·exact Or.inl (Or.inl h)
    ·exact Or.inr h
   ·rintro ((h|h)|h)
    ·exact Or.inr (Or.inl h)
    ·exact Or.inl h
    ·exact Or.inr (Or.inr h)
theorem sort_in (T : List Int) (K M G : Int) (hT : T.length≤1000000000) (l out : List (List XV)) (i : Nat) (hi : i < l.length) (hl : l.length≤1000000) (ho : out.length≤1000000) (gl : ∀ r ∈ l,GR r) (go : ∀ r ∈ out,GR r) {R : List (List XV)} (hR : Ev (fun k=>thresherref09_Sort.l0 k l (insR T K l[i] out) ((i + 1 : Nat) : Int) T K M G) R) :
  ∀ (d j : Nat) (next : List (List XV)) (put : Bool),j + d=out.length→next.length≤2 * j + 1→(put=true→next ++ out.drop j=insR T K l[i] out)→(put=false→next ++ insR T K l[i] (out.drop j)=insR T K l[i] out)→Ev (fun k=>thresherref09_Sort.l1 k l out i next put j T K M G) R
 | 0,j,next,put,hj,hn,hp,hq=>by
  refine Ev.succ ?_
  simp only [thresherref09_Sort.l1]
  have e0 : out.drop j=[]:=List.drop_of_length_le (by omega)
  rw [e0] at hp hq
  refine Ev.neg (by omega) ?_
  cases put
  ·have h:=hq rfl
   refine Ev.neg (by simp) (Ev.pos (by omega) (Ev.pos (by omega) (Ev.pos (by omega) ?_)))
   rw [rdR_lt l i hi]
   simp (disch:=omega) only [w64]
   rw [show next ++ [l[i]]=insR T K l[i] out from h]
   exact hR
  ·have h:=hp rfl
   rw [List.append_nil] at h
   refine Ev.pos rfl ?_
   simp (disch:=omega) only [w64]
   rw [h]
   exact hR
 | d + 1,j,next,put,hj,hn,hp,hq=>by
  have h : j < out.length:=by omega
  refine Ev.succ ?_
  simp only [thresherref09_Sort.l1]
  rw [List.drop_eq_getElem_cons h] at hp hq
  rw [rdR_lt out j h,rdR_lt l i hi]
  simp (disch:=omega) only [w64]
  refine Ev.pos (by omega) ?_
  cases put
  ·refine Ev.neg (by simp) (Ev.pos (by omega) (Ev.pos (by omega) (Ev.pos (by omega) (Ev.bind (rowcmp_ev T K M G out[j] l[i] (go _ (List.getElem_mem h)) (gl _ (List.getElem_mem hi)) hT) ?_))))
   have hq2:=hq rfl
   rw [insR_cons] at hq2
   by_cases hc : cmpRow T K out[j] l[i] > 0
   ·rw [if_pos hc] at hq2
    refine Ev.pos hc (Ev.pos (by omega) (Ev.bindc rfl (Ev.pos (by simp;omega) ?_)))
    refine sort_in T K M G hT l out i hi hl ho gl go hR d (j + 1) _ true (by omega) (by simp;omega) (fun _=>?_) (fun h=>absurd h (by simp))
    rw [← hq2];simp
   ·rw [if_neg hc] at hq2
    refine Ev.neg hc (Ev.pos (by omega) ?_)
    refine sort_in T K M G hT l out i hi hl ho gl go hR d (j + 1) _ false (by omega) (by simp;omega) (fun h=>absurd h (by simp)) (fun _=>?_)
    rw [← hq2];simp
  ·refine Ev.pos rfl (Ev.pos (by omega) (Ev.pos (by omega) ?_))
   refine sort_in T K M G hT l out i hi hl ho gl go hR d (j + 1) _ true (by omega) (by simp;omega) (fun _=>?_) (fun h=>absurd h (by simp))
   rw [← hp rfl];simp
theorem sort_loop (T : List Int) (K M G : Int) (hT : T.length≤1000000000) (l : List (List XV)) (hl : l.length≤500000) (gl : ∀ r ∈ l,GR r) : ∀ (d i : Nat) (acc : List (List XV)),i + d=l.length→acc.length≤i→(∀ r ∈ acc,GR r)→Ev (fun k=>thresherref09_Sort.l0 k l acc i T K M G) (sortR T K (l.drop i) acc)
 | 0,i,acc,hi,ha,ga=>by
  refine Ev.succ ?_
  simp only [thresherref09_Sort.l0]
  rw [List.drop_of_length_le (by omega)]
  exact Ev.neg (by omega) (Ev.now _)
 | d + 1,i,acc,hi,ha,ga=>by
  have h : i < l.length:=by omega
  refine Ev.succ ?_
  simp only [thresherref09_Sort.l0]
  refine Ev.pos (by omega) ?_
  rw [List.drop_eq_getElem_cons h]
  have hR:=sort_loop T K M G hT l hl gl d (i + 1) (insR T K l[i] acc) (by omega) (by rw [insR_length];omega) (fun r hr=>by
   rcases (insR_mem T K l[i] acc r).mp hr with rfl|h2
   ·exact gl _ (List.getElem_mem h)
   ·exact ga r h2)
  exact sort_in T K M G hT l acc i h (by omega) (by omega) gl ga hR acc.length 0 [] false (by omega) (by simp) (fun h=>absurd h (by simp)) (fun _=>rfl)
theorem sort_ev (T : List Int) (K M G : Int) (hT : T.length≤1000000000) (l : List (List XV)) (hl : l.length≤500000) (gl : ∀ r ∈ l,GR r) : Ev (fun k=>thresherref09_Sort.f k T K M G l) (sortR T K l []):=by
 simp only [thresherref09_Sort.f]
 exact sort_loop T K M G hT l hl gl l.length 0 [] (by omega) (by simp) (by simp)
end Go.Proofs.Ytfccebnoflhkcaa.P

/- Ranges of rows: which granules may have some. -/
namespace Go.Proofs.Ytfccebnoflhkcaa.P
open Go.RowKit Go.Proofs.YtfccebnoflhkcaaW.PrintWords Go.Proofs.YtfccebnoflhkcaaW.PrintLast Go.Proofs.YtfccebnoflhkcaaW.PrintMore
set_option linter.unusedVariables false
set_option linter.unusedSimpArgs false
theorem bsearch_at (p : Nat→Bool) (n : Nat) (hp : ∀ i j,i≤j→j < n→p i=true→p j=true) : ∀ m i j,j - i≤m→i≤j→j≤n→(∀ x,x < i→p x=false)→(∀ x,j≤x→x < n→p x=true)→bsearch p m i j≤n∧∀ x,x < n→(p x=true ↔ bsearch p m i j≤x)
 | 0,i,j,hm,hij,hj,h1,h2=>by
  rw [bsearch]
  refine ⟨by omega,fun x hx=>⟨fun h=>?_,fun h=>h2 x (by omega) hx⟩⟩
  rcases Nat.lt_or_ge x i with q|q
  ·rw [h1 x q] at h;exact absurd h (by simp)
  ·exact q
 | m + 1,i,j,hm,hij,hj,h1,h2=>by
  rw [bsearch]
  split
  ·split
   ·rename_i hlt hpt
    exact bsearch_at p n hp m i ((i + j) / 2) (by omega) (by omega) (by omega) h1 (fun x hx hn=>hp _ x hx hn hpt)
   ·rename_i hlt hpt
    refine bsearch_at p n hp m ((i + j) / 2 + 1) j (by omega) (by omega) hj (fun x hx=>?_) h2
    cases q : p x
    ·rfl
    ·exact absurd (hp x ((i + j) / 2) (by omega) (by omega) q) hpt
  ·refine ⟨by omega,fun x hx=>⟨fun h=>?_,fun h=>h2 x (by omega) hx⟩⟩
   rcases Nat.lt_or_ge x i with q|q
   ·rw [h1 x q] at h;exact absurd h (by simp)
   ·exact q
theorem bsearch_spec (p : Nat→Bool) (n : Nat) (hp : ∀ i j,i≤j→j < n→p i=true→p j=true) : bsearch p n 0 n≤n∧∀ x,x < n→(p x=true ↔ bsearch p n 0 n≤x) :=
 bsearch_at p n hp n 0 n (by omega) (by omega) (by omega) (fun x h=>absurd h (by omega)) (fun x h1 h2=>by omega)
def inV (T : List Int) (K : Int) (hl hh : Bool) (lo hi row : List XV) : Bool:=(!hl || decide (cmpRow T K row lo ≥ 0)) && (!hh || decide (cmpRow T K row hi≤0))
theorem in_ev (T : List Int) (K M G : Int) (hl hh : Bool) (lo hi row : List XV) (hT : T.length≤1000000000) : Ev (fun k=>index_In.f k T K M G hl hh lo hi row) (inV T K hl hh lo hi row):=by
 simp only [index_In.f]
 unfold inV
 cases hl
 ·refine Ev.neg (by simp) ?_
  cases hh
  ·exact Ev.neg (by simp) ((Ev.now _).eq (by simp))
  ·exact Ev.pos rfl (Ev.bind (scmp_ev T K M G row hi hT) ((Ev.now _).eq (by simp)))
 ·refine Ev.pos rfl (Ev.bind (scmp_ev T K M G row lo hT) ?_)
  by_cases h : cmpRow T K row lo ≥ 0
  ·refine Ev.pos h ?_
   cases hh
   ·exact Ev.neg (by simp) ((Ev.now _).eq (by simp [h]))
   ·exact Ev.pos rfl (Ev.bind (scmp_ev T K M G row hi hT) ((Ev.now _).eq (by simp [h])))
  ·exact Ev.neg h ((Ev.now _).eq (by simp [h]))
section
variable {T : List Int} {K : Int} {l : List (List XV)} {hl hh : Bool} {lo hi : List XV}
theorem above_mono (ho : InOrd T K l) (hf : ∀ r ∈ l,Full T K r) (h2 : RowOk T hi) : ∀ i j,i≤j→j < l.length→aboveV T K l hh hi i=true→aboveV T K l hh hi j=true:=by
 intro i j hij hj h
 unfold aboveV at h ⊢
 rw [Bool.and_eq_true] at h ⊢
 refine ⟨h.1,?_⟩
 have h3:=of_decide_eq_true h.2
 apply decide_eq_true
 have fi:=hf _ (List.getElem_mem (by omega : i < l.length))
 have fj:=hf _ (List.getElem_mem hj)
 rw [← show rdR l i=_ from rdR_lt l i (by omega)] at fi
 rw [← show rdR l j=_ from rdR_lt l j hj] at fj
 have ht:=cmpRow_tr T K fi.ok fj.ok h2 fj.key (ho.at hij hj)
 rcases Int.lt_or_le 0 (cmpRow T K (rdR l j) hi) with q|q
 ·exact q
 ·have:=ht q
  omega
end
end Go.Proofs.Ytfccebnoflhkcaa.P

/- Rows made to fit, and put in order. -/
namespace Go.Proofs.Ytfccebnoflhkcaa.P
open Go.RowKit Go.Proofs.YtfccebnoflhkcaaW.PrintWords Go.Proofs.YtfccebnoflhkcaaW.PrintLast Go.Proofs.YtfccebnoflhkcaaW.PrintMore
set_option linter.unusedVariables false
set_option linter.unusedSimpArgs false
theorem GR_gd {r : List XV} (h : ∀ v ∈ r,gd44 v) : GR r:=fun v hv=>by
 obtain ⟨h1,h2⟩:=h v hv
 exact ⟨wf_i64 h1,by unfold maxLen at h2;omega⟩
def fitsR (T : List Int) (l : List (List XV)) : List (List XV):=(l.take 60).map (fitRow T)
structure Rows60 (T : List Int) (K : Int) (l : List (List XV)) : Prop where
 len : l.length≤60
 full : ∀ r ∈ l,Full T K r
 wide : ∀ r ∈ l,r.length=T.length
theorem Rows60.gr {T : List Int} {K : Int} {l : List (List XV)} (h : Rows60 T K l) : ∀ r ∈ l,GR r:=fun r hr=>(h.full r hr).ok.gr
theorem fitsR_ok {T : List Int} {K M G : Int} (hS : Sch T K M G) (l : List (List XV)) (hl : ∀ a ∈ l,∀ v ∈ a,gd44 v) : Rows60 T K (fitsR T l):=by
 refine ⟨by unfold fitsR;rw [List.length_map,List.length_take];omega,fun r hr=>?_,fun r hr=>?_⟩
 ·obtain ⟨a,ha,rfl⟩:=List.mem_map.mp hr
  exact fitRow_full hS a (GR_gd (hl a (List.mem_of_mem_take ha)))
 ·obtain ⟨a,ha,rfl⟩:=List.mem_map.mp hr
  exact fitRow_length T a
theorem sorted_ok {T : List Int} {K : Int} {l : List (List XV)} (h : Rows60 T K l) : Rows60 T K (sortR T K l [])∧InOrd T K (sortR T K l []):=by
 obtain ⟨a1,a2,a3⟩:=sortR_all T K l [] h.full (by simp) List.Pairwise.nil
 refine ⟨⟨by have:=h.len;simp at a2;omega,fun r hr=>?_,fun r hr=>?_⟩,a1⟩
 ·rcases (a3 r).mp hr with q|q
  ·exact h.full r q
  ·exact absurd q (by simp)
 ·rcases (a3 r).mp hr with q|q
  ·exact h.wide r q
  ·exact absurd q (by simp)
end Go.Proofs.Ytfccebnoflhkcaa.P

/- A wider range takes no row away, and no granule; a range of keys is what is in both of its halves: the plain law. -/
namespace Go.Proofs.Ytfccebnoflhkcaa.Pure
open Go.RowKit Go.Proofs.Ytfccebnoflhkcaa.P Go.Proofs.YtfccebnoflhkcaaW.PrintWords Go.Proofs.YtfccebnoflhkcaaW.PrintLast
set_option linter.unusedVariables false
theorem shown_ev : Ev (fun k=>thresherlaw12_shown.f k) true:=Ev.of thresherlaw12_shown.mono (k:=10) (by kernel_rfl)
theorem meets_ev (T : List Int) (K M G : Int) (hT : T.length≤1000000000) (m : List (List XV)) (hm : m.length≤1000000000) (hl hh : Bool) (lo hi : List XV) : Ev (fun k=>index_Meets.f k T K M G m hl hh lo hi) (meetsV T K m hl hh lo hi):=⟨0,fun k _=>by unfold index_Meets.f;rw [if_pos ⟨hT,hm⟩]⟩
theorem begins_none (T : List Int) (K : Int) (m : List (List XV)) (lo : List XV) (h : 0 < m.length) : bsearch (beginsV T K m false lo) m.length 0 m.length=0:=by
 obtain ⟨f1,f2⟩:=bsearch_spec (beginsV T K m false lo) m.length (fun i j _ _ _=>by unfold beginsV;simp)
 have:=(f2 0 h).mp (by unfold beginsV;simp)
 omega
theorem above_none (T : List Int) (K : Int) (m : List (List XV)) (hi : List XV) : bsearch (aboveV T K m false hi) m.length 0 m.length=m.length:=by
 obtain ⟨h1,h2⟩:=bsearch_spec (aboveV T K m false hi) m.length (fun i j _ _ h=>by unfold aboveV at h;simp at h)
 rcases Nat.lt_or_ge (bsearch (aboveV T K m false hi) m.length 0 m.length) m.length with q|q
 ·have:=(h2 _ q).mpr (Nat.le_refl _)
  unfold aboveV at this
  simp at this
 ·omega
theorem in_both (T : List Int) (K : Int) (hl hh : Bool) (lo hi r : List XV) : inV T K hl hh lo hi r=(inV T K hl false lo hi r && inV T K false hh lo hi r):=by
 unfold inV
 cases hl <;> cases hh <;> simp
theorem in_all (T : List Int) (K : Int) (lo hi r : List XV) : inV T K false false lo hi r=true:=by unfold inV;simp
theorem grows_l0 (T : List Int) (n : Nat) (M G : Int) (hT : T.length≤1000000000) (l : List (List XV)) (hle : l.length≤1000000) (hl hh : Bool) (lo hi : List XV) (fin : Ev (fun k=>thresherlaw12_IndexGrows.l0 k true l l.length T n M G hl hh lo hi hl false lo hi false hh lo hi) true) : ∀ (d i : Nat),i + d=l.length→Ev (fun k=>thresherlaw12_IndexGrows.l0 k true l i T n M G hl hh lo hi hl false lo hi false hh lo hi) true
 | 0,i,hi'=>by
  obtain rfl : i=l.length:=by omega
  exact fin
 | d + 1,i,hi'=>by
  have next:=grows_l0 T n M G hT l hle hl hh lo hi fin d (i + 1) (by omega)
  have J : Ev (fun k=>thresherlaw12_IndexGrows.j1 k true l i T n M G hl hh lo hi hl false lo hi false hh lo hi) true:=by
   refine Ev.succ ?_
   simp only [thresherlaw12_IndexGrows.j1]
   rw [w64 (by omega) (by omega)]
   exact next
  refine Ev.succ ?_
  simp only [thresherlaw12_IndexGrows.l0]
  obtain ⟨row,hrow⟩ : ∃ row,rdR l i=row:=⟨_,rfl⟩
  rw [show rd_L5 l i=row from hrow]
  have hb:=in_both T n hl hh lo hi row
  refine Ev.pos (by omega) (Ev.pos (by omega) (Ev.bind (in_ev T n M G hl hh lo hi row hT) (Ev.bind (in_ev T n M G hl false lo hi row hT) ?_)))
  have ia:=(in_ev T n M G false false [] [] row hT).eq (in_all T n [] [] row)
  by_cases q : inV T n hl false lo hi row=true
  ·refine Ev.pos q (Ev.bind (in_ev T n M G false hh lo hi row hT) (Ev.neg ?_ (Ev.bind ia (Ev.pos rfl J))))
   rw [hb,q];simp
  ·refine Ev.neg q (Ev.neg ?_ (Ev.bind ia (Ev.pos rfl J)))
   rw [hb,Bool.eq_false_iff.mpr q];simp
theorem IndexGrows : thresherlaw12_IndexGrows.PureG:=by
 intro x l r hx ⟨hl,hl2⟩ hr
 obtain ⟨T,K,M,G,hmade,hS⟩:=shape_ev hx
 obtain ⟨n,rfl⟩ : ∃ n : Nat,K=n:=⟨K.toNat,by have:=hS.k1;omega⟩
 obtain ⟨g,rfl⟩ : ∃ g : Nat,G=g:=⟨G.toNat,by have:=hS.g1;omega⟩
 have g1:=hS.g1
 have g8:=hS.g8
 have kn:=hS.kn
 have n8:=hS.n8
 obtain ⟨_,_,⟨_,hr2⟩,⟨_,hr3⟩⟩:=hr
 have hfo:=fitsR_ok (K:=n) hS l (fun a h=>(hl2 a h).2)
 have hf:=fits_ev T n M g l 60 (by omega) (by omega)
 have hs:=sort_ev T n M g (by omega) (fitsR T l) (by have:=hfo.len;omega) hfo.gr
 obtain ⟨ho,hord⟩:=sorted_ok hfo
 obtain ⟨rows,hrows⟩ : ∃ rows,sortR T n (fitsR T l) []=rows:=⟨_,rfl⟩
 rw [hrows] at hs ho hord
 have e2:=fit_ev T n M g r.f2 (by omega)
 have e3:=fit_ev T n M g r.f3 (by omega)
 have o2:=(fitRow_ok (K:=n) hS r.f2 (GR_gd hr2)).take (min r.f2.length (fitRow T r.f2).length)
 have o3:=(fitRow_ok (K:=n) hS r.f3 (GR_gd hr3)).take (min r.f3.length (fitRow T r.f3).length)
 obtain ⟨lo,hlo⟩ : ∃ lo,(fitRow T r.f2).take (min r.f2.length (fitRow T r.f2).length)=lo:=⟨_,rfl⟩
 obtain ⟨hi,hhi⟩ : ∃ hi,(fitRow T r.f3).take (min r.f3.length (fitRow T r.f3).length)=hi:=⟨_,rfl⟩
 have hle:=ho.len
 have hm:=refmarks_ev T n M g (by omega) (by omega) (by omega) rows (by omega) (fun r h=>by have:=ho.wide r h;omega)
 have hml:=marksR_le (show 1≤g by omega) n rows
 have hmf:=marksR_full (T:=T) (K:=n) (show 1≤g by omega) ho.full
 have hmo:=marksR_ord (show 1≤g by omega) hord
 rw [hlo] at o2
 rw [hhi] at o3
 obtain ⟨h1,h2⟩:=bsearch_spec (aboveV T n (marksR n g rows) r.f1 hi) (marksR n g rows).length (above_mono hmo hmf o3)
 have em:=meets_ev T n M g (by omega) (marksR n g rows) (by omega) r.f0 r.f1 lo hi
 have em2:=meets_ev T n M g (by omega) (marksR n g rows) (by omega) r.f0 false lo hi
 have em3:=meets_ev T n M g (by omega) (marksR n g rows) (by omega) false r.f1 lo hi
 unfold meetsV at em em2 em3
 rw [above_none] at em2
 obtain ⟨F,hF⟩ : ∃ F,bsearch (beginsV T n (marksR n g rows) r.f0 lo) (marksR n g rows).length 0 (marksR n g rows).length=F:=⟨_,rfl⟩
 obtain ⟨H,hH⟩ : ∃ H,bsearch (aboveV T n (marksR n g rows) r.f1 hi) (marksR n g rows).length 0 (marksR n g rows).length=H:=⟨_,rfl⟩
 rw [hF] at em em2
 rw [hH] at h1 em em3
 clear h2
 have hz:=begins_none T n (marksR n g rows) lo
 obtain ⟨Z,hZ⟩ : ∃ Z,bsearch (beginsV T n (marksR n g rows) false lo) (marksR n g rows).length 0 (marksR n g rows).length=Z:=⟨_,rfl⟩
 rw [hZ] at hz em3
 apply Ev.rounds
 simp only [thresherlaw12_IndexGrows.f,thresherlaw12_made.f]
 refine Ev.bind shown_ev (Ev.bind (Ev.bind hmade (Ev.now _)) (Ev.bind hf (Ev.bind hs (Ev.bind (Ev.bind e2 (Ev.bind e3 (Ev.now _))) ?_))))
 dsimp only
 rw [hlo,hhi]
 refine grows_l0 T n M g (by omega) rows (by omega) r.f0 r.f1 lo hi ?_ rows.length 0 (by omega)
 refine Ev.succ ?_
 simp only [thresherlaw12_IndexGrows.l0]
 by_cases q : H≤F ∨ emptyV T n r.f0 r.f1 lo hi=true
 ·rw [if_pos q] at em
  refine Ev.neg (by omega) (Ev.bind (show Ev _ (marksR n g rows) from hm) (Ev.bind em (Ev.bind em2 (Ev.bind em3 ?_))))
  exact Ev.pos rfl (Ev.pos (by simp) ((Ev.now _).eq (by simp)))
 ·have q1 : F < H:=by
   rcases Nat.lt_or_ge F H with a|a
   ·exact a
   ·exact absurd (Or.inl a) q
  have z0:=hz (by omega)
  subst z0
  rw [if_neg q] at em
  rw [if_neg (fun h=>h.elim (fun h=>by omega) (fun h=>by unfold emptyV at h;simp at h))] at em2
  rw [if_neg (fun h=>h.elim (fun h=>by omega) (fun h=>by unfold emptyV at h;simp at h))] at em3
  refine Ev.neg (by omega) (Ev.bind (show Ev _ (marksR n g rows) from hm) (Ev.bind em (Ev.bind em2 (Ev.bind em3 ?_))))
  refine Ev.neg (by simp;omega) (Ev.pos (by simp) (Ev.pos rfl (Ev.pos rfl (Ev.pos rfl (Ev.succ ?_)))))
  simp only [thresherlaw12_IndexGrows.j2]
  exact (Ev.now _).eq (by simp)
end Go.Proofs.Ytfccebnoflhkcaa.Pure

namespace Go.Proofs.Ytfccebnoflhkcaa.indexGrows
open Go.ChangeShapes Go.WideShapes Go.ChangeAt Go.RowKit Go.Proofs.Ytfccebnoflhkcaa.P Go.Proofs.YtfccebnoflhkcaaW.PrintWords
set_option linter.unusedVariables false
set_option linter.unusedSimpArgs false
theorem own : ownKnob Try.prog.godebug=none:=by kernel_rfl
theorem laidOut : laidOutB Try.prog=true:=by kernel_rfl
set_option maxRecDepth 100000 in
theorem lifted (os : Os) (started : os.Started) (H : Type) (enc : TypeId × Value→H) :
  ReturnsInHanded {} Try.checked os 6 .any (Rows.indexGrowsSpec.pre6 enc Try.prog Try.f6 Rows.indexGrowsRow.domain false) (Rows.indexGrowsSpec.post enc Try.prog Try.f6 false true false false):=by
 refine returnsInHanded_of_change_sized (C:=Try.checked) own started (by kernel_rfl) Try.func6
  (ChangeSpec.witness6 (enc:=enc) (C:=Try.checked) false ⟨#[],#[.agg #[.int .u8 0,.int .u8 0,.int .u8 0,.int .u8 0,.int .u8 0,.int .u8 0,.int .u8 0,.int .u8 0,.int .u8 0,.int .u8 0,.int .u8 0,.int .u8 0],.slice none 0 0,.agg #[.bool false,.bool false,.slice none 0 0,.slice none 0 0]],[]⟩ 8 (by kernel_rfl) (by kernel_rfl) (by kernel_rfl) (by kernel_rfl)) ?_
 intro W base args ds gs before hval0 hW hcnd hsz0 _
 have hval : ∀ (j : Nat) t v,Try.f6.params[j]?=some t→args[j]?=some v→Value.okWide Try.prog W .any base t v:=hval0
 have hW':=hW
 obtain ⟨p,q,hA0,hV,rfl,hfz,hnd⟩:=hW
 have hA : DataW.TrodAll enc Try.prog W 0 (fun _=>true) true Try.f6.params.toList args.toList ds p:=hA0
 rw [Try.params6] at hA hval
 obtain ⟨v0,vs0,d0,ds0,p0,q0,hargs,rfl,rfl,h0,r0⟩:=trodAll_cons hA
 obtain ⟨v1,vs1,d1,ds1,p1,q1,rfl,rfl,rfl,h1,r1⟩:=trodAll_cons r0
 obtain ⟨v2,vs2,d2,ds2,p2,q2,rfl,rfl,rfl,h2,r2⟩:=trodAll_cons r1
 obtain ⟨rfl,rfl,rfl⟩:=trodAll_nil r2
 obtain rfl : args=#[v0,v1,v2]:=by cases args;simp_all
 obtain ⟨rfl,rfl⟩:=trodVars_none hV
 have lt0 : ∀ x ∈ p0,x.block < W.heap.size:=by obtain ⟨m,hm⟩:=h0;exact DataW.trod_lt m _ _ _ hm
 obtain ⟨x0,K0,g0⟩:=(op24).arg h0
 obtain ⟨cs0,rfl⟩:=okWide_agg Try.underlying24 (hval 0 24 v0 rfl rfl)
 have e0:=k24_open K0
 replace e0:=agg_of e0
 have lt1 : ∀ x ∈ p1,x.block < W.heap.size:=by obtain ⟨m,hm⟩:=h1;exact DataW.trod_lt m _ _ _ hm
 obtain ⟨x1,K1,g1⟩:=((opens_slice Try.underlying25 (by kernel_rfl) (opens_slice Try.underlying27 (by kernel_rfl) op44))).arg h1
 obtain ⟨a1,len1,cap1,rfl⟩:=okWide_slice Try.underlying25 (hval 1 25 v1 rfl rfl)
 obtain ⟨A1,c1,e1,hl1,hr1⟩:=K1
 simp [Value.cells] at e1
 obtain ⟨rfl,rfl,rfl⟩:=e1
 have lt2 : ∀ x ∈ p2,x.block < W.heap.size:=by obtain ⟨m,hm⟩:=h2;exact DataW.trod_lt m _ _ _ hm
 obtain ⟨x2,K2,g2⟩:=(op29).arg h2
 obtain ⟨cs2,rfl⟩:=okWide_agg Try.underlying29 (hval 2 29 v2 rfl rfl)
 obtain ⟨A2_2,c2_2,A2_3,c2_3,e2,hl2_2,hr2_2,hl2_3,hr2_3⟩:=k29_open K2
 replace e2:=agg_of e2
 obtain ⟨k,hk⟩:=Pure.IndexGrows x0 x1 x2 g0 g1 g2
 have call : Calls Try.prog 6 #[.agg cs0,.slice a1 x1.length cap1,.agg cs2] W fun e W'=>e=.returned (.bool true)∧Below W.heap.size W W':=by
  rw [e0,e2]
  refine (thresherlaw12_IndexGrows.calls k _ _ _ _ _ _ _ _ _ _ _ _ _ _ _ _ _ _ _ _ _ _ _ true W hr1 hl1 hr2_2 hl2_2 hr2_3 hl2_3 hk).mono ?_
  rintro e w' ⟨rfl,hd⟩
  exact ⟨rfl,hd⟩
 refine call.mono fun e W' ⟨he,bel⟩=>?_
 subst he
 exact ⟨_,rfl,_,_,_,[],_,[],hW',trodAll_mk1 (shut_bool Try.underlying4 _),(trodAll_cons_mk (Below.trod laidOut (by kernel_rfl) (of_decide_eq_true (by kernel_rfl)) h0 bel lt0) (trodAll_cons_mk (Below.trod laidOut (by kernel_rfl) (of_decide_eq_true (by kernel_rfl)) h1 bel lt1) (trodAll_cons_mk (Below.trod laidOut (by kernel_rfl) (of_decide_eq_true (by kernel_rfl)) h2 bel lt2) trodAll_mk0))),rfl,bel.frame _,fun h=>by cases h⟩
theorem over : Rows.indexGrowsRow.holds Try.pinned (OpenSpec.ofChange Rows.indexGrowsSpec) :=
 OpenClaim.holds_of_wide 6 Try.f6 rfl rfl rfl rfl rfl rfl rfl ⟨rfl,rfl,rfl,rfl,rfl⟩ rfl rfl rfl rfl rfl (by kernel_rfl) Try.func6 (by kernel_rfl)
  (of_decide_eq_true (by kernel_rfl)) (by unfold Func.isWrapper;first|(rw [if_pos (by decide +kernel)];kernel_rfl)|(rw [if_neg (by decide +kernel)];exact ⟨rfl,rfl⟩))
  (fun os started H enc _=>lifted os started H enc)
theorem proved : Rows.IndexGrowsSaid:=over
#print axioms proved
end Go.Proofs.Ytfccebnoflhkcaa.indexGrows
namespace Go.Proofs.Ytfccebnoflhkcaa
theorem indexGrows_holds : Rows.IndexGrowsSaid:=indexGrows.proved
end Go.Proofs.Ytfccebnoflhkcaa

