/- The row of OrderStable. Merged: SOrderStable, XFit, XFitOk, XMade, XRVal, XStabB, XFits, XRCmp, XShape, XStabC, XRowOk, XSort, XSixty, XOrdS, XOrdIn, PureOrderStable, ROrderStable. -/
import Derived.Test.YtojbeofipedolaaQOrderStablePx9
import Derived.Test.YtojbeofipedolaaQOrderStableO
import Derived.Test.YtojbeofipedolaaQOrderStablePx4
import Derived.Test.YtojbeofipedolaaQOrderStableXBase
import Derived.Test.YtojbeofipedolaaQOrderStableXOrd
import Derived.Test.YtojbeofipedolaaQOrderStablePx6
import Derived.Test.YtojbeofipedolaaQOrderStablePx5
import Derived.Test.YtojbeofipedolaaQOrderStableXStable
import Derived.Test.YtojbeofipedolaaQOrderStablePx7
import Derived.Test.YtojbeofipedolaaQOrderStableHOrdE
import Derived.Test.YtojbeofipedolaaQOrderStablePx11
import Derived.Test.YtojbeofipedolaaQOrderStableHOrdA
import Derived.Test.YtojbeofipedolaaQOrderStableHOrdF
import Derived.Test.YtojbeofipedolaaRows
import Derived.WalkKit
import Derived.ProofKit
import Derived.OpenShut
import Derived.ShutString
import Derived.ChangeOld
import Derived.Below
import Derived.SizedLaws
namespace Go.Proofs.Ytojbeofipedolaa.P
open Go.RowKit Go.Proofs.YtojbeofipedolaaW.PrintWords
def thresherlaw09_OrderStable.PureG : Prop:=∀ (x0 : List Int),(x0.length≤maxLen∧∀ a ∈ x0,(Lit.int .i64 a).wf=true)→∃ k,thresherlaw09_OrderStable.f k x0=some true
end Go.Proofs.Ytojbeofipedolaa.P

/- A row made to fit. -/
namespace Go.Proofs.Ytojbeofipedolaa.P
open Go.RowKit Go.Proofs.YtojbeofipedolaaW.PrintWords Go.Proofs.YtojbeofipedolaaW.PrintLast Go.Proofs.YtojbeofipedolaaW.PrintMore
set_option linter.unusedVariables false
set_option linter.unusedSimpArgs false
end Go.Proofs.Ytojbeofipedolaa.P

/- A row made to fit fits. -/
namespace Go.Proofs.Ytojbeofipedolaa.P
open Go.RowKit Go.Proofs.YtojbeofipedolaaW.PrintWords Go.Proofs.YtojbeofipedolaaW.PrintLast Go.Proofs.YtojbeofipedolaaW.PrintMore
set_option linter.unusedVariables false
set_option linter.unusedSimpArgs false
theorem rdV_take (r : List XV) (n j : Nat) (h : j < n) : rdV (r.take n) j=rdV r j:=by
 show rd_T41 _ _=rd_T41 _ _
 by_cases hi : j < r.length
 ·rw [rdV_lt _ j (by rw [List.length_take];omega),rdV_lt r j hi,List.getElem_take]
 ·rw [rdV_ge _ j (by rw [List.length_take];omega),rdV_ge r j (by omega)]
end Go.Proofs.Ytojbeofipedolaa.P

/- A schema made of any numbers. -/
namespace Go.Proofs.Ytojbeofipedolaa.P
open Go.RowKit Go.Proofs.YtojbeofipedolaaW.PrintWords Go.Proofs.YtojbeofipedolaaW.PrintLast Go.Proofs.YtojbeofipedolaaW.PrintMore
set_option linter.unusedVariables false
set_option linter.unusedSimpArgs false
def U8 (x : Int) : Prop:=0≤x∧x≤255
end Go.Proofs.Ytojbeofipedolaa.P

/- The document's Compare of values tells the same order. -/
namespace Go.Proofs.Ytojbeofipedolaa.P
open Go.RowKit Go.Proofs.YtojbeofipedolaaW.PrintWords Go.Proofs.YtojbeofipedolaaW.PrintLast Go.Proofs.YtojbeofipedolaaW.PrintMore
set_option linter.unusedVariables false
set_option linter.unusedSimpArgs false
def GR (r : List XV) : Prop:=∀ v ∈ r,GV v∧v.f1.size≤9223372036854775807
theorem GR.rdV {r : List XV} (h : GR r) (i : Nat) : GV (rdV r i)∧(P.rdV r i).f1.size≤9223372036854775807:=by
 by_cases hi : i < r.length
 ·show GV (rd_T41 r i)∧(rd_T41 r i).f1.size≤_
  rw [rdV_lt r i hi]
  exact h _ (List.getElem_mem hi)
 ·show GV (rd_T41 r i)∧(rd_T41 r i).f1.size≤_
  rw [rdV_ge r i (by omega)]
  exact ⟨⟨by simp,by simp⟩,by decide⟩
end Go.Proofs.Ytojbeofipedolaa.P

/- A stable sort by blocks and by symmetric merges, in plain lists: it puts in order, and keeps what there was. -/
namespace Go.Proofs.Ytojbeofipedolaa.P
set_option linter.unusedVariables false
set_option linter.unusedSectionVars false
section
variable {E : Type} (e0 : E) (lt : E→E→Bool) (R : E→E→Prop) (U : E→Prop)
structure Ordl : Prop where
 tr : ∀ x y z,U x→U y→U z→R x y→R y z→R x z
 ir : ∀ x,U x→¬ R x x
def Ahead (x y : E) : Prop:=(lt y x=true ↔ R y x)∧(¬ R y x→R x y)
variable {e0 lt R U}
theorem Ordl.as (O : Ordl R U) {x y : E} (hx : U x) (hy : U y) (h : R x y) : ¬ R y x:=fun q=>O.ir x hx (O.tr x y x hx hy hx h q)
theorem gt_mid (P M Q : List E) (k : Nat) (h : k < M.length) : gt_ e0 (P ++ (M ++ Q)) (P.length + k)=M[k]:=by
 rw [gt_lt e0 (by simp;omega)]
 rw [List.getElem_append_right (by omega)]
 simp only [Nat.add_sub_cancel_left]
 rw [List.getElem_append_left h]
theorem pw_le {M : List E} (hM : M.Pairwise R) {i j : Nat} (hi : i < j) (hj : j < M.length) : R M[i] M[j]:=List.pairwise_iff_getElem.mp hM i j (by omega) hj hi
theorem mem_take {M : List E} {k : Nat} {x : E} (h : x ∈ M.take k) : ∃ i,∃ hi : i < M.length,i < k∧M[i]=x:=by
 obtain ⟨i,hi,e⟩:=List.getElem_of_mem h
 rw [List.length_take] at hi
 refine ⟨i,by omega,by omega,?_⟩
 rw [← e,List.getElem_take]
theorem mem_drop {M : List E} {k : Nat} {x : E} (h : x ∈ M.drop k) : ∃ i,∃ hi : i < M.length,k≤i∧M[i]=x:=by
 obtain ⟨i,hi,e⟩:=List.getElem_of_mem h
 rw [List.length_drop] at hi
 refine ⟨k + i,by omega,by omega,?_⟩
 rw [← e,List.getElem_drop]
theorem pw_app {A B : List E} (hA : A.Pairwise R) (hB : B.Pairwise R) (h : ∀ x ∈ A,∀ y ∈ B,R x y) : (A ++ B).Pairwise R:=List.pairwise_append.mpr ⟨hA,hB,h⟩
set_option maxHeartbeats 2000000 in
theorem symM_spec (O : Ordl R U) : ∀ (f : Nat) (P A B Q : List E) (a m b : Nat),b - a≤f→a=P.length→m=a + A.length→b=m + B.length→A≠[]→B≠[]→(∀ x ∈ A,U x)→(∀ x ∈ B,U x)→A.Pairwise R→B.Pairwise R→(∀ x ∈ A,∀ y ∈ B,Ahead lt R x y) →
  ∃ S,symM e0 lt f a m b (P ++ (A ++ (B ++ Q)))=P ++ (S ++ Q)∧S.Perm (A ++ B)∧S.Pairwise R
 | 0,P,A,B,Q,a,m,b,hf,ha,hm,hb,nA,nB,uA,uB,sA,sB,hX=>by
  have : A.length≠0:=fun h=>nA (List.length_eq_zero_iff.mp h)
  omega
 | f + 1,P,A,B,Q,a,m,b,hf,ha,hm,hb,nA,nB,uA,uB,sA,sB,hX=>by
  have lA : A.length≠0:=fun h=>nA (List.length_eq_zero_iff.mp h)
  have lB : B.length≠0:=fun h=>nB (List.length_eq_zero_iff.mp h)
  have gA : ∀ c,(h1 : a≤c)→(h2 : c < m)→gt_ e0 (P ++ (A ++ (B ++ Q))) c=A[c - a]'(by omega):=fun c h1 h2=>by
   have:=gt_mid (e0:=e0) P A (B ++ Q) (c - a) (by omega)
   rwa [show P.length + (c - a)=c by omega] at this
  have gB : ∀ c,(h1 : m≤c)→(h2 : c < b)→gt_ e0 (P ++ (A ++ (B ++ Q))) c=B[c - m]'(by omega):=fun c h1 h2=>by
   have:=gt_mid (e0:=e0) (P ++ A) B Q (c - m) (by omega)
   rw [show (P ++ A).length + (c - m)=c by rw [List.length_append];omega] at this
   rw [← this,List.append_assoc]
  have UA : ∀ i (h : i < A.length),U A[i]:=fun i h=>uA _ (List.getElem_mem h)
  have UB : ∀ i (h : i < B.length),U B[i]:=fun i h=>uB _ (List.getElem_mem h)
  have XX : ∀ i (h : i < A.length) j (h' : j < B.length),Ahead lt R A[i] B[j]:=fun i h j h'=>hX _ (List.getElem_mem h) _ (List.getElem_mem h')
  unfold symM
  by_cases c1 : m - a=1
  ·rw [if_pos c1]
   obtain ⟨x,rfl⟩ : ∃ x,A=[x]:=List.length_eq_one_iff.mp (by omega)
   simp only [List.length_singleton] at hm
   have gx : gt_ e0 (P ++ ([x] ++ (B ++ Q))) a=x:=by have:=gA a (Nat.le_refl _) (by omega);simpa using this
   obtain ⟨p,hp⟩ : ∃ p : Nat→Bool,p=fun h=>!lt (gt_ e0 (P ++ ([x] ++ (B ++ Q))) h) (gt_ e0 (P ++ ([x] ++ (B ++ Q))) a):=⟨_,rfl⟩
   have pt : ∀ c,(h1 : m≤c)→(h2 : c < b)→(p c=true ↔ ¬ R (B[c - m]'(by omega)) x):=fun c h1 h2=>by
    rw [hp]
    simp only [gx,gB c h1 h2]
    have:=(hX x (by simp) _ (List.getElem_mem (show c - m < B.length by omega))).1
    rw [← this]
    simp
   have mono : ∀ u v,m≤u→u≤v→v < b→p u=true→p v=true:=fun u v h1 h2 h3 h4=>by
    rcases Nat.eq_or_lt_of_le h2 with e|h5
    ·rw [← e];exact h4
    ·refine (pt v (by omega) h3).mpr (fun q=>?_)
     have h6:=pw_le sB (show u - m < v - m by omega) (by omega)
     exact (pt u h1 (by omega)).mp h4 (O.tr _ _ _ (UB _ _) (UB _ _) (uA x (by simp)) h6 q)
   obtain ⟨b1,b2,b3,b4⟩:=bsr_spec p m b mono (b - m) m b (Nat.le_refl _) (Nat.le_refl _) (by omega) (Nat.le_refl _) (fun y h1 h2=>by omega) (fun y h1 h2=>by omega)
   rw [← hp]
   obtain ⟨i,hi⟩ : ∃ i,i=bsr p (b - m) m b:=⟨_,rfl⟩
   rw [← hi] at b1 b2 b3 b4 ⊢
   show ∃ S,goUp e0 (i - 1 - a) a (P ++ ([x] ++ (B ++ Q)))=P ++ (S ++ Q)∧S.Perm ([x] ++ B)∧S.Pairwise R
   have ht : (B.take (i - m)).length=i - m:=by rw [List.length_take];omega
   have hlow : ∀ y ∈ B.take (i - m),R y x:=fun y hy=>by
    obtain ⟨j,hj,h1,h2⟩:=mem_take hy
    have h3:=b3 (m + j) (by omega) (by omega)
    apply Classical.byContradiction
    intro hn
    have h4:=(pt (m + j) (by omega) (by omega)).mpr (by simp only [Nat.add_sub_cancel_left];rw [h2];exact hn)
    rw [h3] at h4
    exact absurd h4 (by simp)
   have hhigh : ∀ y ∈ B.drop (i - m),R x y:=fun y hy=>by
    obtain ⟨j,hj,h1,h2⟩:=mem_drop hy
    have h3:=b4 (m + j) (by omega) (by omega)
    have h4:=(pt (m + j) (by omega) (by omega)).mp h3
    simp only [Nat.add_sub_cancel_left,h2] at h4
    exact (hX x (by simp) y (List.mem_of_mem_drop hy)).2 h4
   refine ⟨B.take (i - m) ++ x :: B.drop (i - m),?_,?_,?_⟩
   ·have:=goUp_at e0 (B.take (i - m)) P (B.drop (i - m) ++ Q) x a ha
    rw [ht,show i - m=i - 1 - a by omega] at this
    rw [show i - 1 - a=i - m by omega] at this ⊢
    have e1 : P ++ ([x] ++ (B ++ Q))=P ++ x :: (B.take (i - m) ++ (B.drop (i - m) ++ Q)):=by rw [tda];rfl
    rw [e1,this]
    simp
   ·have:=(List.perm_middle (a:=x) (l₁:=B.take (i - m)) (l₂:=B.drop (i - m)))
    rwa [List.take_append_drop] at this
   ·refine pw_app (sB.sublist (List.take_sublist _ _)) (List.pairwise_cons.mpr ⟨hhigh,sB.sublist (List.drop_sublist _ _)⟩) (fun u hu v hv=>?_)
    rcases List.mem_cons.mp hv with rfl|hv
    ·exact hlow u hu
    ·exact O.tr u x v (uB u (List.mem_of_mem_take hu)) (uA x (by simp)) (uB v (List.mem_of_mem_drop hv)) (hlow u hu) (hhigh v hv)
  rw [if_neg c1]
  by_cases c2 : b - m=1
  ·rw [if_pos c2]
   obtain ⟨y,rfl⟩ : ∃ y,B=[y]:=List.length_eq_one_iff.mp (by omega)
   simp only [List.length_singleton] at hb
   have gy : gt_ e0 (P ++ (A ++ ([y] ++ Q))) m=y:=by have:=gB m (Nat.le_refl _) (by omega);simpa using this
   obtain ⟨p,hp⟩ : ∃ p : Nat→Bool,p=fun h=>lt (gt_ e0 (P ++ (A ++ ([y] ++ Q))) m) (gt_ e0 (P ++ (A ++ ([y] ++ Q))) h):=⟨_,rfl⟩
   have pt : ∀ c,(h1 : a≤c)→(h2 : c < m)→(p c=true ↔ R y (A[c - a]'(by omega))):=fun c h1 h2=>by
    rw [hp]
    simp only [gy,gA c h1 h2]
    exact (hX _ (List.getElem_mem (show c - a < A.length by omega)) y (by simp)).1
   have mono : ∀ u v,a≤u→u≤v→v < m→p u=true→p v=true:=fun u v h1 h2 h3 h4=>by
    rcases Nat.eq_or_lt_of_le h2 with e|h5
    ·rw [← e];exact h4
    ·refine (pt v (by omega) h3).mpr ?_
     exact O.tr _ _ _ (uB y (by simp)) (UA _ _) (UA _ _) ((pt u h1 (by omega)).mp h4) (pw_le sA (show u - a < v - a by omega) (by omega))
   obtain ⟨b1,b2,b3,b4⟩:=bsr_spec p a m mono (m - a) a m (Nat.le_refl _) (Nat.le_refl _) (by omega) (Nat.le_refl _) (fun y h1 h2=>by omega) (fun y h1 h2=>by omega)
   rw [← hp]
   obtain ⟨i,hi⟩ : ∃ i,i=bsr p (m - a) a m:=⟨_,rfl⟩
   rw [← hi] at b1 b2 b3 b4 ⊢
   show ∃ S,goDn e0 (m - i) m (P ++ (A ++ ([y] ++ Q)))=P ++ (S ++ Q)∧S.Perm (A ++ [y])∧S.Pairwise R
   have ht : (A.drop (i - a)).length=m - i:=by rw [List.length_drop];omega
   have ht2 : (A.take (i - a)).length=i - a:=by rw [List.length_take];omega
   have hlow : ∀ x ∈ A.take (i - a),R x y:=fun x hx=>by
    obtain ⟨j,hj,h1,h2⟩:=mem_take hx
    have h3:=b3 (a + j) (by omega) (by omega)
    refine (hX x (List.mem_of_mem_take hx) y (by simp)).2 (fun q=>?_)
    have h4:=(pt (a + j) (by omega) (by omega)).mpr (by simp only [Nat.add_sub_cancel_left];rw [h2];exact q)
    rw [h3] at h4
    exact absurd h4 (by simp)
   have hhigh : ∀ x ∈ A.drop (i - a),R y x:=fun x hx=>by
    obtain ⟨j,hj,h1,h2⟩:=mem_drop hx
    have h4:=(pt (a + j) (by omega) (by omega)).mp (b4 (a + j) (by omega) (by omega))
    simpa only [Nat.add_sub_cancel_left,h2] using h4
   refine ⟨A.take (i - a) ++ y :: A.drop (i - a),?_,?_,?_⟩
   ·have:=goDn_at e0 (m - i) (A.drop (i - a)) (P ++ A.take (i - a)) Q y m ht (by rw [List.length_append,ht,ht2];omega)
    have e1 : P ++ (A ++ ([y] ++ Q))=(P ++ A.take (i - a)) ++ (A.drop (i - a) ++ y :: Q):=by
     rw [List.append_assoc,tda]
     rfl
    rw [e1,this]
    simp
   ·have:=(List.perm_middle (a:=y) (l₁:=A.take (i - a)) (l₂:=A.drop (i - a)))
    rw [List.take_append_drop] at this
    exact this.trans (List.perm_append_comm (l₁:=[y]) (l₂:=A))
   ·refine pw_app (sA.sublist (List.take_sublist _ _)) (List.pairwise_cons.mpr ⟨hhigh,sA.sublist (List.drop_sublist _ _)⟩) (fun u hu v hv=>?_)
    rcases List.mem_cons.mp hv with rfl|hv
    ·exact hlow u hu
    ·exact O.tr u y v (uA u (List.mem_of_mem_take hu)) (uB y (by simp)) (uA v (List.mem_of_mem_drop hv)) (hlow u hu) (hhigh v hv)
  rw [if_neg c2]
  obtain ⟨xs,hxs⟩ : ∃ xs,xs=P ++ (A ++ (B ++ Q)):=⟨_,rfl⟩
  rw [← hxs] at gA gB ⊢
  obtain ⟨mid,hmid⟩ : ∃ mid,mid=(a + b) / 2:=⟨_,rfl⟩
  obtain ⟨n,hn⟩ : ∃ n,n=mid + m:=⟨_,rfl⟩
  obtain ⟨s0,hs0⟩ : ∃ s0,s0=if m > mid then n - b else a:=⟨_,rfl⟩
  obtain ⟨r0,hr0⟩ : ∃ r0,r0=if m > mid then mid else m:=⟨_,rfl⟩
  obtain ⟨p,hp⟩ : ∃ p : Nat→Bool,p=fun c=>lt (gt_ e0 xs (n - 1 - c)) (gt_ e0 xs c):=⟨_,rfl⟩
  simp only [← hmid,← hn,← hs0,← hr0,← hp]
  have B0 : a≤s0∧s0≤r0∧r0≤m∧n - r0 ≥ m∧n - s0≤b∧r0≤mid∧(s0=a ∨ n - s0=b)∧(r0=m ∨ n - r0=m):=by
   by_cases q : m > mid
   ·rw [if_pos q] at hs0 hr0;omega
   ·rw [if_neg q] at hs0 hr0;omega
  clear hs0 hr0
  obtain ⟨q1,q2,q3,q4,q5,q6,q7,q8⟩:=B0
  have pt : ∀ c,(h1 : s0≤c)→(h2 : c < r0)→(p c=true ↔ R (B[n - 1 - c - m]'(by omega)) (A[c - a]'(by omega))):=fun c h1 h2=>by
   rw [hp]
   simp only [gA c (by omega) (by omega),gB (n - 1 - c) (by omega) (by omega)]
   exact (XX _ _ _ _).1
  have mono : ∀ u v,s0≤u→u≤v→v < r0→p u=true→p v=true:=fun u v h1 h2 h3 h4=>by
   rcases Nat.eq_or_lt_of_le h2 with e|h5
   ·rw [← e];exact h4
   ·refine (pt v (by omega) h3).mpr ?_
    have k1:=pw_le sB (show n - 1 - v - m < n - 1 - u - m by omega) (by omega)
    have k2:=(pt u h1 (by omega)).mp h4
    have k3:=pw_le sA (show u - a < v - a by omega) (by omega)
    exact O.tr _ _ _ (UB _ _) (UB _ _) (UA _ _) k1 (O.tr _ _ _ (UB _ _) (UA _ _) (UA _ _) k2 k3)
  obtain ⟨b1,b2,b3,b4⟩:=bsr_spec p s0 r0 mono (r0 - s0) s0 r0 (Nat.le_refl _) (Nat.le_refl _) q2 (Nat.le_refl _) (fun y h1 h2=>by omega) (fun y h1 h2=>by omega)
  obtain ⟨s,hs⟩ : ∃ s,s=bsr p (r0 - s0) s0 r0:=⟨_,rfl⟩
  rw [← hs] at b1 b2 b3 b4 ⊢
  obtain ⟨e,he⟩ : ∃ e,e=n - s:=⟨_,rfl⟩
  rw [← he]
  have lt1 : (A.take (s - a)).length=s - a:=by rw [List.length_take];omega
  have lt2 : (A.drop (s - a)).length=m - s:=by rw [List.length_drop];omega
  have lt3 : (B.take (e - m)).length=e - m:=by rw [List.length_take];omega
  have lt4 : (B.drop (e - m)).length=b - e:=by rw [List.length_drop];omega
  have alpha : ∀ x ∈ A.take (s - a),∀ y ∈ B.drop (e - m),R x y:=fun x hx y hy=>by
   obtain ⟨i,hi,i1,i2⟩:=mem_take hx
   obtain ⟨j,hj,j1,j2⟩:=mem_drop hy
   have hss : s0 < s:=by omega
   have h3:=b3 (s - 1) (by omega) (by omega)
   have h5 : ¬ R (B[n - 1 - (s - 1) - m]'(by omega)) (A[s - 1 - a]'(by omega)):=fun q=>by
    rw [(pt (s - 1) (by omega) (by omega)).mpr q] at h3
    exact absurd h3 (by simp)
   have h6:=(XX (s - 1 - a) (by omega) (n - 1 - (s - 1) - m) (by omega)).2 h5
   have h7 : R x (B[n - 1 - (s - 1) - m]'(by omega)):=by
    rcases Nat.lt_or_ge i (s - 1 - a) with k|k
    ·rw [← i2];exact O.tr _ _ _ (UA _ _) (UA _ _) (UB _ _) (pw_le sA k (by omega)) h6
    ·have : i=s - 1 - a:=by omega
     subst this
     rw [← i2];exact h6
   rcases Nat.lt_or_ge (n - 1 - (s - 1) - m) j with k|k
   ·rw [← j2];rw [← i2] at h7 ⊢;exact O.tr _ _ _ (UA _ _) (UB _ _) (UB _ _) h7 (pw_le sB k hj)
   ·have : j=n - 1 - (s - 1) - m:=by omega
    subst this
    rw [← j2];exact h7
  have beta : ∀ y ∈ B.take (e - m),∀ x ∈ A.drop (s - a),R y x:=fun y hy x hx=>by
   obtain ⟨i,hi,i1,i2⟩:=mem_drop hx
   obtain ⟨j,hj,j1,j2⟩:=mem_take hy
   have hss : s < r0:=by omega
   have h6:=(pt s (by omega) hss).mp (b4 s (Nat.le_refl _) hss)
   have h7 : R y (A[s - a]'(by omega)):=by
    rcases Nat.lt_or_ge j (n - 1 - s - m) with k|k
    ·rw [← j2];exact O.tr _ _ _ (UB _ _) (UB _ _) (UA _ _) (pw_le sB k (by omega)) h6
    ·have : j=n - 1 - s - m:=by omega
     subst this
     rw [← j2];exact h6
   rcases Nat.lt_or_ge (s - a) i with k|k
   ·rw [← i2];rw [← j2] at h7 ⊢;exact O.tr _ _ _ (UB _ _) (UA _ _) (UA _ _) h7 (pw_le sA k hi)
   ·have : i=s - a:=by omega
    subst this
    rw [← i2];exact h7
  obtain ⟨A1,hA1⟩ : ∃ A1,A1=A.take (s - a):=⟨_,rfl⟩
  obtain ⟨A2,hA2⟩ : ∃ A2,A2=A.drop (s - a):=⟨_,rfl⟩
  obtain ⟨B1,hB1⟩ : ∃ B1,B1=B.take (e - m):=⟨_,rfl⟩
  obtain ⟨B2,hB2⟩ : ∃ B2,B2=B.drop (e - m):=⟨_,rfl⟩
  have eA : A=A1 ++ A2:=by rw [hA1,hA2,List.take_append_drop]
  have eB : B=B1 ++ B2:=by rw [hB1,hB2,List.take_append_drop]
  have sA1 : A1.Pairwise R:=by rw [hA1];exact sA.sublist (List.take_sublist _ _)
  have sA2 : A2.Pairwise R:=by rw [hA2];exact sA.sublist (List.drop_sublist _ _)
  have sB1 : B1.Pairwise R:=by rw [hB1];exact sB.sublist (List.take_sublist _ _)
  have sB2 : B2.Pairwise R:=by rw [hB2];exact sB.sublist (List.drop_sublist _ _)
  rw [← hA1] at lt1 alpha
  rw [← hA2] at lt2 beta
  rw [← hB1] at lt3 beta
  rw [← hB2] at lt4 alpha
  have mA1 : ∀ x ∈ A1,x ∈ A:=fun x h=>by rw [eA];exact List.mem_append_left _ h
  have mA2 : ∀ x ∈ A2,x ∈ A:=fun x h=>by rw [eA];exact List.mem_append_right _ h
  have mB1 : ∀ x ∈ B1,x ∈ B:=fun x h=>by rw [eB];exact List.mem_append_left _ h
  have mB2 : ∀ x ∈ B2,x ∈ B:=fun x h=>by rw [eB];exact List.mem_append_right _ h
  have AA : ∀ x ∈ A1,∀ y ∈ A2,R x y:=by rw [eA] at sA;exact (List.pairwise_append.mp sA).2.2
  have BB : ∀ x ∈ B1,∀ y ∈ B2,R x y:=by rw [eB] at sB;exact (List.pairwise_append.mp sB).2.2
  clear hA1 hA2 hB1 hB2
  have e1 : (if s < m∧m < e then rot e0 m (e - s) (m - s) (e - m) xs else xs)=P ++ (A1 ++ (B1 ++ (A2 ++ (B2 ++ Q)))):=by
   by_cases q : s < m∧m < e
   ·rw [if_pos q,hxs,eA,eB]
    have:=rot_at e0 (e - s) A2 B1 (P ++ A1) (B2 ++ Q) m (m - s) (e - m) (by omega) lt2 lt3 (by omega) (by omega) (by rw [List.length_append];omega)
    rw [show P ++ ((A1 ++ A2) ++ ((B1 ++ B2) ++ Q))=(P ++ A1) ++ (A2 ++ (B1 ++ (B2 ++ Q))) by simp,this]
    simp
   ·rw [if_neg q,hxs,eA,eB]
    rcases Nat.lt_or_ge s m with k|k
    ·have : B1=[]:=List.length_eq_zero_iff.mp (by omega)
     rw [this];simp
    ·have : A2=[]:=List.length_eq_zero_iff.mp (by omega)
     rw [this];simp
  rw [e1]
  obtain ⟨S1,h1,h2,h3⟩ : ∃ S1,(if a < s∧s < mid then symM e0 lt f a s mid (P ++ (A1 ++ (B1 ++ (A2 ++ (B2 ++ Q))))) else P ++ (A1 ++ (B1 ++ (A2 ++ (B2 ++ Q)))))=P ++ (S1 ++ (A2 ++ (B2 ++ Q)))∧S1.Perm (A1 ++ B1)∧S1.Pairwise R:=by
   by_cases q : a < s∧s < mid
   ·rw [if_pos q]
    exact symM_spec O f P A1 B1 (A2 ++ (B2 ++ Q)) a s mid (by omega) ha (by omega) (by omega) (by intro h;rw [h] at lt1;simp at lt1;omega) (by intro h;rw [h] at lt3;simp at lt3;omega) (fun x h=>uA x (mA1 x h)) (fun x h=>uB x (mB1 x h)) sA1 sB1 (fun x h y h'=>hX x (mA1 x h) y (mB1 y h'))
   ·rw [if_neg q]
    refine ⟨A1 ++ B1,by simp,List.Perm.refl _,?_⟩
    rcases Nat.lt_or_ge a s with k|k
    ·have : B1=[]:=List.length_eq_zero_iff.mp (by omega)
     rw [this,List.append_nil];exact sA1
    ·have : A1=[]:=List.length_eq_zero_iff.mp (by omega)
     rw [this];exact sB1
  rw [h1]
  have lS1 : S1.length=mid - a:=by rw [h2.length_eq,List.length_append];omega
  obtain ⟨S2,h4,h5,h6⟩ : ∃ S2,(if mid < e∧e < b then symM e0 lt f mid e b (P ++ (S1 ++ (A2 ++ (B2 ++ Q)))) else P ++ (S1 ++ (A2 ++ (B2 ++ Q))))=P ++ (S1 ++ (S2 ++ Q))∧S2.Perm (A2 ++ B2)∧S2.Pairwise R:=by
   by_cases q : mid < e∧e < b
   ·rw [if_pos q]
    obtain ⟨S2,k1,k2,k3⟩:=symM_spec O f (P ++ S1) A2 B2 Q mid e b (by omega) (by rw [List.length_append];omega) (by omega) (by omega) (by intro h;rw [h] at lt2;simp at lt2;omega) (by intro h;rw [h] at lt4;simp at lt4;omega) (fun x h=>uA x (mA2 x h)) (fun x h=>uB x (mB2 x h)) sA2 sB2 (fun x h y h'=>hX x (mA2 x h) y (mB2 y h'))
    refine ⟨S2,?_,k2,k3⟩
    rw [List.append_assoc] at k1
    rw [k1,List.append_assoc]
   ·rw [if_neg q]
    refine ⟨A2 ++ B2,by simp,List.Perm.refl _,?_⟩
    rcases Nat.lt_or_ge mid e with k|k
    ·have : B2=[]:=List.length_eq_zero_iff.mp (by omega)
     rw [this,List.append_nil];exact sA2
    ·have : A2=[]:=List.length_eq_zero_iff.mp (by omega)
     rw [this];exact sB2
  refine ⟨S1 ++ S2,by rw [h4];simp,?_,pw_app h3 h6 (fun x hx y hy=>?_)⟩
  ·refine (h2.append h5).trans ?_
   rw [eA,eB]
   have : ((A1 ++ B1) ++ (A2 ++ B2)).Perm ((A1 ++ A2) ++ (B1 ++ B2)):=by
    rw [List.append_assoc,List.append_assoc]
    refine List.Perm.append_left A1 ?_
    rw [← List.append_assoc,← List.append_assoc]
    exact List.Perm.append_right B2 List.perm_append_comm
   exact this
  ·rcases List.mem_append.mp (h2.mem_iff.mp hx) with k|k
   ·rcases List.mem_append.mp (h5.mem_iff.mp hy) with k'|k'
    ·exact AA x k y k'
    ·exact alpha x k y k'
   ·rcases List.mem_append.mp (h5.mem_iff.mp hy) with k'|k'
    ·exact beta x k y k'
    ·exact BB x k y k'
end
end Go.Proofs.Ytojbeofipedolaa.P

/- Rows made to fit. -/
namespace Go.Proofs.Ytojbeofipedolaa.P
open Go.RowKit Go.Proofs.YtojbeofipedolaaW.PrintWords Go.Proofs.YtojbeofipedolaaW.PrintLast Go.Proofs.YtojbeofipedolaaW.PrintMore
set_option linter.unusedVariables false
set_option linter.unusedSimpArgs false
end Go.Proofs.Ytojbeofipedolaa.P

/- The document's Compare of rows tells the same order. -/
namespace Go.Proofs.Ytojbeofipedolaa.P
open Go.RowKit Go.Proofs.YtojbeofipedolaaW.PrintWords Go.Proofs.YtojbeofipedolaaW.PrintLast Go.Proofs.YtojbeofipedolaaW.PrintMore
set_option linter.unusedVariables false
set_option linter.unusedSimpArgs false
end Go.Proofs.Ytojbeofipedolaa.P

/- A schema of a shape. -/
namespace Go.Proofs.Ytojbeofipedolaa.P
open Go.RowKit Go.Proofs.YtojbeofipedolaaW.PrintWords Go.Proofs.YtojbeofipedolaaW.PrintLast Go.Proofs.YtojbeofipedolaaW.PrintMore
end Go.Proofs.Ytojbeofipedolaa.P

/- A stable sort, in plain lists of numbers: what it makes of the numbers from 0 on. -/
namespace Go.Proofs.Ytojbeofipedolaa.P
set_option linter.unusedVariables false
set_option linter.unusedSectionVars false
section
variable {lt : Nat→Nat→Bool} {R : Nat→Nat→Prop} {U : Nat→Prop}
theorem insIn_at (O : Ordl R U) : ∀ (n : Nat) (S P Q : List Nat) (y a : Nat),S.length=n→a=P.length→S.Pairwise R→(∀ x ∈ S,U x)→U y→(∀ x ∈ S,Ahead lt R x y) →
  ∃ S',insIn 0 lt a (a + n) (P ++ (S ++ y :: Q))=P ++ (S' ++ Q)∧S'.Perm (S ++ [y])∧S'.Pairwise R
 | 0,S,P,Q,y,a,hn,ha,hs,hU,hy,hA=>by
  obtain rfl : S=[]:=List.length_eq_zero_iff.mp hn
  refine ⟨[y],?_,List.Perm.refl _,List.pairwise_singleton _ _⟩
  show insIn 0 lt a a (P ++ y :: Q)=P ++ y :: Q
  cases a with
  | zero=>rfl
  | succ a=>rw [insIn,if_neg (fun h=>Nat.lt_irrefl _ h.1)]
 | n + 1,S,P,Q,y,a,hn,ha,hs,hU,hy,hA=>by
  obtain ⟨S0,x,rfl⟩ : ∃ S0 x,S=S0 ++ [x]:=by
   have h : S≠[]:=by intro q;rw [q] at hn;simp at hn
   exact ⟨S.dropLast,S.getLast h,(List.dropLast_concat_getLast h).symm⟩
  have hn0 : S0.length=n:=by simpa using hn
  have hx : U x:=hU x (by simp)
  have hAx:=hA x (by simp)
  have hs0:=List.pairwise_append.mp hs
  have g1 : gt_ 0 (P ++ ((S0 ++ [x]) ++ y :: Q)) (a + n + 1)=y:=by
   have:=get_at 0 (P ++ (S0 ++ [x])) y Q
   rw [show (P ++ (S0 ++ [x])).length=a + n + 1 by rw [List.length_append,hn,ha];omega] at this
   rwa [List.append_assoc] at this
  have g0 : gt_ 0 (P ++ ((S0 ++ [x]) ++ y :: Q)) (a + n)=x:=by
   have:=get_at 0 (P ++ S0) x (y :: Q)
   rw [show (P ++ S0).length=a + n by rw [List.length_append,hn0,ha]] at this
   simpa using this
  show ∃ S',insIn 0 lt a (a + n + 1) _=_∧_
  rw [insIn,g1,g0]
  by_cases q : lt y x=true
  ·rw [if_pos ⟨by omega,q⟩]
   have hyx : R y x:=hAx.1.mp q
   have e1 : swp 0 (P ++ ((S0 ++ [x]) ++ y :: Q)) (a + n + 1) (a + n)=P ++ (S0 ++ y :: (x :: Q)):=by
    rw [swp_comm]
    have:=swp_at 0 (P ++ S0) x [] y Q (a + n) (a + n + 1) (by rw [List.length_append,hn0,ha]) (by rw [List.length_append,hn0,ha];rfl)
    simp only [List.nil_append,List.append_assoc] at this
    simpa using this
   rw [e1]
   obtain ⟨S',h1,h2,h3⟩:=insIn_at O n S0 P (x :: Q) y a hn0 ha hs0.1 (fun z hz=>hU z (List.mem_append_left _ hz)) hy (fun z hz=>hA z (List.mem_append_left _ hz))
   refine ⟨S' ++ [x],by rw [h1];simp,?_,pw_app h3 (List.pairwise_singleton _ _) (fun z hz w hw=>?_)⟩
   ·refine (List.Perm.append_right [x] h2).trans ?_
    rw [List.append_assoc,List.append_assoc]
    exact List.Perm.append_left S0 List.perm_append_comm
   ·rw [List.mem_singleton.mp hw]
    rcases List.mem_append.mp (h2.mem_iff.mp hz) with k|k
    ·exact hs0.2.2 z k x (by simp)
    ·rw [List.mem_singleton.mp k];exact hyx
  ·rw [if_neg (fun h=>q h.2)]
   have hxy : R x y:=hAx.2 (fun h=>q (hAx.1.mpr h))
   refine ⟨(S0 ++ [x]) ++ [y],by simp,List.Perm.refl _,pw_app hs (List.pairwise_singleton _ _) (fun z hz w hw=>?_)⟩
   rw [List.mem_singleton.mp hw]
   rcases List.mem_append.mp hz with k|k
   ·exact O.tr z x y (hU z hz) hx hy (hs0.2.2 z k x (by simp)) hxy
   ·rw [List.mem_singleton.mp k];exact hxy
theorem insSort_at (O : Ordl R U) : ∀ (rest S P Q : List Nat) (a : Nat),a=P.length→S.Pairwise R→(∀ x ∈ S ++ rest,U x)→(∀ x ∈ S,∀ y ∈ rest,Ahead lt R x y)→rest.Pairwise (Ahead lt R) →
  ∃ S',insSort 0 lt a rest.length (a + S.length) (P ++ (S ++ (rest ++ Q)))=P ++ (S' ++ Q)∧S'.Perm (S ++ rest)∧S'.Pairwise R
 | [],S,P,Q,a,ha,hs,hU,hA,hr=>⟨S,rfl,by rw [List.append_nil],hs⟩
 | y :: rest,S,P,Q,a,ha,hs,hU,hA,hr=>by
  obtain ⟨S1,h1,h2,h3⟩:=insIn_at (lt:=lt) O S.length S P (rest ++ Q) y a rfl ha hs (fun x hx=>hU x (List.mem_append_left _ hx)) (hU y (by simp)) (fun x hx=>hA x hx y (by simp))
  obtain ⟨hr1,hr2⟩:=List.pairwise_cons.mp hr
  have hl : S1.length=S.length + 1:=by rw [h2.length_eq];simp
  obtain ⟨S',h4,h5,h6⟩:=insSort_at O rest S1 P Q a ha h3 (fun x hx=>by
    rcases List.mem_append.mp hx with k|k
    ·rcases List.mem_append.mp (h2.mem_iff.mp k) with k|k
     ·exact hU x (List.mem_append_left _ k)
     ·rw [List.mem_singleton.mp k];exact hU y (by simp)
    ·exact hU x (by simp [k])) (fun x hx z hz=>by
    rcases List.mem_append.mp (h2.mem_iff.mp hx) with k|k
    ·exact hA x k z (by simp [hz])
    ·rw [List.mem_singleton.mp k];exact hr1 z hz) hr2
  refine ⟨S',?_,?_,h6⟩
  ·show insSort 0 lt a (rest.length + 1) (a + S.length) (P ++ (S ++ (y :: (rest ++ Q))))=_
   rw [insSort,h1]
   rw [hl] at h4
   exact h4
  ·refine h5.trans ?_
   have:=List.Perm.append_right rest h2
   simpa using this
inductive Chs (R : Nat→Nat→Prop) (bs : Nat) : Nat→List Nat→Prop
 | last (a : Nat) (S : List Nat) : S.length≤bs→S.Perm (List.range' a S.length)→S.Pairwise R→Chs R bs a S
 | more (a : Nat) (S rest : List Nat) : S.length=bs→S.Perm (List.range' a bs)→S.Pairwise R→Chs R bs (a + bs) rest→Chs R bs a (S ++ rest)
theorem mem_perm_range {S : List Nat} {a n x : Nat} (h : S.Perm (List.range' a n)) (hx : x ∈ S) : a≤x∧x < a + n:=by
 have:=h.mem_iff.mp hx
 rw [List.mem_range'_1] at this
 exact this
theorem perm_two {S S2 : List Nat} {a n m : Nat} (h : S.Perm (List.range' a n)) (h2 : S2.Perm (List.range' (a + n) m)) : (S ++ S2).Perm (List.range' a (n + m)):=by
 have:=h.append h2
 rwa [List.range'_append_1] at this
variable {N : Nat} (hAh : ∀ x y,x < y→y < N→Ahead lt R x y)
include hAh
theorem chs_ins (O : Ordl R (· < N)) : ∀ (f a : Nat) (P : List Nat),a=P.length→a≤N→N + 1≤a + f→∃ ys,insBlocks lt N f a (P ++ List.range' a (N - a))=P ++ ys∧Chs R 20 a ys∧ys.length=N - a
 | 0,a,P,ha,h1,h2=>by omega
 | f + 1,a,P,ha,h1,h2=>by
  have one : ∀ m,a + m≤N→∀ Q,∃ S',insSort 0 lt a (a + m - (a + 1)) (a + 1) (P ++ (List.range' a m ++ Q))=P ++ (S' ++ Q)∧S'.Perm (List.range' a m)∧S'.Pairwise R:=fun m hm Q=>by
   cases m with
   | zero=>exact ⟨[],by rw [show a + 0 - (a + 1)=0 by omega];rfl,List.Perm.refl _,List.Pairwise.nil⟩
   | succ m =>
    have h:=insSort_at (lt:=lt) O (List.range' (a + 1) m) [a] P Q a ha (List.pairwise_singleton _ _) (fun x hx=>by
      have : x=a ∨ x ∈ List.range' (a + 1) m:=by simpa using hx
      rcases this with h|h
      ·omega
      ·rw [List.mem_range'_1] at h;omega) (fun x hx y hy=>by
      rw [List.mem_singleton.mp hx]
      rw [List.mem_range'_1] at hy
      exact hAh a y (by omega) (by omega)) (by
      refine List.Pairwise.imp_of_mem ?_ (List.pairwise_lt_range' (s:=a + 1) (n:=m) 1)
      intro x y hx hy hxy
      rw [List.mem_range'_1] at hy
      exact hAh x y hxy (by omega))
    rw [List.length_range'] at h
    rw [show a + (m + 1) - (a + 1)=m by omega,show List.range' a (m + 1)=a :: List.range' (a + 1) m from List.range'_succ]
    exact h
  unfold insBlocks
  by_cases q : a + 20≤N
  ·rw [if_pos q]
   obtain ⟨S',e1,e2,e3⟩:=one 20 q (List.range' (a + 20) (N - (a + 20)))
   have er : List.range' a (N - a)=List.range' a 20 ++ List.range' (a + 20) (N - (a + 20)):=by
    rw [List.range'_append_1]
    congr 1
    omega
   rw [er,e1]
   have hl : S'.length=20:=by rw [e2.length_eq,List.length_range']
   obtain ⟨ys,k1,k2,k3⟩:=chs_ins O f (a + 20) (P ++ S') (by rw [List.length_append,hl,ha]) q (by omega)
   refine ⟨S' ++ ys,?_,Chs.more a S' ys hl e2 e3 k2,by rw [List.length_append,hl,k3];omega⟩
   rw [← List.append_assoc,k1,List.append_assoc]
  ·rw [if_neg q]
   obtain ⟨S',e1,e2,e3⟩:=one (N - a) (by omega) []
   have hl : S'.length=N - a:=by rw [e2.length_eq,List.length_range']
   rw [List.append_nil,List.append_nil,show a + (N - a) - (a + 1)=N - (a + 1) by omega] at e1
   exact ⟨S',e1,Chs.last a S' (by omega) (by rw [hl];exact e2) e3,hl⟩
theorem chs_len {bs a : Nat} {xs : List Nat} (h : Chs R bs a xs) : xs.Perm (List.range' a xs.length):=by
 induction h with
 | last a S h1 h2 h3=>exact h2
 | more a S rest h1 h2 h3 h4 ih=>rw [List.length_append,h1];exact perm_two h2 ih
theorem sym_at (O : Ordl R (· < N)) (P A B Q : List Nat) (a m b f : Nat) (hf : b - a≤f) (ha : a=P.length) (hm : m=a + A.length) (hb : b=m + B.length) (hbN : b≤N) (nA : 0 < A.length) (nB : 0 < B.length) (pA : A.Perm (List.range' a A.length)) (pB : B.Perm (List.range' m B.length)) (sA : A.Pairwise R) (sB : B.Pairwise R) :
  ∃ S,symM 0 lt f a m b (P ++ (A ++ (B ++ Q)))=P ++ (S ++ Q)∧S.Perm (List.range' a (A.length + B.length))∧S.Pairwise R:=by
 obtain ⟨S,h1,h2,h3⟩:=symM_spec (e0:=0) O f P A B Q a m b hf ha hm hb (by intro h;rw [h] at nA;simp at nA) (by intro h;rw [h] at nB;simp at nB) (fun x hx=>by have:=mem_perm_range pA hx;show x < N;omega) (fun x hx=>by have:=mem_perm_range pB hx;show x < N;omega) sA sB (fun x hx y hy=>by
  have:=mem_perm_range pA hx
  have:=mem_perm_range pB hy
  exact hAh x y (by omega) (by omega))
 exact ⟨S,h1,h2.trans (perm_two pA (by rw [← hm];exact pB)),h3⟩
theorem chs_pass (O : Ordl R (· < N)) (bs : Nat) (hbs : 0 < bs) : ∀ (f a : Nat) (P xs : List Nat),a=P.length→P.length + xs.length=N→N + 1≤a + f→Chs R bs a xs→∃ ys,symPass lt N bs f a (P ++ xs)=P ++ ys∧Chs R (bs * 2) a ys∧ys.length=xs.length
 | 0,a,P,xs,ha,hN,hf,hC=>by omega
 | f + 1,a,P,xs,ha,hN,hf,hC=>by
  unfold symPass
  cases hC with
  | last _ _ h1 h2 h3 =>
   rw [if_neg (by omega),if_neg (by omega)]
   exact ⟨xs,rfl,Chs.last a xs (by omega) h2 h3,rfl⟩
  | more _ S rest h1 h2 h3 hC =>
   rw [List.length_append] at hN
   cases hC with
   | last _ _ k1 k2 k3 =>
    by_cases q : a + 2 * bs≤N
    ·rw [if_pos q]
     have hr : rest.length=bs:=by omega
     obtain ⟨S',e1,e2,e3⟩:=sym_at hAh O P S rest [] a (a + bs) (a + 2 * bs) N (by omega) ha (by omega) (by omega) q (by omega) (by omega) (by rw [h1];exact h2) k2 h3 k3
     rw [List.append_nil,List.append_nil] at e1
     rw [e1]
     have hl : S'.length=bs * 2:=by rw [e2.length_eq,List.length_range'];omega
     obtain ⟨ys,g1,g2,g3⟩:=chs_pass O bs hbs f (a + 2 * bs) (P ++ S') [] (by rw [List.length_append,hl];omega) (by rw [List.length_append,hl];simp;omega) (by omega) (Chs.last _ [] (by simp) (List.Perm.refl _) List.Pairwise.nil)
     rw [List.append_nil] at g1
     refine ⟨S' ++ ys,by rw [g1,List.append_assoc],Chs.more a S' ys hl ?_ e3 (by rw [show a + bs * 2=a + 2 * bs by omega];exact g2),by rw [List.length_append,List.length_append,hl,g3];simp;omega⟩
     rw [h1,hr,show bs + bs=bs * 2 by omega] at e2
     exact e2
    ·rw [if_neg q]
     by_cases q2 : a + bs < N
     ·rw [if_pos q2]
      obtain ⟨S',e1,e2,e3⟩:=sym_at hAh O P S rest [] a (a + bs) N N (by omega) ha (by omega) (by omega) (Nat.le_refl _) (by omega) (by omega) (by rw [h1];exact h2) k2 h3 k3
      rw [List.append_nil,List.append_nil] at e1
      have hl : S'.length=S.length + rest.length:=by rw [e2.length_eq,List.length_range']
      exact ⟨S',e1,Chs.last a S' (by omega) (by rw [hl];exact e2) e3,by rw [hl,List.length_append]⟩
     ·rw [if_neg q2]
      have hr : rest.length=0:=by omega
      obtain rfl : rest=[]:=List.length_eq_zero_iff.mp hr
      rw [List.append_nil]
      exact ⟨S,rfl,Chs.last a S (by omega) (by rw [h1];exact h2) h3,by simp⟩
   | more _ S2 rest2 k1 k2 k3 hC2 =>
    rw [List.length_append] at hN
    rw [if_pos (by omega)]
    obtain ⟨S',e1,e2,e3⟩:=sym_at hAh O P S S2 rest2 a (a + bs) (a + 2 * bs) N (by omega) ha (by omega) (by omega) (by omega) (by omega) (by omega) (by rw [h1];exact h2) (by rw [k1];exact k2) h3 k3
    rw [e1]
    have hl : S'.length=bs * 2:=by rw [e2.length_eq,List.length_range'];omega
    obtain ⟨ys,g1,g2,g3⟩:=chs_pass O bs hbs f (a + 2 * bs) (P ++ S') rest2 (by rw [List.length_append,hl];omega) (by rw [List.length_append,hl];omega) (by omega) (by rw [show a + 2 * bs=a + bs + bs by omega];exact hC2)
    refine ⟨S' ++ ys,by rw [← List.append_assoc,g1,List.append_assoc],Chs.more a S' ys hl ?_ e3 (by rw [show a + bs * 2=a + 2 * bs by omega];exact g2),by rw [List.length_append,List.length_append,List.length_append,hl,g3];omega⟩
    rw [h1,k1,show bs + bs=bs * 2 by omega] at e2
    exact e2
theorem chs_passes (O : Ordl R (· < N)) : ∀ (f bs : Nat) (xs : List Nat),0 < bs→xs.length=N→N + 1≤bs + f→0 < f→Chs R bs 0 xs→(passes lt N f bs xs).Perm (List.range N)∧(passes lt N f bs xs).Pairwise R
 | 0,bs,xs,hb,hl,hf,hf0,hC=>by omega
 | f + 1,bs,xs,hb,hl,hf,hf0,hC=>by
  unfold passes
  by_cases q : bs < N
  ·rw [if_pos q]
   obtain ⟨ys,g1,g2,g3⟩:=chs_pass hAh O bs hb (N + 1) 0 [] xs rfl (by simp [hl]) (by omega) hC
   rw [List.nil_append,List.nil_append] at g1
   rw [g1]
   exact chs_passes O f (bs * 2) ys (by omega) (by omega) (by omega) (by omega) g2
  ·rw [if_neg q]
   have hp:=chs_len hAh hC
   rw [hl,← List.range_eq_range'] at hp
   refine ⟨hp,?_⟩
   cases hC with
   | last _ _ h1 h2 h3=>exact h3
   | more _ S rest h1 h2 h3 hC =>
    rw [List.length_append] at hl
    have hr : rest.length=0:=by omega
    obtain rfl : rest=[]:=List.length_eq_zero_iff.mp hr
    rw [List.append_nil]
    exact h3
theorem stable_spec (O : Ordl R (· < N)) : (stableL lt N (List.range N)).Perm (List.range N)∧(stableL lt N (List.range N)).Pairwise R:=by
 unfold stableL
 obtain ⟨ys,g1,g2,g3⟩:=chs_ins hAh O (N + 1) 0 [] rfl (by omega) (by omega)
 rw [List.nil_append,List.nil_append,Nat.sub_zero,← List.range_eq_range'] at g1
 rw [g1]
 exact chs_passes hAh O (N + 1) 20 ys (by omega) (by omega) (by omega) (by omega) g2
end
end Go.Proofs.Ytojbeofipedolaa.P

/- Rows that fit, as far as they go: their order. -/
namespace Go.Proofs.Ytojbeofipedolaa.P
open Go.RowKit Go.Proofs.YtojbeofipedolaaW.PrintWords Go.Proofs.YtojbeofipedolaaW.PrintLast Go.Proofs.YtojbeofipedolaaW.PrintMore
set_option linter.unusedVariables false
set_option linter.unusedSimpArgs false
structure RowOk (T : List Int) (a : List XV) : Prop where
 len : a.length≤T.length
 fit : FitAt T a a.length 0
 gr : GR a
theorem FitAt.mono {T : List Int} {a : List XV} {m m' : Nat} (h : FitAt T a m 0) (hm : m'≤m) : FitAt T a m' 0:=fun j h1 h2=>h j h1 (by omega)
theorem RowOk.take {T : List Int} {a : List XV} (h : RowOk T a) (n : Nat) : RowOk T (a.take n):=by
 have hl : (a.take n).length≤a.length:=by rw [List.length_take];omega
 refine ⟨by have:=h.len;omega,fun j h1 h2=>?_,fun v hv=>h.gr v (List.mem_of_mem_take hv)⟩
 rw [List.length_take] at h2
 rw [rdV_take a n j (by omega)]
 exact h.fit j h1 (by omega)
theorem cmpFrom_pre (T : List Int) (a b : List XV) : ∀ m' m i,m'≤m→cmpFrom T a b m i≤0→cmpFrom T a b m' i≤0
 | 0,_,_,_,_=>by simp [cmpFrom]
 | m' + 1,0,_,h,_=>by omega
 | m' + 1,m + 1,i,h,hc=>by
  simp only [cmpFrom] at hc ⊢
  split
  ·rename_i h0
   rw [if_pos h0] at hc
   exact cmpFrom_pre T a b m' m (i + 1) (by omega) hc
  ·rename_i h0
   rw [if_neg h0] at hc
   exact hc
theorem cmpRow_anti (T : List Int) (K : Int) (a b : List XV) : cmpRow T K b a=- cmpRow T K a b:=by
 unfold cmpRow
 rw [cmpFrom_anti,show min (min (min K.toNat T.length) b.length) a.length=min (min (min K.toNat T.length) a.length) b.length by omega]
theorem cmpRow_tr (T : List Int) (K : Int) {a b c : List XV} (ha : RowOk T a) (hb : RowOk T b) (hc : RowOk T c) (hf : min K.toNat T.length≤b.length) : cmpRow T K a b≤0→cmpRow T K b c≤0→cmpRow T K a c≤0:=by
 unfold cmpRow
 intro h1 h2
 exact cmpFrom_trans T a b c _ 0 (ha.fit.mono (by omega)) (hb.fit.mono (by omega)) (hc.fit.mono (by omega)) (cmpFrom_pre T a b _ _ 0 (by omega) h1) (cmpFrom_pre T b c _ _ 0 (by omega) h2)
theorem cmpRow_self (T : List Int) (K : Int) (a : List XV) : cmpRow T K a a=0:=by have:=cmpRow_anti T K a a;omega
structure Full (T : List Int) (K : Int) (a : List XV) : Prop where
 ok : RowOk T a
 key : min K.toNat T.length≤a.length
def InOrd (T : List Int) (K : Int) (l : List (List XV)) : Prop:=l.Pairwise (fun a b=>cmpRow T K a b≤0)
theorem InOrd.at {T : List Int} {K : Int} {l : List (List XV)} (h : InOrd T K l) {i j : Nat} (hij : i≤j) (hj : j < l.length) : cmpRow T K (rdR l i) (rdR l j)≤0:=by
 rw [show rdR l i=l[i] from rdR_lt l i (by omega),show rdR l j=l[j] from rdR_lt l j hj]
 rcases Nat.eq_or_lt_of_le hij with e|h1
 ·subst e;rw [cmpRow_self];omega
 ·exact List.pairwise_iff_getElem.mp h i j (by omega) hj h1
end Go.Proofs.Ytojbeofipedolaa.P

/- The document's Sort puts rows in order. -/
namespace Go.Proofs.Ytojbeofipedolaa.P
open Go.RowKit Go.Proofs.YtojbeofipedolaaW.PrintWords Go.Proofs.YtojbeofipedolaaW.PrintLast Go.Proofs.YtojbeofipedolaaW.PrintMore
set_option linter.unusedVariables false
set_option linter.unusedSimpArgs false
def insR (T : List Int) (K : Int) (x : List XV) : List (List XV)→List (List XV)
 | []=>[x]
 | y :: l=>if cmpRow T K y x > 0 then x :: y :: l else y :: insR T K x l
def sortR (T : List Int) (K : Int) (l acc : List (List XV)) : List (List XV):=l.foldl (fun a x=>insR T K x a) acc
end Go.Proofs.Ytojbeofipedolaa.P

/- Rows made to fit, and put in order. -/
namespace Go.Proofs.Ytojbeofipedolaa.P
open Go.RowKit Go.Proofs.YtojbeofipedolaaW.PrintWords Go.Proofs.YtojbeofipedolaaW.PrintLast Go.Proofs.YtojbeofipedolaaW.PrintMore
set_option linter.unusedVariables false
set_option linter.unusedSimpArgs false
def fitsR (T : List Int) (l : List (List XV)) : List (List XV):=(l.take 60).map (fitRow T)
structure Rows60 (T : List Int) (K : Int) (l : List (List XV)) : Prop where
 len : l.length≤60
 full : ∀ r ∈ l,Full T K r
 wide : ∀ r ∈ l,r.length=T.length
theorem Rows60.gr {T : List Int} {K : Int} {l : List (List XV)} (h : Rows60 T K l) : ∀ r ∈ l,GR r:=fun r hr=>(h.full r hr).ok.gr
end Go.Proofs.Ytojbeofipedolaa.P

/- What order.Sort does, is what the document says. -/
namespace Go.Proofs.Ytojbeofipedolaa.P
open Go.RowKit Go.Proofs.YtojbeofipedolaaW.PrintWords Go.Proofs.YtojbeofipedolaaW.PrintLast
set_option linter.unusedVariables false
def insN (cf : Nat→Nat→Int) (x : Nat) : List Nat→List Nat
 | []=>[x]
 | y :: l=>if cf y x > 0 then x :: y :: l else y :: insN cf x l
def sortN (cf : Nat→Nat→Int) (l acc : List Nat) : List Nat:=l.foldl (fun a x=>insN cf x a) acc
section
variable (T : List Int) (K : Int) (l : List (List XV)) (hF : ∀ r ∈ l,Full T K r)
def CFn (i j : Nat) : Int:=cmpRow T K (rdR l (i : Nat)) (rdR l (j : Nat))
def RSn (i j : Nat) : Prop:=CFn T K l i j < 0 ∨ (CFn T K l i j=0∧i < j)
include hF
theorem full_at (i : Nat) (hi : i < l.length) : Full T K (rdR l (i : Nat)):=by rw [show rdR l (i : Nat)=l[i] from rdR_lt l i hi];exact hF _ (List.getElem_mem hi)
theorem cf_tr {x y z : Nat} (hx : x < l.length) (hy : y < l.length) (hz : z < l.length) (h1 : CFn T K l x y≤0) (h2 : CFn T K l y z≤0) : CFn T K l x z≤0 :=
 cmpRow_tr T K (full_at T K l hF x hx).ok (full_at T K l hF y hy).ok (full_at T K l hF z hz).ok (full_at T K l hF y hy).key h1 h2
omit hF in
theorem cf_anti (x y : Nat) : CFn T K l y x=- CFn T K l x y:=cmpRow_anti T K _ _
theorem ord_O : Ordl (RSn T K l) (· < l.length):=by
 refine ⟨fun x y z hx hy hz h1 h2=>?_,fun x hx h=>?_⟩
 ·have a1:=cf_anti T K l x y
  have a2:=cf_anti T K l y z
  have a3:=cf_anti T K l x z
  have t1:=cf_tr T K l hF (x:=x) (y:=y) (z:=z) hx hy hz
  have t2:=cf_tr T K l hF (x:=z) (y:=x) (z:=y) hz hx hy
  have t3:=cf_tr T K l hF (x:=y) (y:=z) (z:=x) hy hz hx
  unfold RSn at *
  omega
 ·have:=cf_anti T K l x x
  unfold RSn at h
  omega
omit hF in
theorem ord_Ah (x y : Nat) (hxy : x < y) (hy : y < l.length) : Ahead (ltC (CFn T K l)) (RSn T K l) x y:=by
 have a1:=cf_anti T K l x y
 refine ⟨?_,?_⟩
 ·unfold ltC RSn
  rw [decide_eq_true_iff]
  omega
 ·unfold RSn
  omega
theorem ordP_spec : (ordP T K l).Perm (List.range l.length)∧(ordP T K l).Pairwise (RSn T K l):=stable_spec (N:=l.length) (ord_Ah T K l) (ord_O T K l hF)
end
end Go.Proofs.Ytojbeofipedolaa.P

/- What the laws of the order begin with. -/
namespace Go.Proofs.Ytojbeofipedolaa.P
open Go.RowKit Go.Proofs.YtojbeofipedolaaW.PrintWords Go.Proofs.YtojbeofipedolaaW.PrintLast
set_option linter.unusedVariables false
theorem shown09_ev : Ev (fun k=>thresherlaw09_shown.f k) true:=Ev.of thresherlaw09_shown.mono (k:=10) (by kernel_rfl)
end Go.Proofs.Ytojbeofipedolaa.P

/- Rows with the same key stay in the order in which they were: the plain law. -/
namespace Go.Proofs.Ytojbeofipedolaa.Pure
open Go.RowKit Go.Proofs.Ytojbeofipedolaa.P Go.Proofs.YtojbeofipedolaaW.PrintWords Go.Proofs.YtojbeofipedolaaW.PrintLast
set_option linter.unusedVariables false
def mkRow (keys : List Int) (i : Nat) : List XV:=[⟨rd keys i,⟨#[]⟩⟩,⟨(i : Int),⟨#[]⟩⟩]
theorem mk_fit (n : Int) : fitT 1 ⟨n,⟨#[]⟩⟩=true:=by
 unfold fitT
 rw [if_pos (Or.inl rfl)]
 show ((⟨#[]⟩ : ByteArray).toList == ([] : List UInt8))=true
 simp [ByteArray.toList_eq]
theorem mk_cmp (keys : List Int) (x y : Nat) : cmpRow [1,1] 1 (mkRow keys x) (mkRow keys y)=sgn (rd keys x) (rd keys y):=by
 have e : cmpV 1 ⟨rd keys x,⟨#[]⟩⟩ ⟨rd keys y,⟨#[]⟩⟩=sgn (rd keys x) (rd keys y):=by
  unfold cmpV
  rw [if_pos ⟨mk_fit _,mk_fit _⟩,if_neg (by omega),if_neg (by omega)]
 show cmpFrom [1,1] (mkRow keys x) (mkRow keys y) 1 0=_
 show (if cmpV 1 ⟨rd keys x,⟨#[]⟩⟩ ⟨rd keys y,⟨#[]⟩⟩=0 then (0 : Int) else cmpV 1 ⟨rd keys x,⟨#[]⟩⟩ ⟨rd keys y,⟨#[]⟩⟩)=_
 rw [e]
 split
 ·omega
 ·rfl
theorem mk_full (keys : List Int) (hk : ∀ k ∈ keys,-9223372036854775808≤k∧k≤9223372036854775807) (i : Nat) (hi : i < keys.length) (h6 : i < 60) : Full [1,1] 1 (mkRow keys i):=by
 have g0 : GV (⟨rd keys i,⟨#[]⟩⟩ : XV):=by
  have:=hk _ (List.getElem_mem hi)
  rw [← rd_lt keys i hi] at this
  exact this
 have g1 : GV (⟨(i : Int),⟨#[]⟩⟩ : XV):=⟨by show (-9223372036854775808 : Int)≤(i : Int);omega,by show (i : Int)≤9223372036854775807;omega⟩
 refine ⟨⟨Nat.le_refl 2,fun j h1 h2=>?_,fun v hv=>?_⟩,?_⟩
 ·have h2' : j < 2:=by simpa [mkRow] using h2
  have : j=0 ∨ j=1:=by omega
  rcases this with rfl|rfl
  ·exact ⟨mk_fit _,g0⟩
  ·exact ⟨mk_fit _,g1⟩
 ·rcases List.mem_cons.mp hv with rfl|hv
  ·exact ⟨g0,by show (0 : Nat)≤_;omega⟩
  ·rw [List.mem_singleton.mp hv]
   exact ⟨g1,by show (0 : Nat)≤_;omega⟩
 ·show min (1 : Int).toNat 2≤2
  omega
section
variable (keys : List Int) (rows a : List (List XV)) (p : List Nat) (n : Nat) (hn : n≤keys.length) (hn6 : n≤60) (hrl : rows.length=n) (hal : a.length=n) (hpl : p.length=n) (hpn : ∀ i (h : i < p.length),p[i] < n)
 (ha : ∀ i (h : i < p.length),rd_L5 a (i : Int)=mkRow keys p[i])
 (hs : ∀ i (h : i + 1 < p.length),rd keys (p[i] : Int) < rd keys (p[i + 1] : Int) ∨ rd keys (p[i] : Int)=rd keys (p[i + 1] : Int)∧p[i] < p[i + 1])
include hn hn6 hrl hal hpl hpn ha hs
theorem stab_l1 : ∀ (d i : Nat),i + d=n→Ev (fun k=>thresherlaw09_OrderStable.l1 k keys true rows a i) true
 | 0,i,hi=>by
  refine Ev.succ ?_
  simp only [thresherlaw09_OrderStable.l1]
  exact Ev.neg (by omega) (Ev.now _)
 | d + 1,i,hi=>by
  have h : i < p.length:=by omega
  have hq:=hpn i h
  have e1 : wrap64 ((i : Int) + 1)=((i + 1 : Nat) : Int):=w64 (by omega) (by omega)
  have E1:=Aside0.mk e1
  clear e1
  have j4 : Ev (fun k=>thresherlaw09_OrderStable.j4 k keys true rows a i false) true:=by
   refine Ev.succ ?_
   simp only [thresherlaw09_OrderStable.j4]
   rw [E1.out]
   exact Ev.neg (by simp) (stab_l1 d (i + 1) (by omega))
  have j3 : Ev (fun k=>thresherlaw09_OrderStable.j3 k keys true rows a i false) true:=by
   refine Ev.succ ?_
   simp only [thresherlaw09_OrderStable.j3]
   refine Ev.neg (by simp) ?_
   by_cases h0 : (i : Int) > 0
   ·obtain ⟨j,rfl⟩ : ∃ j,i=j + 1:=⟨i - 1,by omega⟩
    have e0 : wrap64 (((j + 1 : Nat) : Int) - 1)=(j : Int):=by rw [w64 (by omega) (by omega)];omega
    rw [e0,ha (j + 1) h,ha j (by omega)]
    clear e0
    have hc:=hs j h
    refine Ev.pos h0 (Ev.pos (by omega) (Ev.pos (by omega) (Ev.pos (by simp [mkRow]) (Ev.pos (by omega) (Ev.pos (by omega) (Ev.pos (by simp [mkRow]) ?_))))))
    show Ev (fun k=>if rd keys (p[j]'(by omega) : Int) > rd keys (p[j + 1] : Int) then thresherlaw09_OrderStable.j4 k keys true rows a ((j + 1 : Nat) : Int) true else (if rd keys (p[j]'(by omega) : Int)=rd keys (p[j + 1] : Int) then (if 1 < ((mkRow keys (p[j]'(by omega))).length : Int) then (if 1 < ((mkRow keys p[j + 1]).length : Int) then thresherlaw09_OrderStable.j4 k keys true rows a ((j + 1 : Nat) : Int) (decide (((p[j]'(by omega) : Nat) : Int) ≥ ((p[j + 1] : Nat) : Int))) else none) else none) else thresherlaw09_OrderStable.j4 k keys true rows a ((j + 1 : Nat) : Int) false)) true
    refine Ev.neg (by omega) ?_
    by_cases he : rd keys (p[j]'(by omega) : Int)=rd keys (p[j + 1] : Int)
    ·refine Ev.pos he (Ev.pos (by simp [mkRow]) (Ev.pos (by simp [mkRow]) ?_))
     rw [show decide (((p[j]'(by omega) : Nat) : Int) ≥ ((p[j + 1] : Nat) : Int))=false from decide_eq_false (by omega)]
     exact j4
    ·exact Ev.neg he j4
   ·exact Ev.neg h0 j4
  refine Ev.succ ?_
  simp only [thresherlaw09_OrderStable.l1]
  rw [ha i h]
  refine Ev.pos (by omega) (Ev.pos (by omega) (Ev.pos (by simp [mkRow]) (Ev.pos (by simp [mkRow]) ?_)))
  show Ev (fun k=>if ((p[i] : Nat) : Int) < 0 then thresherlaw09_OrderStable.j3 k keys true rows a i true else (if ((p[i] : Nat) : Int) ≥ (rows.length : Int) then thresherlaw09_OrderStable.j3 k keys true rows a i true else (if 0≤((p[i] : Nat) : Int) then (if ((p[i] : Nat) : Int) < (keys.length : Int) then (if 0 < ((mkRow keys p[i]).length : Int) then thresherlaw09_OrderStable.j3 k keys true rows a i (rd keys ((p[i] : Nat) : Int) != rd keys ((p[i] : Nat) : Int)) else none) else none) else none))) true
  refine Ev.neg (by omega) (Ev.neg (by omega) (Ev.pos (by omega) (Ev.pos (by omega) (Ev.pos (by simp [mkRow]) ?_))))
  rw [show (rd keys ((p[i] : Nat) : Int) != rd keys ((p[i] : Nat) : Int))=false by simp]
  exact j3
end
theorem stab_l0 (keys : List Int) {R : Bool} (n : Nat) (hn : n=min keys.length 60) (fin : Ev (fun k=>thresherlaw09_OrderStable.j1 k keys true ((List.range n).map (mkRow keys)) [1,1] 1 1 4) R) : ∀ (d i : Nat),i + d=n→Ev (fun k=>thresherlaw09_OrderStable.l0 k keys true ((List.range i).map (mkRow keys)) i [1,1] 1 1 4) R
 | 0,i,hi=>by
  obtain rfl : i=n:=by omega
  refine Ev.succ ?_
  simp only [thresherlaw09_OrderStable.l0]
  by_cases q : (i : Int) < (keys.length : Int)
  ·exact Ev.pos q (Ev.neg (by omega) fin)
  ·exact Ev.neg q fin
 | d + 1,i,hi=>by
  have e1 : wrap64 ((i : Int) + 1)=((i + 1 : Nat) : Int):=w64 (by omega) (by omega)
  have ih:=stab_l0 keys n hn fin d (i + 1) (by omega)
  rw [List.range_succ,List.map_append] at ih
  refine Ev.succ ?_
  simp only [thresherlaw09_OrderStable.l0]
  rw [e1]
  clear e1
  exact Ev.pos (by omega) (Ev.pos (by omega) (Ev.pos (by omega) (Ev.pos (by simp;omega) ih)))
theorem OrderStable : thresherlaw09_OrderStable.PureG:=by
 intro keys ⟨hl,hl2⟩
 have hk : ∀ k ∈ keys,-9223372036854775808≤k∧k≤9223372036854775807:=fun k h=>wf_i64 (hl2 k h)
 obtain ⟨n,hn⟩ : ∃ n,n=min keys.length 60:=⟨_,rfl⟩
 apply Ev.rounds
 simp only [thresherlaw09_OrderStable.f]
 refine Ev.bind shown09_ev ?_
 refine stab_l0 keys n hn ?_ n 0 (by omega)
 obtain ⟨rows,hrows⟩ : ∃ rows,rows=(List.range n).map (mkRow keys):=⟨_,rfl⟩
 rw [← hrows]
 have hrl : rows.length=n:=by rw [hrows];simp
 have hr : ∀ i,i < n→rdR rows (i : Nat)=mkRow keys i:=fun i hi=>by
  rw [show rdR rows (i : Nat)=rows[i]'(by omega) from rdR_lt rows i (by omega)]
  simp [hrows]
 have hF : ∀ r ∈ rows,Full [1,1] 1 r:=fun r h=>by
  rw [hrows] at h
  obtain ⟨i,hi,rfl⟩:=List.mem_map.mp h
  have:=List.mem_range.mp hi
  exact mk_full keys hk i (by omega) (by omega)
 obtain ⟨p1,p2⟩:=ordP_spec [1,1] 1 rows hF
 obtain ⟨p,hp⟩ : ∃ p,p=ordP [1,1] 1 rows:=⟨_,rfl⟩
 rw [← hp] at p1 p2
 have hpl : p.length=n:=by rw [p1.length_eq,List.length_range,hrl]
 have hpn : ∀ i (h : i < p.length),p[i] < n:=fun i h=>by
  have:=List.mem_range.mp (p1.mem_iff.mp (List.getElem_mem h))
  omega
 obtain ⟨a,ha⟩ : ∃ a,a=p.map (fun i=>rdR rows (i : Nat)):=⟨_,rfl⟩
 have hal : a.length=n:=by rw [ha,List.length_map,hpl]
 have hsort : Ev (fun k=>order_Sort.f k [1,1] 1 1 4 rows) a:=⟨0,fun k _=>by
  show (if ([1,1] : List Int).length≤1000000000∧rows.length≤1000000000 then some ((ordP [1,1] 1 rows).map fun i=>rdR rows (i : Nat)) else none)=_
  rw [if_pos ⟨by decide,by omega⟩,ha,hp]⟩
 refine Ev.succ ?_
 simp only [thresherlaw09_OrderStable.j1]
 refine Ev.bind hsort (Ev.pos (by omega) ?_)
 refine stab_l1 keys rows a p n (by omega) (by omega) hrl hal hpl hpn (fun i h=>?_) (fun i h=>?_) n 0 (by omega)
 ·rw [rdR_lt a i (by omega)]
  simp only [ha,List.getElem_map]
  exact hr _ (hpn i h)
 ·have:=List.pairwise_iff_getElem.mp p2 i (i + 1) (by omega) h (by omega)
  unfold RSn CFn at this
  rw [hr _ (hpn i (by omega)),hr _ (hpn (i + 1) h),mk_cmp] at this
  unfold sgn at this
  split at this
  ·exact Or.inl (by assumption)
  ·split at this
   ·omega
   ·refine Or.inr ⟨by omega,?_⟩
    rcases this with h|h
    ·omega
    ·exact h.2
end Go.Proofs.Ytojbeofipedolaa.Pure

namespace Go.Proofs.Ytojbeofipedolaa.orderStable
open Go.ChangeShapes Go.WideShapes Go.ChangeAt Go.RowKit Go.Proofs.Ytojbeofipedolaa.P Go.Proofs.YtojbeofipedolaaW.PrintWords
set_option linter.unusedVariables false
set_option linter.unusedSimpArgs false
theorem own : ownKnob Try.prog.godebug=none:=by kernel_rfl
theorem laidOut : laidOutB Try.prog=true:=by kernel_rfl
set_option maxRecDepth 100000 in
theorem lifted (os : Os) (started : os.Started) (H : Type) (enc : TypeId × Value→H) :
  ReturnsInHanded {} Try.checked os 4 .any (Rows.orderStableSpec.pre6 enc Try.prog Try.f4 Rows.orderStableRow.domain false) (Rows.orderStableSpec.post enc Try.prog Try.f4 false true false false):=by
 refine returnsInHanded_of_change_sized (C:=Try.checked) own started (by kernel_rfl) Try.func4
  (ChangeSpec.witness6 (enc:=enc) (C:=Try.checked) false ⟨#[],#[.slice none 0 0],[]⟩ 8 (by kernel_rfl) (by kernel_rfl) (by kernel_rfl) (by kernel_rfl)) ?_
 intro W base args ds gs before hval0 hW hcnd hsz0 _
 have hval : ∀ (j : Nat) t v,Try.f4.params[j]?=some t→args[j]?=some v→Value.okWide Try.prog W .any base t v:=hval0
 have hW':=hW
 obtain ⟨p,q,hA0,hV,rfl,hfz,hnd⟩:=hW
 have hA : DataW.TrodAll enc Try.prog W 0 (fun _=>true) true Try.f4.params.toList args.toList ds p:=hA0
 rw [Try.params4] at hA hval
 obtain ⟨v0,vs0,d0,ds0,p0,q0,hargs,rfl,rfl,h0,r0⟩:=trodAll_cons hA
 obtain ⟨rfl,rfl,rfl⟩:=trodAll_nil r0
 obtain rfl : args=#[v0]:=by cases args;simp_all
 obtain ⟨rfl,rfl⟩:=trodVars_none hV
 have lt0 : ∀ x ∈ p0,x.block < W.heap.size:=by obtain ⟨m,hm⟩:=h0;exact DataW.trod_lt m _ _ _ hm
 obtain ⟨x0,K0,g0⟩:=((opens_slice Try.underlying39 (by kernel_rfl) (opens_int Try.underlying2))).arg h0
 obtain ⟨a0,len0,cap0,rfl⟩:=okWide_slice Try.underlying39 (hval 0 39 v0 rfl rfl)
 obtain ⟨A0,c0,e0,hl0,hr0⟩:=K0
 simp [Value.cells] at e0
 obtain ⟨rfl,rfl,rfl⟩:=e0
 obtain ⟨k,hk⟩:=Pure.OrderStable x0 g0
 have call : Calls Try.prog 4 #[.slice a0 x0.length cap0] W fun e W'=>e=.returned (.bool true)∧Below W.heap.size W W':=by
  refine (thresherlaw09_OrderStable.calls k _ _ _ true W hr0 hl0 hk).mono ?_
  rintro e w' ⟨rfl,hd⟩
  exact ⟨rfl,hd⟩
 refine call.mono fun e W' ⟨he,bel⟩=>?_
 subst he
 exact ⟨_,rfl,_,_,_,[],_,[],hW',trodAll_mk1 (shut_bool Try.underlying4 _),(trodAll_cons_mk (Below.trod laidOut (by kernel_rfl) (of_decide_eq_true (by kernel_rfl)) h0 bel lt0) trodAll_mk0),rfl,bel.frame _,fun h=>by cases h⟩
theorem over : Rows.orderStableRow.holds Try.pinned (OpenSpec.ofChange Rows.orderStableSpec) :=
 OpenClaim.holds_of_wide 4 Try.f4 rfl rfl rfl rfl rfl rfl rfl ⟨rfl,rfl,rfl,rfl,rfl⟩ rfl rfl rfl rfl rfl (by kernel_rfl) Try.func4 (by kernel_rfl)
  (of_decide_eq_true (by kernel_rfl)) (by unfold Func.isWrapper;first|(rw [if_pos (by decide +kernel)];kernel_rfl)|(rw [if_neg (by decide +kernel)];exact ⟨rfl,rfl⟩))
  (fun os started H enc _=>lifted os started H enc)
theorem proved : Rows.OrderStableSaid:=over
#print axioms proved
end Go.Proofs.Ytojbeofipedolaa.orderStable
namespace Go.Proofs.Ytojbeofipedolaa
theorem orderStable_holds : Rows.OrderStableSaid:=orderStable.proved
end Go.Proofs.Ytojbeofipedolaa

