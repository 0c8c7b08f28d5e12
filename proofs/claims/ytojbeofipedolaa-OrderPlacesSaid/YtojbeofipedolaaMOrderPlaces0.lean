/- The row of OrderPlaces. Merged: SOrderPlaces, XFit, XFitOk, XMade, XOne, XRVal, XStabB, XFits, XRCmp, XShape, XStabC, XRowOk, XSort, XSixty, XOrdS, XOrdIn, XOrdRef, PureOrderPlaces, ROrderPlaces. -/
import Derived.Test.YtojbeofipedolaaQOrderPlacesPx16
import Derived.Test.YtojbeofipedolaaQOrderPlacesO
import Derived.Test.YtojbeofipedolaaQOrderPlacesPx4
import Derived.Test.YtojbeofipedolaaQOrderPlacesXBase
import Derived.Test.YtojbeofipedolaaQOrderPlacesXOrd
import Derived.Test.YtojbeofipedolaaQOrderPlacesPx10
import Derived.Test.YtojbeofipedolaaQOrderPlacesPx6
import Derived.Test.YtojbeofipedolaaQOrderPlacesPx5
import Derived.Test.YtojbeofipedolaaQOrderPlacesXStable
import Derived.Test.YtojbeofipedolaaQOrderPlacesPx7
import Derived.Test.YtojbeofipedolaaQOrderPlacesHOrdE
import Derived.Test.YtojbeofipedolaaQOrderPlacesPx11
import Derived.Test.YtojbeofipedolaaQOrderPlacesHOrdA
import Derived.Test.YtojbeofipedolaaQOrderPlacesHOrdF
import Derived.Test.YtojbeofipedolaaQOrderPlacesPx12
import Derived.Test.YtojbeofipedolaaQOrderPlacesPx13
import Derived.Test.YtojbeofipedolaaRows
import Derived.WalkKit
import Derived.ProofKit
import Derived.OpenShut
import Derived.ShutString
import Derived.ChangeOld
import Derived.Below
import Derived.SizedLaws
namespace Go.Proofs.Ytojbeofipedolaa.P
open Go.RowKit Go.Proofs.YtojbeofipedolaaW.PrintWords
def thresherlaw09_OrderPlaces.PureG : Prop:=∀ (x0 : S24) (x1 : List (List (S41))) (x2 : List (S41)),gd24 x0→(x1.length≤maxLen∧∀ a ∈ x1,(a.length≤maxLen∧∀ aa ∈ a,gd41 aa))→(x2.length≤maxLen∧∀ a ∈ x2,gd41 a)→∃ k,thresherlaw09_OrderPlaces.f k x0.f0.f0 x0.f0.f1 x0.f0.f2 x0.f0.f3 x0.f0.f4 x0.f0.f5 x0.f0.f6 x0.f0.f7 x0.f1 x0.f2 x0.f3 x0.f4 x1 x2=some true
end Go.Proofs.Ytojbeofipedolaa.P

/- A row made to fit. -/
namespace Go.Proofs.Ytojbeofipedolaa.P
open Go.RowKit Go.Proofs.YtojbeofipedolaaW.PrintWords Go.Proofs.YtojbeofipedolaaW.PrintLast Go.Proofs.YtojbeofipedolaaW.PrintMore
set_option linter.unusedVariables false
set_option linter.unusedSimpArgs false
theorem fit_turn (T : List Int) (K M G : Int) (r : List XV) (i : Nat) (acc : List XV) (v0 : Int) (v1 : ByteArray) (hi : i < T.length) (hT : T.length≤1000000) (ha : acc.length=i) {R : List XV} (h : Ev (fun k=>thresherref04_Fit.l0 k r (acc ++ [fit1 (rd T i) ⟨v0,v1⟩]) ((i + 1 : Nat) : Int) T K M G) R) : Ev (fun k=>thresherref04_Fit.j1 k r acc i T K M G v0 v1) R:=by
 refine Ev.succ ?_
 simp only [thresherref04_Fit.j1]
 simp (disch:=omega) only [w64]
 refine Ev.pos (by omega) (Ev.pos (by omega) ?_)
 unfold fit1 at h
 by_cases e : rd T i=3
 ·rw [if_pos e] at h
  refine Ev.pos e ?_
  by_cases s : (v1.size : Int) > 60
  ·simp only [if_pos s] at h
   exact Ev.pos s (Ev.pos (by omega) (Ev.pos (by omega) (Ev.pos (by omega) h)))
  ·simp only [if_neg s] at h
   exact Ev.neg s (Ev.pos (by omega) h)
 ·rw [if_neg e] at h
  exact Ev.neg e (Ev.pos (by omega) h)
theorem fit_loop (T : List Int) (K M G : Int) (r : List XV) (hT : T.length≤1000000) : ∀ (d i : Nat) (acc : List XV),i + d=T.length→acc.length=i→Ev (fun k=>thresherref04_Fit.l0 k r acc i T K M G) (acc ++ (List.range' i d).map fun (j : Nat)=>fit1 (rd T j) (rdV r j))
 | 0,i,acc,hi,ha=>by
  refine Ev.succ ?_
  simp only [thresherref04_Fit.l0]
  exact Ev.neg (by omega) ((Ev.now _).eq (by simp))
 | d + 1,i,acc,hi,ha=>by
  refine Ev.succ ?_
  simp only [thresherref04_Fit.l0]
  refine Ev.pos (by omega) ?_
  have hl : (acc ++ [fit1 (rd T i) (rdV r i)]).length=i + 1:=by simp;omega
  have h:=(fit_loop T K M G r hT d (i + 1) (acc ++ [fit1 (rd T i) (rdV r i)]) (by omega) hl).eq (r':=acc ++ (List.range' i (d + 1)).map fun (j : Nat)=>fit1 (rd T j) (rdV r j)) (by rw [List.append_assoc,List.range'_succ];rfl)
  by_cases e : i < r.length
  ·exact Ev.pos (by omega) (Ev.pos (by omega) (fit_turn T K M G r i acc _ _ (by omega) hT ha h))
  ·refine Ev.neg (by omega) (fit_turn T K M G r i acc _ _ (by omega) hT ha ?_)
   have e2 : rdV r i=⟨0,⟨#[]⟩⟩:=rdV_ge r i (by omega)
   rw [e2] at h
   exact h
theorem fit_ev (T : List Int) (K M G : Int) (r : List XV) (hT : T.length≤1000000) : Ev (fun k=>thresherref04_Fit.f k T K M G r) (fitRow T r):=by
 simp only [thresherref04_Fit.f]
 exact fit_loop T K M G r hT T.length 0 [] (by omega) rfl
end Go.Proofs.Ytojbeofipedolaa.P

/- A row made to fit fits. -/
namespace Go.Proofs.Ytojbeofipedolaa.P
open Go.RowKit Go.Proofs.YtojbeofipedolaaW.PrintWords Go.Proofs.YtojbeofipedolaaW.PrintLast Go.Proofs.YtojbeofipedolaaW.PrintMore
set_option linter.unusedVariables false
set_option linter.unusedSimpArgs false
theorem rdV_of (P : XV→Prop) (r : List XV) (h0 : P ⟨0,⟨#[]⟩⟩) (h : ∀ v ∈ r,P v) (i : Nat) : P (rdV r i):=by
 by_cases hi : i < r.length
 ·show P (rd_T41 r i)
  rw [rdV_lt r i hi]
  exact h _ (List.getElem_mem hi)
 ·show P (rd_T41 r i)
  rw [rdV_ge r i (by omega)]
  exact h0
theorem fit1_GV (t : Int) (v : XV) (h : GV v) : GV (fit1 t v):=by
 unfold fit1
 split
 ·exact ⟨by simp,by simp⟩
 ·exact h
theorem fitRow_at {T : List Int} {K M G : Int} (hS : Sch T K M G) (r : List XV) (hr : ∀ v ∈ r,GV v) (m : Nat) (hm : m≤T.length) : FitAt T (fitRow T r) m 0:=by
 intro j _ hj
 rw [rdV_fitRow T r j (by omega)]
 obtain ⟨h1,h2⟩:=hS.rdt j (by omega)
 exact ⟨fitT_fit1 _ _ h1 h2,fit1_GV _ _ (rdV_of GV r ⟨by simp,by simp⟩ hr j)⟩
theorem rdV_take (r : List XV) (n j : Nat) (h : j < n) : rdV (r.take n) j=rdV r j:=by
 show rd_T41 _ _=rd_T41 _ _
 by_cases hi : j < r.length
 ·rw [rdV_lt _ j (by rw [List.length_take];omega),rdV_lt r j hi,List.getElem_take]
 ·rw [rdV_ge _ j (by rw [List.length_take];omega),rdV_ge r j (by omega)]
end Go.Proofs.Ytojbeofipedolaa.P

/- A schema made of any numbers. -/
namespace Go.Proofs.Ytojbeofipedolaa.P
open Go.RowKit Go.Proofs.YtojbeofipedolaaW.PrintWords Go.Proofs.YtojbeofipedolaaW.PrintLast Go.Proofs.YtojbeofipedolaaW.PrintMore
set_option linter.unusedVariables false
set_option linter.unusedSimpArgs false
def U8 (x : Int) : Prop:=0≤x∧x≤255
theorem made_one {x : Int} {m : Int} (h : U8 x) (hm : 0 < m) (hm2 : m≤1000) : wrap64 (1 + Int.tmod (wrap64 x) m)=1 + x % m∧1≤1 + x % m∧1 + x % m≤m:=by
 obtain ⟨h0,h1⟩:=h
 have e1 : wrap64 x=x:=w64 (by omega) (by omega)
 have h2:=Int.emod_nonneg x (show m≠0 by omega)
 have h3:=Int.emod_lt_of_pos x hm
 rw [e1,Int.tmod_eq_emod_of_nonneg h0]
 exact ⟨w64 (by omega) (by omega),by omega,by omega⟩
theorem made_loop (x0 x1 x2 x3 x4 x5 x6 x7 K M G : Int) (hx : ∀ x ∈ [x0,x1,x2,x3,x4,x5,x6,x7],U8 x) (n : Nat) (hn : n≤8) : ∀ (d i : Nat) (T : List Int),i + d=n→T.length=i→(∀ t ∈ T,1≤t∧t≤3)→∃ T',Ev (fun k=>thresherref04_Made.l0 k n i x0 x1 x2 x3 x4 x5 x6 x7 T K M G) (T',K,M,G)∧T'.length=n∧∀ t ∈ T',1≤t∧t≤3
 | 0,i,T,hi,hT,ht=>by
  refine ⟨T,Ev.succ ?_,by omega,ht⟩
  simp only [thresherref04_Made.l0]
  exact Ev.neg (by omega) (Ev.now _)
 | d + 1,i,T,hi,hT,ht=>by
  have hr : U8 (rd [x0,x1,x2,x3,x4,x5,x6,x7] i):=by
   rw [rd_lt _ i (by simp;omega)]
   exact hx _ (List.getElem_mem _)
  obtain ⟨e,l1,l2⟩:=made_one (m:=3) hr (by omega) (by omega)
  obtain ⟨T',h1,h2,h3⟩:=made_loop x0 x1 x2 x3 x4 x5 x6 x7 K M G hx n hn d (i + 1) (T ++ [1 + rd [x0,x1,x2,x3,x4,x5,x6,x7] i % 3]) (by omega) (by simp;omega) (by
   intro t h
   rcases List.mem_append.mp h with h|h
   ·exact ht t h
   ·rw [List.mem_singleton.mp h];exact ⟨l1,l2⟩)
  refine ⟨T',Ev.succ ?_,h2,h3⟩
  simp only [thresherref04_Made.l0]
  rw [e]
  clear e
  simp (disch:=omega) only [w64]
  exact Ev.pos (by omega) (Ev.pos (by omega) (Ev.pos (by omega) (Ev.pos (by omega) h1)))
theorem made_ev (x0 x1 x2 x3 x4 x5 x6 x7 a b c d : Int) (h0 : U8 x0) (h1 : U8 x1) (h2 : U8 x2) (h3 : U8 x3) (h4 : U8 x4) (h5 : U8 x5) (h6 : U8 x6) (h7 : U8 x7) (ha : U8 a) (hb : U8 b) (hc : U8 c) (hd : U8 d) : ∃ T K M G,Ev (fun k=>thresherref04_Made.f k x0 x1 x2 x3 x4 x5 x6 x7 a b c d) (T,K,M,G)∧Sch T K M G:=by
 obtain ⟨ea,a1,a2⟩:=made_one (m:=8) ha (by omega) (by omega)
 obtain ⟨n,hn⟩ : ∃ n : Nat,1 + a % 8=n:=⟨(1 + a % 8).toNat,by omega⟩
 obtain ⟨eb,b1,b2⟩:=made_one (m:=1 + a % 8) hb (by omega) (by omega)
 obtain ⟨ec,c1,c2⟩:=made_one (m:=3) hc (by omega) (by omega)
 obtain ⟨ed,d1,d2⟩:=made_one (m:=8) hd (by omega) (by omega)
 simp only [thresherref04_Made.f,ea,eb,ec,ed]
 clear ea eb ec ed
 rw [hn] at b1 b2 a1 a2 ⊢
 obtain ⟨T,e,l,t⟩:=made_loop x0 x1 x2 x3 x4 x5 x6 x7 (1 + b % n) (1 + c % 3) (1 + d % 8) (by
  intro x hx
  simp only [List.mem_cons,List.not_mem_nil,or_false] at hx
  rcases hx with rfl|rfl|rfl|rfl|rfl|rfl|rfl|rfl <;> assumption) n (by omega) n 0 [] (by omega) rfl (by simp)
 exact ⟨T,_,_,_,Ev.neg (by omega) e,⟨by omega,by omega,t,b1,by omega,c1,c2,d1,d2⟩⟩
end Go.Proofs.Ytojbeofipedolaa.P

/- Are two rows the same, and two lists of rows? -/
namespace Go.Proofs.Ytojbeofipedolaa.P
open Go.RowKit Go.Proofs.YtojbeofipedolaaW.PrintWords Go.Proofs.YtojbeofipedolaaW.PrintLast Go.Proofs.YtojbeofipedolaaW.PrintMore
set_option linter.unusedVariables false
set_option linter.unusedSimpArgs false
theorem one_loop (a b : List XV) (hl : a.length=b.length) (hb : a.length≤1000000000) : ∀ (d i : Nat),i + d=a.length→Ev (fun k=>thresherref04_One.l0 k a b i) (decide (a.drop i=b.drop i))
 | 0,i,hi=>by
  refine Ev.succ ?_
  simp only [thresherref04_One.l0]
  refine Ev.neg (by omega) ((Ev.now _).eq ?_)
  rw [List.drop_of_length_le (by omega),List.drop_of_length_le (by omega)]
  simp
 | d + 1,i,hi=>by
  have h1 : i < a.length:=by omega
  have h2 : i < b.length:=by omega
  refine Ev.succ ?_
  simp only [thresherref04_One.l0]
  simp (disch:=omega) only [w64]
  rw [rdV_lt a i h1,rdV_lt b i h2]
  rw [List.drop_eq_getElem_cons h1,List.drop_eq_getElem_cons h2]
  refine Ev.pos (by omega) (Ev.pos (by omega) (Ev.pos (by omega) ?_))
  by_cases e : a[i]=b[i]
  ·refine Ev.neg (fun h=>XV.same.mp h e) ((one_loop a b hl hb d (i + 1) (by omega)).eq ?_)
   rw [e]
   exact decide_eq_decide.mpr ⟨fun h=>by rw [h],fun h=>(List.cons.inj h).2⟩
  ·refine Ev.pos (XV.same.mpr e) ((Ev.now _).eq ?_)
   symm
   rw [decide_eq_false_iff_not]
   intro h
   exact e (List.cons.inj h).1
theorem one_ev (a b : List XV) (hb : a.length≤1000000000) : Ev (fun k=>thresherref04_One.f k a b) (decide (a=b)):=by
 simp only [thresherref04_One.f]
 by_cases hl : a.length=b.length
 ·refine Ev.pos (by omega) ?_
  have:=one_loop a b hl hb a.length 0 (by omega)
  simpa using this
 ·refine Ev.neg (by omega) ((Ev.now _).eq ?_)
  symm
  rw [decide_eq_false_iff_not]
  rintro rfl
  exact hl rfl
theorem rows_loop (a b : List (List XV)) (hl : a.length=b.length) (hb : a.length≤1000000000) (hr : ∀ r ∈ a,r.length≤1000000000) : ∀ (d i : Nat),i + d=a.length→Ev (fun k=>thresherref04_Rows.l0 k a b i) (decide (a.drop i=b.drop i))
 | 0,i,hi=>by
  refine Ev.succ ?_
  simp only [thresherref04_Rows.l0]
  refine Ev.neg (by omega) ((Ev.now _).eq ?_)
  rw [List.drop_of_length_le (by omega),List.drop_of_length_le (by omega)]
  simp
 | d + 1,i,hi=>by
  have h1 : i < a.length:=by omega
  have h2 : i < b.length:=by omega
  refine Ev.succ ?_
  simp only [thresherref04_Rows.l0]
  simp (disch:=omega) only [w64]
  rw [rdR_lt a i h1,rdR_lt b i h2]
  rw [List.drop_eq_getElem_cons h1,List.drop_eq_getElem_cons h2]
  refine Ev.pos (by omega) (Ev.pos (by omega) (Ev.pos (by omega) (Ev.bind (one_ev _ _ (hr _ (List.getElem_mem h1))) ?_)))
  by_cases e : a[i]=b[i]
  ·refine Ev.pos (decide_eq_true e) ((rows_loop a b hl hb hr d (i + 1) (by omega)).eq ?_)
   rw [e]
   exact decide_eq_decide.mpr ⟨fun h=>by rw [h],fun h=>(List.cons.inj h).2⟩
  ·refine Ev.neg (by simpa using e) ((Ev.now _).eq ?_)
   symm
   rw [decide_eq_false_iff_not]
   intro h
   exact e (List.cons.inj h).1
theorem rows_ev (a b : List (List XV)) (hb : a.length≤1000000000) (hr : ∀ r ∈ a,r.length≤1000000000) : Ev (fun k=>thresherref04_Rows.f k a b) (decide (a=b)):=by
 simp only [thresherref04_Rows.f]
 by_cases hl : a.length=b.length
 ·refine Ev.pos (by omega) ?_
  have:=rows_loop a b hl hb hr a.length 0 (by omega)
  simpa using this
 ·refine Ev.neg (by omega) ((Ev.now _).eq ?_)
  symm
  rw [decide_eq_false_iff_not]
  rintro rfl
  exact hl rfl
end Go.Proofs.Ytojbeofipedolaa.P

/- The document's Compare of values tells the same order. -/
namespace Go.Proofs.Ytojbeofipedolaa.P
open Go.RowKit Go.Proofs.YtojbeofipedolaaW.PrintWords Go.Proofs.YtojbeofipedolaaW.PrintLast Go.Proofs.YtojbeofipedolaaW.PrintMore
set_option linter.unusedVariables false
set_option linter.unusedSimpArgs false
def GR (r : List XV) : Prop:=∀ v ∈ r,GV v∧v.f1.size≤9223372036854775807
theorem GR.rdV {r : List XV} (h : GR r) (i : Nat) : GV (rdV r i)∧(P.rdV r i).f1.size≤9223372036854775807:=by
 by_cases hi : i < r.length
 ·show GV (rd_T41 r i)∧(rd_T41 r i).f1.size≤_
  rw [rdV_lt r i hi]
  exact h _ (List.getElem_mem hi)
 ·show GV (rd_T41 r i)∧(rd_T41 r i).f1.size≤_
  rw [rdV_ge r i (by omega)]
  exact ⟨⟨by simp,by simp⟩,by decide⟩
end Go.Proofs.Ytojbeofipedolaa.P

/- A stable sort by blocks and by symmetric merges, in plain lists: it puts in order, and keeps what there was. -/
namespace Go.Proofs.Ytojbeofipedolaa.P
set_option linter.unusedVariables false
set_option linter.unusedSectionVars false
section
variable {E : Type} (e0 : E) (lt : E→E→Bool) (R : E→E→Prop) (U : E→Prop)
structure Ordl : Prop where
 tr : ∀ x y z,U x→U y→U z→R x y→R y z→R x z
 ir : ∀ x,U x→¬ R x x
def Ahead (x y : E) : Prop:=(lt y x=true ↔ R y x)∧(¬ R y x→R x y)
variable {e0 lt R U}
theorem Ordl.as (O : Ordl R U) {x y : E} (hx : U x) (hy : U y) (h : R x y) : ¬ R y x:=fun q=>O.ir x hx (O.tr x y x hx hy hx h q)
theorem gt_mid (P M Q : List E) (k : Nat) (h : k < M.length) : gt_ e0 (P ++ (M ++ Q)) (P.length + k)=M[k]:=by
 rw [gt_lt e0 (by simp;omega)]
 rw [List.getElem_append_right (by omega)]
 simp only [Nat.add_sub_cancel_left]
 rw [List.getElem_append_left h]
theorem pw_le {M : List E} (hM : M.Pairwise R) {i j : Nat} (hi : i < j) (hj : j < M.length) : R M[i] M[j]:=List.pairwise_iff_getElem.mp hM i j (by omega) hj hi
theorem mem_take {M : List E} {k : Nat} {x : E} (h : x ∈ M.take k) : ∃ i,∃ hi : i < M.length,i < k∧M[i]=x:=by
 obtain ⟨i,hi,e⟩:=List.getElem_of_mem h
 rw [List.length_take] at hi
 refine ⟨i,by omega,by omega,?_⟩
 rw [← e,List.getElem_take]
theorem mem_drop {M : List E} {k : Nat} {x : E} (h : x ∈ M.drop k) : ∃ i,∃ hi : i < M.length,k≤i∧M[i]=x:=by
 obtain ⟨i,hi,e⟩:=List.getElem_of_mem h
 rw [List.length_drop] at hi
 refine ⟨k + i,by omega,by omega,?_⟩
 rw [← e,List.getElem_drop]
theorem pw_app {A B : List E} (hA : A.Pairwise R) (hB : B.Pairwise R) (h : ∀ x ∈ A,∀ y ∈ B,R x y) : (A ++ B).Pairwise R:=List.pairwise_append.mpr ⟨hA,hB,h⟩
set_option maxHeartbeats 2000000 in
theorem symM_spec (O : Ordl R U) : ∀ (f : Nat) (P A B Q : List E) (a m b : Nat),b - a≤f→a=P.length→m=a + A.length→b=m + B.length→A≠[]→B≠[]→(∀ x ∈ A,U x)→(∀ x ∈ B,U x)→A.Pairwise R→B.Pairwise R→(∀ x ∈ A,∀ y ∈ B,Ahead lt R x y) →
  ∃ S,symM e0 lt f a m b (P ++ (A ++ (B ++ Q)))=P ++ (S ++ Q)∧S.Perm (A ++ B)∧S.Pairwise R
 | 0,P,A,B,Q,a,m,b,hf,ha,hm,hb,nA,nB,uA,uB,sA,sB,hX=>by
  have : A.length≠0:=fun h=>nA (List.length_eq_zero_iff.mp h)
  omega
 | f + 1,P,A,B,Q,a,m,b,hf,ha,hm,hb,nA,nB,uA,uB,sA,sB,hX=>by
  have lA : A.length≠0:=fun h=>nA (List.length_eq_zero_iff.mp h)
  have lB : B.length≠0:=fun h=>nB (List.length_eq_zero_iff.mp h)
  have gA : ∀ c,(h1 : a≤c)→(h2 : c < m)→gt_ e0 (P ++ (A ++ (B ++ Q))) c=A[c - a]'(by omega):=fun c h1 h2=>by
   have:=gt_mid (e0:=e0) P A (B ++ Q) (c - a) (by omega)
   rwa [show P.length + (c - a)=c by omega] at this
  have gB : ∀ c,(h1 : m≤c)→(h2 : c < b)→gt_ e0 (P ++ (A ++ (B ++ Q))) c=B[c - m]'(by omega):=fun c h1 h2=>by
   have:=gt_mid (e0:=e0) (P ++ A) B Q (c - m) (by omega)
   rw [show (P ++ A).length + (c - m)=c by rw [List.length_append];omega] at this
   rw [← this,List.append_assoc]
  have UA : ∀ i (h : i < A.length),U A[i]:=fun i h=>uA _ (List.getElem_mem h)
  have UB : ∀ i (h : i < B.length),U B[i]:=fun i h=>uB _ (List.getElem_mem h)
  have XX : ∀ i (h : i < A.length) j (h' : j < B.length),Ahead lt R A[i] B[j]:=fun i h j h'=>hX _ (List.getElem_mem h) _ (List.getElem_mem h')
  unfold symM
  by_cases c1 : m - a=1
  ·rw [if_pos c1]
   obtain ⟨x,rfl⟩ : ∃ x,A=[x]:=List.length_eq_one_iff.mp (by omega)
   simp only [List.length_singleton] at hm
   have gx : gt_ e0 (P ++ ([x] ++ (B ++ Q))) a=x:=by have:=gA a (Nat.le_refl _) (by omega);simpa using this
   obtain ⟨p,hp⟩ : ∃ p : Nat→Bool,p=fun h=>!lt (gt_ e0 (P ++ ([x] ++ (B ++ Q))) h) (gt_ e0 (P ++ ([x] ++ (B ++ Q))) a):=⟨_,rfl⟩
   have pt : ∀ c,(h1 : m≤c)→(h2 : c < b)→(p c=true ↔ ¬ R (B[c - m]'(by omega)) x):=fun c h1 h2=>by
    rw [hp]
    simp only [gx,gB c h1 h2]
    have:=(hX x (by simp) _ (List.getElem_mem (show c - m < B.length by omega))).1
    rw [← this]
    simp
   have mono : ∀ u v,m≤u→u≤v→v < b→p u=true→p v=true:=fun u v h1 h2 h3 h4=>by
    rcases Nat.eq_or_lt_of_le h2 with e|h5
    ·rw [← e];exact h4
    ·refine (pt v (by omega) h3).mpr (fun q=>?_)
     have h6:=pw_le sB (show u - m < v - m by omega) (by omega)
     exact (pt u h1 (by omega)).mp h4 (O.tr _ _ _ (UB _ _) (UB _ _) (uA x (by simp)) h6 q)
   obtain ⟨b1,b2,b3,b4⟩:=bsr_spec p m b mono (b - m) m b (Nat.le_refl _) (Nat.le_refl _) (by omega) (Nat.le_refl _) (fun y h1 h2=>by omega) (fun y h1 h2=>by omega)
   rw [← hp]
   obtain ⟨i,hi⟩ : ∃ i,i=bsr p (b - m) m b:=⟨_,rfl⟩
   rw [← hi] at b1 b2 b3 b4 ⊢
   show ∃ S,goUp e0 (i - 1 - a) a (P ++ ([x] ++ (B ++ Q)))=P ++ (S ++ Q)∧S.Perm ([x] ++ B)∧S.Pairwise R
   have ht : (B.take (i - m)).length=i - m:=by rw [List.length_take];omega
   have hlow : ∀ y ∈ B.take (i - m),R y x:=fun y hy=>by
    obtain ⟨j,hj,h1,h2⟩:=mem_take hy
    have h3:=b3 (m + j) (by omega) (by omega)
    apply Classical.byContradiction
    intro hn
    have h4:=(pt (m + j) (by omega) (by omega)).mpr (by simp only [Nat.add_sub_cancel_left];rw [h2];exact hn)
    rw [h3] at h4
    exact absurd h4 (by simp)
   have hhigh : ∀ y ∈ B.drop (i - m),R x y:=fun y hy=>by
    obtain ⟨j,hj,h1,h2⟩:=mem_drop hy
    have h3:=b4 (m + j) (by omega) (by omega)
    have h4:=(pt (m + j) (by omega) (by omega)).mp h3
    simp only [Nat.add_sub_cancel_left,h2] at h4
    exact (hX x (by simp) y (List.mem_of_mem_drop hy)).2 h4
   refine ⟨B.take (i - m) ++ x :: B.drop (i - m),?_,?_,?_⟩
   ·have:=goUp_at e0 (B.take (i - m)) P (B.drop (i - m) ++ Q) x a ha
    rw [ht,show i - m=i - 1 - a by omega] at this
    rw [show i - 1 - a=i - m by omega] at this ⊢
    have e1 : P ++ ([x] ++ (B ++ Q))=P ++ x :: (B.take (i - m) ++ (B.drop (i - m) ++ Q)):=by rw [tda];rfl
    rw [e1,this]
    simp
   ·have:=(List.perm_middle (a:=x) (l₁:=B.take (i - m)) (l₂:=B.drop (i - m)))
    rwa [List.take_append_drop] at this
   ·refine pw_app (sB.sublist (List.take_sublist _ _)) (List.pairwise_cons.mpr ⟨hhigh,sB.sublist (List.drop_sublist _ _)⟩) (fun u hu v hv=>?_)
    rcases List.mem_cons.mp hv with rfl|hv
    ·exact hlow u hu
    ·exact O.tr u x v (uB u (List.mem_of_mem_take hu)) (uA x (by simp)) (uB v (List.mem_of_mem_drop hv)) (hlow u hu) (hhigh v hv)
  rw [if_neg c1]
  by_cases c2 : b - m=1
  ·rw [if_pos c2]
   obtain ⟨y,rfl⟩ : ∃ y,B=[y]:=List.length_eq_one_iff.mp (by omega)
   simp only [List.length_singleton] at hb
   have gy : gt_ e0 (P ++ (A ++ ([y] ++ Q))) m=y:=by have:=gB m (Nat.le_refl _) (by omega);simpa using this
   obtain ⟨p,hp⟩ : ∃ p : Nat→Bool,p=fun h=>lt (gt_ e0 (P ++ (A ++ ([y] ++ Q))) m) (gt_ e0 (P ++ (A ++ ([y] ++ Q))) h):=⟨_,rfl⟩
   have pt : ∀ c,(h1 : a≤c)→(h2 : c < m)→(p c=true ↔ R y (A[c - a]'(by omega))):=fun c h1 h2=>by
    rw [hp]
    simp only [gy,gA c h1 h2]
    exact (hX _ (List.getElem_mem (show c - a < A.length by omega)) y (by simp)).1
   have mono : ∀ u v,a≤u→u≤v→v < m→p u=true→p v=true:=fun u v h1 h2 h3 h4=>by
    rcases Nat.eq_or_lt_of_le h2 with e|h5
    ·rw [← e];exact h4
    ·refine (pt v (by omega) h3).mpr ?_
     exact O.tr _ _ _ (uB y (by simp)) (UA _ _) (UA _ _) ((pt u h1 (by omega)).mp h4) (pw_le sA (show u - a < v - a by omega) (by omega))
   obtain ⟨b1,b2,b3,b4⟩:=bsr_spec p a m mono (m - a) a m (Nat.le_refl _) (Nat.le_refl _) (by omega) (Nat.le_refl _) (fun y h1 h2=>by omega) (fun y h1 h2=>by omega)
   rw [← hp]
   obtain ⟨i,hi⟩ : ∃ i,i=bsr p (m - a) a m:=⟨_,rfl⟩
   rw [← hi] at b1 b2 b3 b4 ⊢
   show ∃ S,goDn e0 (m - i) m (P ++ (A ++ ([y] ++ Q)))=P ++ (S ++ Q)∧S.Perm (A ++ [y])∧S.Pairwise R
   have ht : (A.drop (i - a)).length=m - i:=by rw [List.length_drop];omega
   have ht2 : (A.take (i - a)).length=i - a:=by rw [List.length_take];omega
   have hlow : ∀ x ∈ A.take (i - a),R x y:=fun x hx=>by
    obtain ⟨j,hj,h1,h2⟩:=mem_take hx
    have h3:=b3 (a + j) (by omega) (by omega)
    refine (hX x (List.mem_of_mem_take hx) y (by simp)).2 (fun q=>?_)
    have h4:=(pt (a + j) (by omega) (by omega)).mpr (by simp only [Nat.add_sub_cancel_left];rw [h2];exact q)
    rw [h3] at h4
    exact absurd h4 (by simp)
   have hhigh : ∀ x ∈ A.drop (i - a),R y x:=fun x hx=>by
    obtain ⟨j,hj,h1,h2⟩:=mem_drop hx
    have h4:=(pt (a + j) (by omega) (by omega)).mp (b4 (a + j) (by omega) (by omega))
    simpa only [Nat.add_sub_cancel_left,h2] using h4
   refine ⟨A.take (i - a) ++ y :: A.drop (i - a),?_,?_,?_⟩
   ·have:=goDn_at e0 (m - i) (A.drop (i - a)) (P ++ A.take (i - a)) Q y m ht (by rw [List.length_append,ht,ht2];omega)
    have e1 : P ++ (A ++ ([y] ++ Q))=(P ++ A.take (i - a)) ++ (A.drop (i - a) ++ y :: Q):=by
     rw [List.append_assoc,tda]
     rfl
    rw [e1,this]
    simp
   ·have:=(List.perm_middle (a:=y) (l₁:=A.take (i - a)) (l₂:=A.drop (i - a)))
    rw [List.take_append_drop] at this
    exact this.trans (List.perm_append_comm (l₁:=[y]) (l₂:=A))
   ·refine pw_app (sA.sublist (List.take_sublist _ _)) (List.pairwise_cons.mpr ⟨hhigh,sA.sublist (List.drop_sublist _ _)⟩) (fun u hu v hv=>?_)
    rcases List.mem_cons.mp hv with rfl|hv
    ·exact hlow u hu
    ·exact O.tr u y v (uA u (List.mem_of_mem_take hu)) (uB y (by simp)) (uA v (List.mem_of_mem_drop hv)) (hlow u hu) (hhigh v hv)
  rw [if_neg c2]
  obtain ⟨xs,hxs⟩ : ∃ xs,xs=P ++ (A ++ (B ++ Q)):=⟨_,rfl⟩
  rw [← hxs] at gA gB ⊢
  obtain ⟨mid,hmid⟩ : ∃ mid,mid=(a + b) / 2:=⟨_,rfl⟩
  obtain ⟨n,hn⟩ : ∃ n,n=mid + m:=⟨_,rfl⟩
  obtain ⟨s0,hs0⟩ : ∃ s0,s0=if m > mid then n - b else a:=⟨_,rfl⟩
  obtain ⟨r0,hr0⟩ : ∃ r0,r0=if m > mid then mid else m:=⟨_,rfl⟩
  obtain ⟨p,hp⟩ : ∃ p : Nat→Bool,p=fun c=>lt (gt_ e0 xs (n - 1 - c)) (gt_ e0 xs c):=⟨_,rfl⟩
  simp only [← hmid,← hn,← hs0,← hr0,← hp]
  have B0 : a≤s0∧s0≤r0∧r0≤m∧n - r0 ≥ m∧n - s0≤b∧r0≤mid∧(s0=a ∨ n - s0=b)∧(r0=m ∨ n - r0=m):=by
   by_cases q : m > mid
   ·rw [if_pos q] at hs0 hr0;omega
   ·rw [if_neg q] at hs0 hr0;omega
  clear hs0 hr0
  obtain ⟨q1,q2,q3,q4,q5,q6,q7,q8⟩:=B0
  have pt : ∀ c,(h1 : s0≤c)→(h2 : c < r0)→(p c=true ↔ R (B[n - 1 - c - m]'(by omega)) (A[c - a]'(by omega))):=fun c h1 h2=>by
   rw [hp]
   simp only [gA c (by omega) (by omega),gB (n - 1 - c) (by omega) (by omega)]
   exact (XX _ _ _ _).1
  have mono : ∀ u v,s0≤u→u≤v→v < r0→p u=true→p v=true:=fun u v h1 h2 h3 h4=>by
   rcases Nat.eq_or_lt_of_le h2 with e|h5
   ·rw [← e];exact h4
   ·refine (pt v (by omega) h3).mpr ?_
    have k1:=pw_le sB (show n - 1 - v - m < n - 1 - u - m by omega) (by omega)
    have k2:=(pt u h1 (by omega)).mp h4
    have k3:=pw_le sA (show u - a < v - a by omega) (by omega)
    exact O.tr _ _ _ (UB _ _) (UB _ _) (UA _ _) k1 (O.tr _ _ _ (UB _ _) (UA _ _) (UA _ _) k2 k3)
  obtain ⟨b1,b2,b3,b4⟩:=bsr_spec p s0 r0 mono (r0 - s0) s0 r0 (Nat.le_refl _) (Nat.le_refl _) q2 (Nat.le_refl _) (fun y h1 h2=>by omega) (fun y h1 h2=>by omega)
  obtain ⟨s,hs⟩ : ∃ s,s=bsr p (r0 - s0) s0 r0:=⟨_,rfl⟩
  rw [← hs] at b1 b2 b3 b4 ⊢
  obtain ⟨e,he⟩ : ∃ e,e=n - s:=⟨_,rfl⟩
  rw [← he]
  have lt1 : (A.take (s - a)).length=s - a:=by rw [List.length_take];omega
  have lt2 : (A.drop (s - a)).length=m - s:=by rw [List.length_drop];omega
  have lt3 : (B.take (e - m)).length=e - m:=by rw [List.length_take];omega
  have lt4 : (B.drop (e - m)).length=b - e:=by rw [List.length_drop];omega
  have alpha : ∀ x ∈ A.take (s - a),∀ y ∈ B.drop (e - m),R x y:=fun x hx y hy=>by
   obtain ⟨i,hi,i1,i2⟩:=mem_take hx
   obtain ⟨j,hj,j1,j2⟩:=mem_drop hy
   have hss : s0 < s:=by omega
   have h3:=b3 (s - 1) (by omega) (by omega)
   have h5 : ¬ R (B[n - 1 - (s - 1) - m]'(by omega)) (A[s - 1 - a]'(by omega)):=fun q=>by
    rw [(pt (s - 1) (by omega) (by omega)).mpr q] at h3
    exact absurd h3 (by simp)
   have h6:=(XX (s - 1 - a) (by omega) (n - 1 - (s - 1) - m) (by omega)).2 h5
   have h7 : R x (B[n - 1 - (s - 1) - m]'(by omega)):=by
    rcases Nat.lt_or_ge i (s - 1 - a) with k|k
    ·rw [← i2];exact O.tr _ _ _ (UA _ _) (UA _ _) (UB _ _) (pw_le sA k (by omega)) h6
    ·have : i=s - 1 - a:=by omega
     subst this
     rw [← i2];exact h6
   rcases Nat.lt_or_ge (n - 1 - (s - 1) - m) j with k|k
   ·rw [← j2];rw [← i2] at h7 ⊢;exact O.tr _ _ _ (UA _ _) (UB _ _) (UB _ _) h7 (pw_le sB k hj)
   ·have : j=n - 1 - (s - 1) - m:=by omega
    subst this
    rw [← j2];exact h7
  have beta : ∀ y ∈ B.take (e - m),∀ x ∈ A.drop (s - a),R y x:=fun y hy x hx=>by
   obtain ⟨i,hi,i1,i2⟩:=mem_drop hx
   obtain ⟨j,hj,j1,j2⟩:=mem_take hy
   have hss : s < r0:=by omega
   have h6:=(pt s (by omega) hss).mp (b4 s (Nat.le_refl _) hss)
   have h7 : R y (A[s - a]'(by omega)):=by
    rcases Nat.lt_or_ge j (n - 1 - s - m) with k|k
    ·rw [← j2];exact O.tr _ _ _ (UB _ _) (UB _ _) (UA _ _) (pw_le sB k (by omega)) h6
    ·have : j=n - 1 - s - m:=by omega
     subst this
     rw [← j2];exact h6
   rcases Nat.lt_or_ge (s - a) i with k|k
   ·rw [← i2];rw [← j2] at h7 ⊢;exact O.tr _ _ _ (UB _ _) (UA _ _) (UA _ _) h7 (pw_le sA k hi)
   ·have : i=s - a:=by omega
    subst this
    rw [← i2];exact h7
  obtain ⟨A1,hA1⟩ : ∃ A1,A1=A.take (s - a):=⟨_,rfl⟩
  obtain ⟨A2,hA2⟩ : ∃ A2,A2=A.drop (s - a):=⟨_,rfl⟩
  obtain ⟨B1,hB1⟩ : ∃ B1,B1=B.take (e - m):=⟨_,rfl⟩
  obtain ⟨B2,hB2⟩ : ∃ B2,B2=B.drop (e - m):=⟨_,rfl⟩
  have eA : A=A1 ++ A2:=by rw [hA1,hA2,List.take_append_drop]
  have eB : B=B1 ++ B2:=by rw [hB1,hB2,List.take_append_drop]
  have sA1 : A1.Pairwise R:=by rw [hA1];exact sA.sublist (List.take_sublist _ _)
  have sA2 : A2.Pairwise R:=by rw [hA2];exact sA.sublist (List.drop_sublist _ _)
  have sB1 : B1.Pairwise R:=by rw [hB1];exact sB.sublist (List.take_sublist _ _)
  have sB2 : B2.Pairwise R:=by rw [hB2];exact sB.sublist (List.drop_sublist _ _)
  rw [← hA1] at lt1 alpha
  rw [← hA2] at lt2 beta
  rw [← hB1] at lt3 beta
  rw [← hB2] at lt4 alpha
  have mA1 : ∀ x ∈ A1,x ∈ A:=fun x h=>by rw [eA];exact List.mem_append_left _ h
  have mA2 : ∀ x ∈ A2,x ∈ A:=fun x h=>by rw [eA];exact List.mem_append_right _ h
  have mB1 : ∀ x ∈ B1,x ∈ B:=fun x h=>by rw [eB];exact List.mem_append_left _ h
  have mB2 : ∀ x ∈ B2,x ∈ B:=fun x h=>by rw [eB];exact List.mem_append_right _ h
  have AA : ∀ x ∈ A1,∀ y ∈ A2,R x y:=by rw [eA] at sA;exact (List.pairwise_append.mp sA).2.2
  have BB : ∀ x ∈ B1,∀ y ∈ B2,R x y:=by rw [eB] at sB;exact (List.pairwise_append.mp sB).2.2
  clear hA1 hA2 hB1 hB2
  have e1 : (if s < m∧m < e then rot e0 m (e - s) (m - s) (e - m) xs else xs)=P ++ (A1 ++ (B1 ++ (A2 ++ (B2 ++ Q)))):=by
   by_cases q : s < m∧m < e
   ·rw [if_pos q,hxs,eA,eB]
    have:=rot_at e0 (e - s) A2 B1 (P ++ A1) (B2 ++ Q) m (m - s) (e - m) (by omega) lt2 lt3 (by omega) (by omega) (by rw [List.length_append];omega)
    rw [show P ++ ((A1 ++ A2) ++ ((B1 ++ B2) ++ Q))=(P ++ A1) ++ (A2 ++ (B1 ++ (B2 ++ Q))) by simp,this]
    simp
   ·rw [if_neg q,hxs,eA,eB]
    rcases Nat.lt_or_ge s m with k|k
    ·have : B1=[]:=List.length_eq_zero_iff.mp (by omega)
     rw [this];simp
    ·have : A2=[]:=List.length_eq_zero_iff.mp (by omega)
     rw [this];simp
  rw [e1]
  obtain ⟨S1,h1,h2,h3⟩ : ∃ S1,(if a < s∧s < mid then symM e0 lt f a s mid (P ++ (A1 ++ (B1 ++ (A2 ++ (B2 ++ Q))))) else P ++ (A1 ++ (B1 ++ (A2 ++ (B2 ++ Q)))))=P ++ (S1 ++ (A2 ++ (B2 ++ Q)))∧S1.Perm (A1 ++ B1)∧S1.Pairwise R:=by
   by_cases q : a < s∧s < mid
   ·rw [if_pos q]
    exact symM_spec O f P A1 B1 (A2 ++ (B2 ++ Q)) a s mid (by omega) ha (by omega) (by omega) (by intro h;rw [h] at lt1;simp at lt1;omega) (by intro h;rw [h] at lt3;simp at lt3;omega) (fun x h=>uA x (mA1 x h)) (fun x h=>uB x (mB1 x h)) sA1 sB1 (fun x h y h'=>hX x (mA1 x h) y (mB1 y h'))
   ·rw [if_neg q]
    refine ⟨A1 ++ B1,by simp,List.Perm.refl _,?_⟩
    rcases Nat.lt_or_ge a s with k|k
    ·have : B1=[]:=List.length_eq_zero_iff.mp (by omega)
     rw [this,List.append_nil];exact sA1
    ·have : A1=[]:=List.length_eq_zero_iff.mp (by omega)
     rw [this];exact sB1
  rw [h1]
  have lS1 : S1.length=mid - a:=by rw [h2.length_eq,List.length_append];omega
  obtain ⟨S2,h4,h5,h6⟩ : ∃ S2,(if mid < e∧e < b then symM e0 lt f mid e b (P ++ (S1 ++ (A2 ++ (B2 ++ Q)))) else P ++ (S1 ++ (A2 ++ (B2 ++ Q))))=P ++ (S1 ++ (S2 ++ Q))∧S2.Perm (A2 ++ B2)∧S2.Pairwise R:=by
   by_cases q : mid < e∧e < b
   ·rw [if_pos q]
    obtain ⟨S2,k1,k2,k3⟩:=symM_spec O f (P ++ S1) A2 B2 Q mid e b (by omega) (by rw [List.length_append];omega) (by omega) (by omega) (by intro h;rw [h] at lt2;simp at lt2;omega) (by intro h;rw [h] at lt4;simp at lt4;omega) (fun x h=>uA x (mA2 x h)) (fun x h=>uB x (mB2 x h)) sA2 sB2 (fun x h y h'=>hX x (mA2 x h) y (mB2 y h'))
    refine ⟨S2,?_,k2,k3⟩
    rw [List.append_assoc] at k1
    rw [k1,List.append_assoc]
   ·rw [if_neg q]
    refine ⟨A2 ++ B2,by simp,List.Perm.refl _,?_⟩
    rcases Nat.lt_or_ge mid e with k|k
    ·have : B2=[]:=List.length_eq_zero_iff.mp (by omega)
     rw [this,List.append_nil];exact sA2
    ·have : A2=[]:=List.length_eq_zero_iff.mp (by omega)
     rw [this];exact sB2
  refine ⟨S1 ++ S2,by rw [h4];simp,?_,pw_app h3 h6 (fun x hx y hy=>?_)⟩
  ·refine (h2.append h5).trans ?_
   rw [eA,eB]
   have : ((A1 ++ B1) ++ (A2 ++ B2)).Perm ((A1 ++ A2) ++ (B1 ++ B2)):=by
    rw [List.append_assoc,List.append_assoc]
    refine List.Perm.append_left A1 ?_
    rw [← List.append_assoc,← List.append_assoc]
    exact List.Perm.append_right B2 List.perm_append_comm
   exact this
  ·rcases List.mem_append.mp (h2.mem_iff.mp hx) with k|k
   ·rcases List.mem_append.mp (h5.mem_iff.mp hy) with k'|k'
    ·exact AA x k y k'
    ·exact alpha x k y k'
   ·rcases List.mem_append.mp (h5.mem_iff.mp hy) with k'|k'
    ·exact beta x k y k'
    ·exact BB x k y k'
end
end Go.Proofs.Ytojbeofipedolaa.P

/- Rows made to fit. -/
namespace Go.Proofs.Ytojbeofipedolaa.P
open Go.RowKit Go.Proofs.YtojbeofipedolaaW.PrintWords Go.Proofs.YtojbeofipedolaaW.PrintLast Go.Proofs.YtojbeofipedolaaW.PrintMore
set_option linter.unusedVariables false
set_option linter.unusedSimpArgs false
theorem fits_loop (T : List Int) (K M G : Int) (l : List (List XV)) (n : Nat) (hn : n≤1000000) (hT : T.length≤1000000) : ∀ (d i : Nat) (acc : List (List XV)),i + d=min l.length n→acc.length=i→Ev (fun k=>thresherref04_Fits.l0 k l n acc i T K M G) (acc ++ ((l.take n).drop i).map (fitRow T))
 | 0,i,acc,hi,ha=>by
  refine Ev.succ ?_
  simp only [thresherref04_Fits.l0]
  have e : (l.take n).drop i=[]:=List.drop_of_length_le (by simp;omega)
  rw [e]
  by_cases h : (i : Int) < l.length
  ·exact Ev.pos h (Ev.neg (by omega) ((Ev.now _).eq (by simp)))
  ·exact Ev.neg h ((Ev.now _).eq (by simp))
 | d + 1,i,acc,hi,ha=>by
  have h1 : i < l.length:=by omega
  have h2 : i < n:=by omega
  refine Ev.succ ?_
  simp only [thresherref04_Fits.l0]
  have e : (l.take n).drop i=l[i] :: (l.take n).drop (i + 1):=by
   rw [List.drop_eq_getElem_cons (by simp;omega)]
   simp
  rw [rdR_lt l i h1,e]
  simp (disch:=omega) only [w64]
  refine Ev.pos (by omega) (Ev.pos (by omega) (Ev.pos (by omega) (Ev.bind (fit_ev T K M G _ hT) (Ev.pos (by omega) ?_))))
  refine (fits_loop T K M G l n hn hT d (i + 1) (acc ++ [fitRow T l[i]]) (by omega) (by simp;omega)).eq ?_
  simp
theorem fits_ev (T : List Int) (K M G : Int) (l : List (List XV)) (n : Nat) (hn : n≤1000000) (hT : T.length≤1000000) : Ev (fun k=>thresherref04_Fits.f k T K M G l n) ((l.take n).map (fitRow T)):=by
 simp only [thresherref04_Fits.f]
 exact fits_loop T K M G l n hn hT (min l.length n) 0 [] (by omega) rfl
end Go.Proofs.Ytojbeofipedolaa.P

/- The document's Compare of rows tells the same order. -/
namespace Go.Proofs.Ytojbeofipedolaa.P
open Go.RowKit Go.Proofs.YtojbeofipedolaaW.PrintWords Go.Proofs.YtojbeofipedolaaW.PrintLast Go.Proofs.YtojbeofipedolaaW.PrintMore
set_option linter.unusedVariables false
set_option linter.unusedSimpArgs false
end Go.Proofs.Ytojbeofipedolaa.P

/- A schema of a shape. -/
namespace Go.Proofs.Ytojbeofipedolaa.P
open Go.RowKit Go.Proofs.YtojbeofipedolaaW.PrintWords Go.Proofs.YtojbeofipedolaaW.PrintLast Go.Proofs.YtojbeofipedolaaW.PrintMore
theorem u8_of {x : Int} (h : (Lit.int .u8 x).wf=true) : U8 x:=wf_u8 h
theorem shape_ev {x : S24} (h : gd24 x) : ∃ T K M G,Ev (fun k=>thresherref04_Made.f k x.f0.f0 x.f0.f1 x.f0.f2 x.f0.f3 x.f0.f4 x.f0.f5 x.f0.f6 x.f0.f7 x.f1 x.f2 x.f3 x.f4) (T,K,M,G)∧Sch T K M G:=by
 obtain ⟨⟨h0,h1,h2,h3,h4,h5,h6,h7⟩,ha,hb,hc,hd⟩:=h
 exact made_ev _ _ _ _ _ _ _ _ _ _ _ _ (u8_of h0) (u8_of h1) (u8_of h2) (u8_of h3) (u8_of h4) (u8_of h5) (u8_of h6) (u8_of h7) (u8_of ha) (u8_of hb) (u8_of hc) (u8_of hd)
end Go.Proofs.Ytojbeofipedolaa.P

/- A stable sort, in plain lists of numbers: what it makes of the numbers from 0 on. -/
namespace Go.Proofs.Ytojbeofipedolaa.P
set_option linter.unusedVariables false
set_option linter.unusedSectionVars false
section
variable {lt : Nat→Nat→Bool} {R : Nat→Nat→Prop} {U : Nat→Prop}
theorem insIn_at (O : Ordl R U) : ∀ (n : Nat) (S P Q : List Nat) (y a : Nat),S.length=n→a=P.length→S.Pairwise R→(∀ x ∈ S,U x)→U y→(∀ x ∈ S,Ahead lt R x y) →
  ∃ S',insIn 0 lt a (a + n) (P ++ (S ++ y :: Q))=P ++ (S' ++ Q)∧S'.Perm (S ++ [y])∧S'.Pairwise R
 | 0,S,P,Q,y,a,hn,ha,hs,hU,hy,hA=>by
  obtain rfl : S=[]:=List.length_eq_zero_iff.mp hn
  refine ⟨[y],?_,List.Perm.refl _,List.pairwise_singleton _ _⟩
  show insIn 0 lt a a (P ++ y :: Q)=P ++ y :: Q
  cases a with
  | zero=>rfl
  | succ a=>rw [insIn,if_neg (fun h=>Nat.lt_irrefl _ h.1)]
 | n + 1,S,P,Q,y,a,hn,ha,hs,hU,hy,hA=>by
  obtain ⟨S0,x,rfl⟩ : ∃ S0 x,S=S0 ++ [x]:=by
   have h : S≠[]:=by intro q;rw [q] at hn;simp at hn
   exact ⟨S.dropLast,S.getLast h,(List.dropLast_concat_getLast h).symm⟩
  have hn0 : S0.length=n:=by simpa using hn
  have hx : U x:=hU x (by simp)
  have hAx:=hA x (by simp)
  have hs0:=List.pairwise_append.mp hs
  have g1 : gt_ 0 (P ++ ((S0 ++ [x]) ++ y :: Q)) (a + n + 1)=y:=by
   have:=get_at 0 (P ++ (S0 ++ [x])) y Q
   rw [show (P ++ (S0 ++ [x])).length=a + n + 1 by rw [List.length_append,hn,ha];omega] at this
   rwa [List.append_assoc] at this
  have g0 : gt_ 0 (P ++ ((S0 ++ [x]) ++ y :: Q)) (a + n)=x:=by
   have:=get_at 0 (P ++ S0) x (y :: Q)
   rw [show (P ++ S0).length=a + n by rw [List.length_append,hn0,ha]] at this
   simpa using this
  show ∃ S',insIn 0 lt a (a + n + 1) _=_∧_
  rw [insIn,g1,g0]
  by_cases q : lt y x=true
  ·rw [if_pos ⟨by omega,q⟩]
   have hyx : R y x:=hAx.1.mp q
   have e1 : swp 0 (P ++ ((S0 ++ [x]) ++ y :: Q)) (a + n + 1) (a + n)=P ++ (S0 ++ y :: (x :: Q)):=by
    rw [swp_comm]
    have:=swp_at 0 (P ++ S0) x [] y Q (a + n) (a + n + 1) (by rw [List.length_append,hn0,ha]) (by rw [List.length_append,hn0,ha];rfl)
    simp only [List.nil_append,List.append_assoc] at this
    simpa using this
   rw [e1]
   obtain ⟨S',h1,h2,h3⟩:=insIn_at O n S0 P (x :: Q) y a hn0 ha hs0.1 (fun z hz=>hU z (List.mem_append_left _ hz)) hy (fun z hz=>hA z (List.mem_append_left _ hz))
   refine ⟨S' ++ [x],by rw [h1];simp,?_,pw_app h3 (List.pairwise_singleton _ _) (fun z hz w hw=>?_)⟩
   ·refine (List.Perm.append_right [x] h2).trans ?_
    rw [List.append_assoc,List.append_assoc]
    exact List.Perm.append_left S0 List.perm_append_comm
   ·rw [List.mem_singleton.mp hw]
    rcases List.mem_append.mp (h2.mem_iff.mp hz) with k|k
    ·exact hs0.2.2 z k x (by simp)
    ·rw [List.mem_singleton.mp k];exact hyx
  ·rw [if_neg (fun h=>q h.2)]
   have hxy : R x y:=hAx.2 (fun h=>q (hAx.1.mpr h))
   refine ⟨(S0 ++ [x]) ++ [y],by simp,List.Perm.refl _,pw_app hs (List.pairwise_singleton _ _) (fun z hz w hw=>?_)⟩
   rw [List.mem_singleton.mp hw]
   rcases List.mem_append.mp hz with k|k
   ·exact O.tr z x y (hU z hz) hx hy (hs0.2.2 z k x (by simp)) hxy
   ·rw [List.mem_singleton.mp k];exact hxy
theorem insSort_at (O : Ordl R U) : ∀ (rest S P Q : List Nat) (a : Nat),a=P.length→S.Pairwise R→(∀ x ∈ S ++ rest,U x)→(∀ x ∈ S,∀ y ∈ rest,Ahead lt R x y)→rest.Pairwise (Ahead lt R) →
  ∃ S',insSort 0 lt a rest.length (a + S.length) (P ++ (S ++ (rest ++ Q)))=P ++ (S' ++ Q)∧S'.Perm (S ++ rest)∧S'.Pairwise R
 | [],S,P,Q,a,ha,hs,hU,hA,hr=>⟨S,rfl,by rw [List.append_nil],hs⟩
 | y :: rest,S,P,Q,a,ha,hs,hU,hA,hr=>by
  obtain ⟨S1,h1,h2,h3⟩:=insIn_at (lt:=lt) O S.length S P (rest ++ Q) y a rfl ha hs (fun x hx=>hU x (List.mem_append_left _ hx)) (hU y (by simp)) (fun x hx=>hA x hx y (by simp))
  obtain ⟨hr1,hr2⟩:=List.pairwise_cons.mp hr
  have hl : S1.length=S.length + 1:=by rw [h2.length_eq];simp
  obtain ⟨S',h4,h5,h6⟩:=insSort_at O rest S1 P Q a ha h3 (fun x hx=>by
    rcases List.mem_append.mp hx with k|k
    ·rcases List.mem_append.mp (h2.mem_iff.mp k) with k|k
     ·exact hU x (List.mem_append_left _ k)
     ·rw [List.mem_singleton.mp k];exact hU y (by simp)
    ·exact hU x (by simp [k])) (fun x hx z hz=>by
    rcases List.mem_append.mp (h2.mem_iff.mp hx) with k|k
    ·exact hA x k z (by simp [hz])
    ·rw [List.mem_singleton.mp k];exact hr1 z hz) hr2
  refine ⟨S',?_,?_,h6⟩
  ·show insSort 0 lt a (rest.length + 1) (a + S.length) (P ++ (S ++ (y :: (rest ++ Q))))=_
   rw [insSort,h1]
   rw [hl] at h4
   exact h4
  ·refine h5.trans ?_
   have:=List.Perm.append_right rest h2
   simpa using this
inductive Chs (R : Nat→Nat→Prop) (bs : Nat) : Nat→List Nat→Prop
 | last (a : Nat) (S : List Nat) : S.length≤bs→S.Perm (List.range' a S.length)→S.Pairwise R→Chs R bs a S
 | more (a : Nat) (S rest : List Nat) : S.length=bs→S.Perm (List.range' a bs)→S.Pairwise R→Chs R bs (a + bs) rest→Chs R bs a (S ++ rest)
theorem mem_perm_range {S : List Nat} {a n x : Nat} (h : S.Perm (List.range' a n)) (hx : x ∈ S) : a≤x∧x < a + n:=by
 have:=h.mem_iff.mp hx
 rw [List.mem_range'_1] at this
 exact this
theorem perm_two {S S2 : List Nat} {a n m : Nat} (h : S.Perm (List.range' a n)) (h2 : S2.Perm (List.range' (a + n) m)) : (S ++ S2).Perm (List.range' a (n + m)):=by
 have:=h.append h2
 rwa [List.range'_append_1] at this
variable {N : Nat} (hAh : ∀ x y,x < y→y < N→Ahead lt R x y)
include hAh
theorem chs_ins (O : Ordl R (· < N)) : ∀ (f a : Nat) (P : List Nat),a=P.length→a≤N→N + 1≤a + f→∃ ys,insBlocks lt N f a (P ++ List.range' a (N - a))=P ++ ys∧Chs R 20 a ys∧ys.length=N - a
 | 0,a,P,ha,h1,h2=>by omega
 | f + 1,a,P,ha,h1,h2=>by
  have one : ∀ m,a + m≤N→∀ Q,∃ S',insSort 0 lt a (a + m - (a + 1)) (a + 1) (P ++ (List.range' a m ++ Q))=P ++ (S' ++ Q)∧S'.Perm (List.range' a m)∧S'.Pairwise R:=fun m hm Q=>by
   cases m with
   | zero=>exact ⟨[],by rw [show a + 0 - (a + 1)=0 by omega];rfl,List.Perm.refl _,List.Pairwise.nil⟩
   | succ m =>
    have h:=insSort_at (lt:=lt) O (List.range' (a + 1) m) [a] P Q a ha (List.pairwise_singleton _ _) (fun x hx=>by
      have : x=a ∨ x ∈ List.range' (a + 1) m:=by simpa using hx
      rcases this with h|h
      ·omega
      ·rw [List.mem_range'_1] at h;omega) (fun x hx y hy=>by
      rw [List.mem_singleton.mp hx]
      rw [List.mem_range'_1] at hy
      exact hAh a y (by omega) (by omega)) (by
      refine List.Pairwise.imp_of_mem ?_ (List.pairwise_lt_range' (s:=a + 1) (n:=m) 1)
      intro x y hx hy hxy
      rw [List.mem_range'_1] at hy
      exact hAh x y hxy (by omega))
    rw [List.length_range'] at h
    rw [show a + (m + 1) - (a + 1)=m by omega,show List.range' a (m + 1)=a :: List.range' (a + 1) m from List.range'_succ]
    exact h
  unfold insBlocks
  by_cases q : a + 20≤N
  ·rw [if_pos q]
   obtain ⟨S',e1,e2,e3⟩:=one 20 q (List.range' (a + 20) (N - (a + 20)))
   have er : List.range' a (N - a)=List.range' a 20 ++ List.range' (a + 20) (N - (a + 20)):=by
    rw [List.range'_append_1]
    congr 1
    omega
   rw [er,e1]
   have hl : S'.length=20:=by rw [e2.length_eq,List.length_range']
   obtain ⟨ys,k1,k2,k3⟩:=chs_ins O f (a + 20) (P ++ S') (by rw [List.length_append,hl,ha]) q (by omega)
   refine ⟨S' ++ ys,?_,Chs.more a S' ys hl e2 e3 k2,by rw [List.length_append,hl,k3];omega⟩
   rw [← List.append_assoc,k1,List.append_assoc]
  ·rw [if_neg q]
   obtain ⟨S',e1,e2,e3⟩:=one (N - a) (by omega) []
   have hl : S'.length=N - a:=by rw [e2.length_eq,List.length_range']
   rw [List.append_nil,List.append_nil,show a + (N - a) - (a + 1)=N - (a + 1) by omega] at e1
   exact ⟨S',e1,Chs.last a S' (by omega) (by rw [hl];exact e2) e3,hl⟩
theorem chs_len {bs a : Nat} {xs : List Nat} (h : Chs R bs a xs) : xs.Perm (List.range' a xs.length):=by
 induction h with
 | last a S h1 h2 h3=>exact h2
 | more a S rest h1 h2 h3 h4 ih=>rw [List.length_append,h1];exact perm_two h2 ih
theorem sym_at (O : Ordl R (· < N)) (P A B Q : List Nat) (a m b f : Nat) (hf : b - a≤f) (ha : a=P.length) (hm : m=a + A.length) (hb : b=m + B.length) (hbN : b≤N) (nA : 0 < A.length) (nB : 0 < B.length) (pA : A.Perm (List.range' a A.length)) (pB : B.Perm (List.range' m B.length)) (sA : A.Pairwise R) (sB : B.Pairwise R) :
  ∃ S,symM 0 lt f a m b (P ++ (A ++ (B ++ Q)))=P ++ (S ++ Q)∧S.Perm (List.range' a (A.length + B.length))∧S.Pairwise R:=by
 obtain ⟨S,h1,h2,h3⟩:=symM_spec (e0:=0) O f P A B Q a m b hf ha hm hb (by intro h;rw [h] at nA;simp at nA) (by intro h;rw [h] at nB;simp at nB) (fun x hx=>by have:=mem_perm_range pA hx;show x < N;omega) (fun x hx=>by have:=mem_perm_range pB hx;show x < N;omega) sA sB (fun x hx y hy=>by
  have:=mem_perm_range pA hx
  have:=mem_perm_range pB hy
  exact hAh x y (by omega) (by omega))
 exact ⟨S,h1,h2.trans (perm_two pA (by rw [← hm];exact pB)),h3⟩
theorem chs_pass (O : Ordl R (· < N)) (bs : Nat) (hbs : 0 < bs) : ∀ (f a : Nat) (P xs : List Nat),a=P.length→P.length + xs.length=N→N + 1≤a + f→Chs R bs a xs→∃ ys,symPass lt N bs f a (P ++ xs)=P ++ ys∧Chs R (bs * 2) a ys∧ys.length=xs.length
 | 0,a,P,xs,ha,hN,hf,hC=>by omega
 | f + 1,a,P,xs,ha,hN,hf,hC=>by
  unfold symPass
  cases hC with
  | last _ _ h1 h2 h3 =>
   rw [if_neg (by omega),if_neg (by omega)]
   exact ⟨xs,rfl,Chs.last a xs (by omega) h2 h3,rfl⟩
  | more _ S rest h1 h2 h3 hC =>
   rw [List.length_append] at hN
   cases hC with
   | last _ _ k1 k2 k3 =>
    by_cases q : a + 2 * bs≤N
    ·rw [if_pos q]
     have hr : rest.length=bs:=by omega
     obtain ⟨S',e1,e2,e3⟩:=sym_at hAh O P S rest [] a (a + bs) (a + 2 * bs) N (by omega) ha (by omega) (by omega) q (by omega) (by omega) (by rw [h1];exact h2) k2 h3 k3
     rw [List.append_nil,List.append_nil] at e1
     rw [e1]
     have hl : S'.length=bs * 2:=by rw [e2.length_eq,List.length_range'];omega
     obtain ⟨ys,g1,g2,g3⟩:=chs_pass O bs hbs f (a + 2 * bs) (P ++ S') [] (by rw [List.length_append,hl];omega) (by rw [List.length_append,hl];simp;omega) (by omega) (Chs.last _ [] (by simp) (List.Perm.refl _) List.Pairwise.nil)
     rw [List.append_nil] at g1
     refine ⟨S' ++ ys,by rw [g1,List.append_assoc],Chs.more a S' ys hl ?_ e3 (by rw [show a + bs * 2=a + 2 * bs by omega];exact g2),by rw [List.length_append,List.length_append,hl,g3];simp;omega⟩
     rw [h1,hr,show bs + bs=bs * 2 by omega] at e2
     exact e2
    ·rw [if_neg q]
     by_cases q2 : a + bs < N
     ·rw [if_pos q2]
      obtain ⟨S',e1,e2,e3⟩:=sym_at hAh O P S rest [] a (a + bs) N N (by omega) ha (by omega) (by omega) (Nat.le_refl _) (by omega) (by omega) (by rw [h1];exact h2) k2 h3 k3
      rw [List.append_nil,List.append_nil] at e1
      have hl : S'.length=S.length + rest.length:=by rw [e2.length_eq,List.length_range']
      exact ⟨S',e1,Chs.last a S' (by omega) (by rw [hl];exact e2) e3,by rw [hl,List.length_append]⟩
     ·rw [if_neg q2]
      have hr : rest.length=0:=by omega
      obtain rfl : rest=[]:=List.length_eq_zero_iff.mp hr
      rw [List.append_nil]
      exact ⟨S,rfl,Chs.last a S (by omega) (by rw [h1];exact h2) h3,by simp⟩
   | more _ S2 rest2 k1 k2 k3 hC2 =>
    rw [List.length_append] at hN
    rw [if_pos (by omega)]
    obtain ⟨S',e1,e2,e3⟩:=sym_at hAh O P S S2 rest2 a (a + bs) (a + 2 * bs) N (by omega) ha (by omega) (by omega) (by omega) (by omega) (by omega) (by rw [h1];exact h2) (by rw [k1];exact k2) h3 k3
    rw [e1]
    have hl : S'.length=bs * 2:=by rw [e2.length_eq,List.length_range'];omega
    obtain ⟨ys,g1,g2,g3⟩:=chs_pass O bs hbs f (a + 2 * bs) (P ++ S') rest2 (by rw [List.length_append,hl];omega) (by rw [List.length_append,hl];omega) (by omega) (by rw [show a + 2 * bs=a + bs + bs by omega];exact hC2)
    refine ⟨S' ++ ys,by rw [← List.append_assoc,g1,List.append_assoc],Chs.more a S' ys hl ?_ e3 (by rw [show a + bs * 2=a + 2 * bs by omega];exact g2),by rw [List.length_append,List.length_append,List.length_append,hl,g3];omega⟩
    rw [h1,k1,show bs + bs=bs * 2 by omega] at e2
    exact e2
theorem chs_passes (O : Ordl R (· < N)) : ∀ (f bs : Nat) (xs : List Nat),0 < bs→xs.length=N→N + 1≤bs + f→0 < f→Chs R bs 0 xs→(passes lt N f bs xs).Perm (List.range N)∧(passes lt N f bs xs).Pairwise R
 | 0,bs,xs,hb,hl,hf,hf0,hC=>by omega
 | f + 1,bs,xs,hb,hl,hf,hf0,hC=>by
  unfold passes
  by_cases q : bs < N
  ·rw [if_pos q]
   obtain ⟨ys,g1,g2,g3⟩:=chs_pass hAh O bs hb (N + 1) 0 [] xs rfl (by simp [hl]) (by omega) hC
   rw [List.nil_append,List.nil_append] at g1
   rw [g1]
   exact chs_passes O f (bs * 2) ys (by omega) (by omega) (by omega) (by omega) g2
  ·rw [if_neg q]
   have hp:=chs_len hAh hC
   rw [hl,← List.range_eq_range'] at hp
   refine ⟨hp,?_⟩
   cases hC with
   | last _ _ h1 h2 h3=>exact h3
   | more _ S rest h1 h2 h3 hC =>
    rw [List.length_append] at hl
    have hr : rest.length=0:=by omega
    obtain rfl : rest=[]:=List.length_eq_zero_iff.mp hr
    rw [List.append_nil]
    exact h3
theorem stable_spec (O : Ordl R (· < N)) : (stableL lt N (List.range N)).Perm (List.range N)∧(stableL lt N (List.range N)).Pairwise R:=by
 unfold stableL
 obtain ⟨ys,g1,g2,g3⟩:=chs_ins hAh O (N + 1) 0 [] rfl (by omega) (by omega)
 rw [List.nil_append,List.nil_append,Nat.sub_zero,← List.range_eq_range'] at g1
 rw [g1]
 exact chs_passes hAh O (N + 1) 20 ys (by omega) (by omega) (by omega) (by omega) g2
end
end Go.Proofs.Ytojbeofipedolaa.P

/- Rows that fit, as far as they go: their order. -/
namespace Go.Proofs.Ytojbeofipedolaa.P
open Go.RowKit Go.Proofs.YtojbeofipedolaaW.PrintWords Go.Proofs.YtojbeofipedolaaW.PrintLast Go.Proofs.YtojbeofipedolaaW.PrintMore
set_option linter.unusedVariables false
set_option linter.unusedSimpArgs false
structure RowOk (T : List Int) (a : List XV) : Prop where
 len : a.length≤T.length
 fit : FitAt T a a.length 0
 gr : GR a
theorem FitAt.mono {T : List Int} {a : List XV} {m m' : Nat} (h : FitAt T a m 0) (hm : m'≤m) : FitAt T a m' 0:=fun j h1 h2=>h j h1 (by omega)
theorem fit1_size (t : Int) (v : XV) (h : v.f1.size≤9223372036854775807) : (fit1 t v).f1.size≤9223372036854775807:=by
 unfold fit1
 split
 ·show (if (v.f1.size : Int) > 60 then v.f1.extract 0 60 else v.f1).size≤_
  split
  ·rw [ByteArray.size_extract];omega
  ·exact h
 ·show (0 : Nat)≤_;omega
theorem fitRow_ok {T : List Int} {K M G : Int} (hS : Sch T K M G) (r : List XV) (hr : GR r) : RowOk T (fitRow T r):=by
 refine ⟨by rw [fitRow_length];omega,by rw [fitRow_length];exact fitRow_at hS r (fun v h=>(hr v h).1) _ (Nat.le_refl _),fun v hv=>?_⟩
 obtain ⟨i,hi,rfl⟩:=List.getElem_of_mem hv
 have hi2 : i < T.length:=by rwa [fitRow_length] at hi
 have e:=rdV_fitRow T r i hi2
 rw [show rdV (fitRow T r) i=(fitRow T r)[i] from rdV_lt _ i hi] at e
 rw [e]
 have:=hr.rdV i
 exact ⟨fit1_GV _ _ this.1,fit1_size _ _ this.2⟩
theorem RowOk.take {T : List Int} {a : List XV} (h : RowOk T a) (n : Nat) : RowOk T (a.take n):=by
 have hl : (a.take n).length≤a.length:=by rw [List.length_take];omega
 refine ⟨by have:=h.len;omega,fun j h1 h2=>?_,fun v hv=>h.gr v (List.mem_of_mem_take hv)⟩
 rw [List.length_take] at h2
 rw [rdV_take a n j (by omega)]
 exact h.fit j h1 (by omega)
theorem cmpFrom_pre (T : List Int) (a b : List XV) : ∀ m' m i,m'≤m→cmpFrom T a b m i≤0→cmpFrom T a b m' i≤0
 | 0,_,_,_,_=>by simp [cmpFrom]
 | m' + 1,0,_,h,_=>by omega
 | m' + 1,m + 1,i,h,hc=>by
  simp only [cmpFrom] at hc ⊢
  split
  ·rename_i h0
   rw [if_pos h0] at hc
   exact cmpFrom_pre T a b m' m (i + 1) (by omega) hc
  ·rename_i h0
   rw [if_neg h0] at hc
   exact hc
theorem cmpRow_anti (T : List Int) (K : Int) (a b : List XV) : cmpRow T K b a=- cmpRow T K a b:=by
 unfold cmpRow
 rw [cmpFrom_anti,show min (min (min K.toNat T.length) b.length) a.length=min (min (min K.toNat T.length) a.length) b.length by omega]
theorem cmpRow_tr (T : List Int) (K : Int) {a b c : List XV} (ha : RowOk T a) (hb : RowOk T b) (hc : RowOk T c) (hf : min K.toNat T.length≤b.length) : cmpRow T K a b≤0→cmpRow T K b c≤0→cmpRow T K a c≤0:=by
 unfold cmpRow
 intro h1 h2
 exact cmpFrom_trans T a b c _ 0 (ha.fit.mono (by omega)) (hb.fit.mono (by omega)) (hc.fit.mono (by omega)) (cmpFrom_pre T a b _ _ 0 (by omega) h1) (cmpFrom_pre T b c _ _ 0 (by omega) h2)
theorem cmpRow_self (T : List Int) (K : Int) (a : List XV) : cmpRow T K a a=0:=by have:=cmpRow_anti T K a a;omega
structure Full (T : List Int) (K : Int) (a : List XV) : Prop where
 ok : RowOk T a
 key : min K.toNat T.length≤a.length
theorem fitRow_full {T : List Int} {K M G : Int} (hS : Sch T K M G) (r : List XV) (hr : GR r) : Full T K (fitRow T r):=⟨fitRow_ok hS r hr,by rw [fitRow_length];omega⟩
def InOrd (T : List Int) (K : Int) (l : List (List XV)) : Prop:=l.Pairwise (fun a b=>cmpRow T K a b≤0)
theorem InOrd.at {T : List Int} {K : Int} {l : List (List XV)} (h : InOrd T K l) {i j : Nat} (hij : i≤j) (hj : j < l.length) : cmpRow T K (rdR l i) (rdR l j)≤0:=by
 rw [show rdR l i=l[i] from rdR_lt l i (by omega),show rdR l j=l[j] from rdR_lt l j hj]
 rcases Nat.eq_or_lt_of_le hij with e|h1
 ·subst e;rw [cmpRow_self];omega
 ·exact List.pairwise_iff_getElem.mp h i j (by omega) hj h1
end Go.Proofs.Ytojbeofipedolaa.P

/- The document's Sort puts rows in order. -/
namespace Go.Proofs.Ytojbeofipedolaa.P
open Go.RowKit Go.Proofs.YtojbeofipedolaaW.PrintWords Go.Proofs.YtojbeofipedolaaW.PrintLast Go.Proofs.YtojbeofipedolaaW.PrintMore
set_option linter.unusedVariables false
set_option linter.unusedSimpArgs false
def insR (T : List Int) (K : Int) (x : List XV) : List (List XV)→List (List XV)
 | []=>[x]
 | y :: l=>if cmpRow T K y x > 0 then x :: y :: l else y :: insR T K x l
theorem insR_cons (T : List Int) (K : Int) (x y : List XV) (l : List (List XV)) : insR T K x (y :: l)=if cmpRow T K y x > 0 then x :: y :: l else y :: insR T K x l:=rfl
def sortR (T : List Int) (K : Int) (l acc : List (List XV)) : List (List XV):=l.foldl (fun a x=>insR T K x a) acc
theorem insR_length (T : List Int) (K : Int) (x : List XV) : ∀ l,(insR T K x l).length=l.length + 1
 | []=>rfl
 | y :: l=>by
  unfold insR
  split
  ·simp
  ·simp [insR_length T K x l]
theorem insR_mem (T : List Int) (K : Int) (x : List XV) : ∀ l z,z ∈ insR T K x l ↔ z=x ∨ z ∈ l
 | [],z=>by simp [insR]
 | y :: l,z=>by
  unfold insR
  split
  ·simp
  ·rw [List.mem_cons,insR_mem T K x l z,List.mem_cons]
   constructor
   ·rintro (h|h|h)
    ·exact Or.inr (Or.inl h)
    ·exact Or.inl h
    ·exact Or.inr (Or.inr h)
   ·rintro (h|h|h)
    ·exact Or.inr (Or.inl h)
    ·exact Or.inl h
    ·exact Or.inr (Or.inr h)
theorem insR_ord (T : List Int) (K : Int) (x : List XV) (hx : Full T K x) : ∀ l,(∀ r ∈ l,Full T K r)→InOrd T K l→InOrd T K (insR T K x l)
 | [],_,_=>List.pairwise_singleton _ _
 | y :: l,hl,ho=>by
  have ho2:=List.pairwise_cons.mp ho
  have hy:=hl y List.mem_cons_self
  unfold insR
  split
  ·rename_i h
   have h2 : cmpRow T K x y≤0:=by rw [cmpRow_anti];omega
   refine List.pairwise_cons.mpr ⟨fun z hz=>?_,ho⟩
   rcases List.mem_cons.mp hz with rfl|hz
   ·exact h2
   ·exact cmpRow_tr T K hx.ok hy.ok (hl z (List.mem_cons_of_mem _ hz)).ok hy.key h2 (ho2.1 z hz)
  ·rename_i h
   refine List.pairwise_cons.mpr ⟨fun z hz=>?_,insR_ord T K x hx l (fun r hr=>hl r (List.mem_cons_of_mem _ hr)) ho2.2⟩
   rcases (insR_mem T K x l z).mp hz with rfl|hz
   ·omega
   ·exact ho2.1 z hz
theorem sortR_all (T : List Int) (K : Int) : ∀ (l acc : List (List XV)),(∀ r ∈ l,Full T K r)→(∀ r ∈ acc,Full T K r)→InOrd T K acc→InOrd T K (sortR T K l acc)∧(sortR T K l acc).length=l.length + acc.length∧∀ z,z ∈ sortR T K l acc ↔ z ∈ l ∨ z ∈ acc
 | [],acc,_,_,ho=>⟨ho,by simp [sortR],fun z=>by simp [sortR]⟩
 | x :: l,acc,hl,ha,ho=>by
  have hx:=hl x List.mem_cons_self
  obtain ⟨a1,a2,a3⟩:=sortR_all T K l (insR T K x acc) (fun r hr=>hl r (List.mem_cons_of_mem _ hr)) (fun r hr=>by
   rcases (insR_mem T K x acc r).mp hr with rfl|h
   ·exact hx
   ·exact ha r h) (insR_ord T K x hx acc ha ho)
  refine ⟨a1,?_,fun z=>?_⟩
  ·show (sortR T K l (insR T K x acc)).length=_
   rw [a2,insR_length,List.length_cons];omega
  ·show z ∈ sortR T K l (insR T K x acc) ↔ _
   rw [a3,insR_mem,List.mem_cons]
   constructor
   ·rintro (h|h|h)
    ·exact Or.inl (Or.inr h)
    ·exact Or.inl (Or.inl h)
    ·exact Or.inr h
   ·rintro ((h|h)|h)
    ·exact Or.inr (Or.inl h)
    ·exact Or.inl h
    ·exact Or.inr (Or.inr h)
end Go.Proofs.Ytojbeofipedolaa.P

/- Rows made to fit, and put in order. -/
namespace Go.Proofs.Ytojbeofipedolaa.P
open Go.RowKit Go.Proofs.YtojbeofipedolaaW.PrintWords Go.Proofs.YtojbeofipedolaaW.PrintLast Go.Proofs.YtojbeofipedolaaW.PrintMore
set_option linter.unusedVariables false
set_option linter.unusedSimpArgs false
theorem GR_gd {r : List XV} (h : ∀ v ∈ r,gd41 v) : GR r:=fun v hv=>by
 obtain ⟨h1,h2⟩:=h v hv
 exact ⟨wf_i64 h1,by unfold maxLen at h2;omega⟩
def fitsR (T : List Int) (l : List (List XV)) : List (List XV):=(l.take 60).map (fitRow T)
structure Rows60 (T : List Int) (K : Int) (l : List (List XV)) : Prop where
 len : l.length≤60
 full : ∀ r ∈ l,Full T K r
 wide : ∀ r ∈ l,r.length=T.length
theorem Rows60.gr {T : List Int} {K : Int} {l : List (List XV)} (h : Rows60 T K l) : ∀ r ∈ l,GR r:=fun r hr=>(h.full r hr).ok.gr
theorem fitsR_ok {T : List Int} {K M G : Int} (hS : Sch T K M G) (l : List (List XV)) (hl : ∀ a ∈ l,∀ v ∈ a,gd41 v) : Rows60 T K (fitsR T l):=by
 refine ⟨by unfold fitsR;rw [List.length_map,List.length_take];omega,fun r hr=>?_,fun r hr=>?_⟩
 ·obtain ⟨a,ha,rfl⟩:=List.mem_map.mp hr
  exact fitRow_full hS a (GR_gd (hl a (List.mem_of_mem_take ha)))
 ·obtain ⟨a,ha,rfl⟩:=List.mem_map.mp hr
  exact fitRow_length T a
theorem sorted_ok {T : List Int} {K : Int} {l : List (List XV)} (h : Rows60 T K l) : Rows60 T K (sortR T K l [])∧InOrd T K (sortR T K l []):=by
 obtain ⟨a1,a2,a3⟩:=sortR_all T K l [] h.full (by simp) List.Pairwise.nil
 refine ⟨⟨by have:=h.len;simp at a2;omega,fun r hr=>?_,fun r hr=>?_⟩,a1⟩
 ·rcases (a3 r).mp hr with q|q
  ·exact h.full r q
  ·exact absurd q (by simp)
 ·rcases (a3 r).mp hr with q|q
  ·exact h.wide r q
  ·exact absurd q (by simp)
end Go.Proofs.Ytojbeofipedolaa.P

/- What order.Sort does, is what the document says. -/
namespace Go.Proofs.Ytojbeofipedolaa.P
open Go.RowKit Go.Proofs.YtojbeofipedolaaW.PrintWords Go.Proofs.YtojbeofipedolaaW.PrintLast
set_option linter.unusedVariables false
theorem perm_uniq {R : Nat→Nat→Prop} : ∀ (l1 l2 : List Nat),l1.Perm l2→l1.Pairwise R→l2.Pairwise R→(∀ x ∈ l1,∀ y ∈ l1,R x y→¬ R y x)→l1=l2
 | [],l2,hp,_,_,_=>(List.Perm.nil_eq hp)
 | a :: l1,l2,hp,h1,h2,hA=>by
  cases l2 with
  | nil=>exact absurd hp.symm (by simp)
  | cons b l2 =>
   obtain ⟨p1,p2⟩:=List.pairwise_cons.mp h1
   obtain ⟨q1,q2⟩:=List.pairwise_cons.mp h2
   have hab : a=b:=by
    have ha : a ∈ b :: l2:=hp.mem_iff.mp (by simp)
    have hb : b ∈ a :: l1:=hp.mem_iff.mpr (by simp)
    rcases List.mem_cons.mp ha with h|h
    ·exact h
    ·rcases List.mem_cons.mp hb with h'|h'
     ·exact h'.symm
     ·exact absurd (p1 b h') (hA b hb a (by simp) (q1 a h))
   subst hab
   rw [perm_uniq l1 l2 (List.Perm.cons_inv hp) p2 q2 (fun x hx y hy=>hA x (by simp [hx]) y (by simp [hy]))]
def insN (cf : Nat→Nat→Int) (x : Nat) : List Nat→List Nat
 | []=>[x]
 | y :: l=>if cf y x > 0 then x :: y :: l else y :: insN cf x l
theorem insN_perm (cf : Nat→Nat→Int) (x : Nat) : ∀ l,(insN cf x l).Perm (x :: l)
 | []=>List.Perm.refl _
 | y :: l=>by
  unfold insN
  split
  ·exact List.Perm.refl _
  ·exact ((insN_perm cf x l).cons y).trans (List.Perm.swap x y l)
theorem insN_map (T : List Int) (K : Int) (l : List (List XV)) (x : Nat) : ∀ ys : List Nat,(insN (fun i j=>cmpRow T K (rdR l (i : Nat)) (rdR l (j : Nat))) x ys).map (fun i=>rdR l (i : Nat))=insR T K (rdR l (x : Nat)) (ys.map fun i=>rdR l (i : Nat))
 | []=>rfl
 | y :: ys=>by
  rw [List.map_cons,insR_cons]
  unfold insN
  split
  ·rfl
  ·rw [List.map_cons,insN_map T K l x ys]
theorem insN_ord {cf : Nat→Nat→Int} {R : Nat→Nat→Prop} {N : Nat} (O : Ordl R (· < N)) (h1 : ∀ x y,x < N→y < x→(cf y x > 0→R x y)∧(¬ cf y x > 0→R y x)) (x : Nat) (hx : x < N) : ∀ l : List Nat,(∀ y ∈ l,y < x)→l.Pairwise R→(insN cf x l).Pairwise R
 | [],_,_=>List.pairwise_singleton _ _
 | y :: l,hl,hp=>by
  obtain ⟨p1,p2⟩:=List.pairwise_cons.mp hp
  have hyx:=hl y (by simp)
  unfold insN
  split
  case isTrue q =>
   have hr:=(h1 x y hx hyx).1 q
   refine List.pairwise_cons.mpr ⟨fun z hz=>?_,hp⟩
   rcases List.mem_cons.mp hz with rfl|hz
   ·exact hr
   ·exact O.tr x y z hx (by show y < N;omega) (by have:=hl z (by simp [hz]);show z < N;omega) hr (p1 z hz)
  case isFalse q =>
   refine List.pairwise_cons.mpr ⟨fun z hz=>?_,insN_ord O h1 x hx l (fun z hz=>hl z (by simp [hz])) p2⟩
   rcases List.mem_cons.mp ((insN_perm cf x l).mem_iff.mp hz) with rfl|hz
   ·exact (h1 z y hx hyx).2 q
   ·exact p1 z hz
def sortN (cf : Nat→Nat→Int) (l acc : List Nat) : List Nat:=l.foldl (fun a x=>insN cf x a) acc
theorem sortN_spec {cf : Nat→Nat→Int} {R : Nat→Nat→Prop} {N : Nat} (O : Ordl R (· < N)) (h1 : ∀ x y,x < N→y < x→(cf y x > 0→R x y)∧(¬ cf y x > 0→R y x)) : ∀ (d i : Nat) (acc : List Nat),i + d=N→acc.Perm (List.range i)→acc.Pairwise R→(sortN cf (List.range' i d) acc).Perm (List.range N)∧(sortN cf (List.range' i d) acc).Pairwise R
 | 0,i,acc,hi,hp,hs=>by
  obtain rfl : i=N:=by omega
  exact ⟨hp,hs⟩
 | d + 1,i,acc,hi,hp,hs=>by
  rw [List.range'_succ]
  show (sortN cf (List.range' (i + 1) d) (insN cf i acc)).Perm _∧_
  refine sortN_spec O h1 d (i + 1) (insN cf i acc) (by omega) ?_ (insN_ord O h1 i (by omega) acc (fun y hy=>List.mem_range.mp (hp.mem_iff.mp hy)) hs)
  refine (insN_perm cf i acc).trans ?_
  rw [List.range_succ]
  exact (hp.cons i).trans (List.perm_append_comm (l₁:=[i]))
section
variable (T : List Int) (K : Int) (l : List (List XV)) (hF : ∀ r ∈ l,Full T K r)
def CFn (i j : Nat) : Int:=cmpRow T K (rdR l (i : Nat)) (rdR l (j : Nat))
def RSn (i j : Nat) : Prop:=CFn T K l i j < 0 ∨ (CFn T K l i j=0∧i < j)
include hF
theorem full_at (i : Nat) (hi : i < l.length) : Full T K (rdR l (i : Nat)):=by rw [show rdR l (i : Nat)=l[i] from rdR_lt l i hi];exact hF _ (List.getElem_mem hi)
theorem cf_tr {x y z : Nat} (hx : x < l.length) (hy : y < l.length) (hz : z < l.length) (h1 : CFn T K l x y≤0) (h2 : CFn T K l y z≤0) : CFn T K l x z≤0 :=
 cmpRow_tr T K (full_at T K l hF x hx).ok (full_at T K l hF y hy).ok (full_at T K l hF z hz).ok (full_at T K l hF y hy).key h1 h2
omit hF in
theorem cf_anti (x y : Nat) : CFn T K l y x=- CFn T K l x y:=cmpRow_anti T K _ _
theorem ord_O : Ordl (RSn T K l) (· < l.length):=by
 refine ⟨fun x y z hx hy hz h1 h2=>?_,fun x hx h=>?_⟩
 ·have a1:=cf_anti T K l x y
  have a2:=cf_anti T K l y z
  have a3:=cf_anti T K l x z
  have t1:=cf_tr T K l hF (x:=x) (y:=y) (z:=z) hx hy hz
  have t2:=cf_tr T K l hF (x:=z) (y:=x) (z:=y) hz hx hy
  have t3:=cf_tr T K l hF (x:=y) (y:=z) (z:=x) hy hz hx
  unfold RSn at *
  omega
 ·have:=cf_anti T K l x x
  unfold RSn at h
  omega
omit hF in
theorem ord_Ah (x y : Nat) (hxy : x < y) (hy : y < l.length) : Ahead (ltC (CFn T K l)) (RSn T K l) x y:=by
 have a1:=cf_anti T K l x y
 refine ⟨?_,?_⟩
 ·unfold ltC RSn
  rw [decide_eq_true_iff]
  omega
 ·unfold RSn
  omega
theorem ordP_spec : (ordP T K l).Perm (List.range l.length)∧(ordP T K l).Pairwise (RSn T K l):=stable_spec (N:=l.length) (ord_Ah T K l) (ord_O T K l hF)
theorem ordP_sortN : ordP T K l=sortN (CFn T K l) (List.range' 0 l.length) []:=by
 obtain ⟨p1,p2⟩:=ordP_spec T K l hF
 obtain ⟨q1,q2⟩:=sortN_spec (cf:=CFn T K l) (ord_O T K l hF) (fun x y hx hyx=>by
  have a1:=cf_anti T K l x y
  unfold RSn
  omega) l.length 0 [] (by omega) (List.Perm.refl _) List.Pairwise.nil
 refine perm_uniq _ _ (p1.trans q1.symm) p2 q2 (fun x hx y hy h1 h2=>?_)
 have O:=ord_O T K l hF
 have hx' : x < l.length:=List.mem_range.mp (p1.mem_iff.mp hx)
 have hy' : y < l.length:=List.mem_range.mp (p1.mem_iff.mp hy)
 exact O.ir x hx' (O.tr x y x hx' hy' hx' h1 h2)
theorem ordP_sortR : (ordP T K l).map (fun i=>rdR l (i : Nat))=sortR T K l []:=by
 rw [ordP_sortN T K l hF]
 have key : ∀ (xs acc : List Nat),(sortN (CFn T K l) xs acc).map (fun i=>rdR l (i : Nat))=sortR T K (xs.map fun i=>rdR l (i : Nat)) (acc.map fun i=>rdR l (i : Nat)):=by
  intro xs
  induction xs with
  | nil=>intro acc;rfl
  | cons x xs ih =>
   intro acc
   show (sortN (CFn T K l) xs (insN (CFn T K l) x acc)).map _=sortR T K (xs.map _) (insR T K (rdR l (x : Nat)) (acc.map _))
   rw [ih,← insN_map]
   rfl
 rw [key,List.map_nil]
 congr 1
 apply List.ext_getElem
 ·simp
 ·intro i h1 h2
  simp only [List.getElem_map,List.getElem_range',Nat.zero_add,Nat.one_mul]
  exact rdR_lt l i h2
end
theorem sort_ev2 (T : List Int) (a b d : Int) (hT : T.length≤1000000000) (l : List (List XV)) (hl : l.length≤1000000000) (hF : ∀ r ∈ l,Full T a r) : Ev (fun k=>order_Sort.f k T a b d l) (sortR T a l []):=by
 refine ⟨0,fun k _=>?_⟩
 show (if T.length≤1000000000∧l.length≤1000000000 then some ((ordP T a l).map fun i=>rdR l (i : Nat)) else none)=_
 rw [if_pos ⟨hT,hl⟩,ordP_sortR T a l hF]
theorem below_ev (T : List Int) (a b d : Int) (hT : T.length≤1000000000) (l : List (List XV)) (hl : l.length≤1000000000) (hF : ∀ r ∈ l,Full T a r) (ho : InOrd T a l) (key : List XV) (hk : RowOk T key) :
  ∃ n : Nat,Ev (fun k=>order_Below.f k T a b d l key) (n : Int)∧n≤l.length∧∀ i : Nat,i < l.length→(cmpRow T a (rdR l (i : Nat)) key < 0 ↔ i < n):=by
 obtain ⟨b1,b2,b3,b4⟩:=bsr_spec (fun i : Nat=>decide (cmpRow T a (rdR l i) key ≥ 0)) 0 l.length (fun x y _ hxy hy hp=>by
   have h1:=of_decide_eq_true hp
   refine decide_eq_true ?_
   have f1:=full_at T a l hF x (by omega)
   have f2:=full_at T a l hF y hy
   have h2:=cmpRow_anti T a (rdR l (x : Nat)) key
   have h3:=cmpRow_anti T a (rdR l (y : Nat)) key
   have:=cmpRow_tr T a hk f1.ok f2.ok f1.key (by omega) (ho.at hxy hy)
   omega) l.length 0 l.length (by omega) (by omega) (by omega) (Nat.le_refl _) (fun x h1 h2=>by omega) (fun x h1 h2=>by omega)
 refine ⟨_,⟨0,fun k _=>if_pos ⟨hT,hl⟩⟩,b2,fun i hi=>?_⟩
 rcases Nat.lt_or_ge i (bsr (fun i : Nat=>decide (cmpRow T a (rdR l i) key ≥ 0)) l.length 0 l.length) with q|q
 ·have:=of_decide_eq_false (b3 i (by omega) q)
  exact ⟨fun _=>q,fun _=>by omega⟩
 ·have:=of_decide_eq_true (b4 i q hi)
  exact ⟨fun h=>by omega,fun h=>by omega⟩
theorem upto_ev (T : List Int) (a b d : Int) (hT : T.length≤1000000000) (l : List (List XV)) (hl : l.length≤1000000000) (hF : ∀ r ∈ l,Full T a r) (ho : InOrd T a l) (key : List XV) (hk : RowOk T key) :
  ∃ n : Nat,Ev (fun k=>order_Upto.f k T a b d l key) (n : Int)∧n≤l.length∧∀ i : Nat,i < l.length→(cmpRow T a (rdR l (i : Nat)) key≤0 ↔ i < n):=by
 obtain ⟨b1,b2,b3,b4⟩:=bsr_spec (fun i : Nat=>decide (cmpRow T a (rdR l i) key > 0)) 0 l.length (fun x y _ hxy hy hp=>by
   have h1:=of_decide_eq_true hp
   refine decide_eq_true ?_
   have f1:=full_at T a l hF x (by omega)
   have f2:=full_at T a l hF y hy
   have h2:=cmpRow_anti T a (rdR l (x : Nat)) key
   have h3:=cmpRow_anti T a (rdR l (y : Nat)) key
   have:=cmpRow_tr T a f1.ok f2.ok hk f2.key (ho.at hxy hy)
   omega) l.length 0 l.length (by omega) (by omega) (by omega) (Nat.le_refl _) (fun x h1 h2=>by omega) (fun x h1 h2=>by omega)
 refine ⟨_,⟨0,fun k _=>if_pos ⟨hT,hl⟩⟩,b2,fun i hi=>?_⟩
 rcases Nat.lt_or_ge i (bsr (fun i : Nat=>decide (cmpRow T a (rdR l i) key > 0)) l.length 0 l.length) with q|q
 ·have:=of_decide_eq_false (b3 i (by omega) q)
  exact ⟨fun _=>q,fun _=>by omega⟩
 ·have:=of_decide_eq_true (b4 i q hi)
  exact ⟨fun h=>by omega,fun h=>by omega⟩
theorem dnOK_iff (p : Nat→Bool) : ∀ n,dnOK p n=true ↔ ∀ i,i < n→p i=false
 | 0=>by simp [dnOK]
 | n + 1=>by
  unfold dnOK
  rw [Bool.and_eq_true,dnOK_iff p n]
  constructor
  ·rintro ⟨h1,h2⟩ i hi
   rcases Nat.lt_succ_iff_lt_or_eq.mp hi with h|h
   ·exact h2 i h
   ·subst h;simpa using h1
  ·intro h
   exact ⟨by rw [h n (Nat.lt_succ_self n)];rfl,fun i hi=>h i (Nat.lt_succ_of_lt hi)⟩
end Go.Proofs.Ytojbeofipedolaa.P

/- What the laws of the order begin with. -/
namespace Go.Proofs.Ytojbeofipedolaa.P
open Go.RowKit Go.Proofs.YtojbeofipedolaaW.PrintWords Go.Proofs.YtojbeofipedolaaW.PrintLast
set_option linter.unusedVariables false
theorem shown09_ev : Ev (fun k=>thresherlaw09_shown.f k) true:=Ev.of thresherlaw09_shown.mono (k:=10) (by kernel_rfl)
theorem made09_ev {x : S24} (h : gd24 x) : ∃ T K M G,Ev (fun k=>thresherlaw09_made.f k x.f0.f0 x.f0.f1 x.f0.f2 x.f0.f3 x.f0.f4 x.f0.f5 x.f0.f6 x.f0.f7 x.f1 x.f2 x.f3 x.f4) (T,K,M,G)∧Sch T K M G:=by
 obtain ⟨T,K,M,G,h1,h2⟩:=shape_ev h
 refine ⟨T,K,M,G,?_,h2⟩
 simp only [thresherlaw09_made.f]
 exact Ev.bind h1 (Ev.now _)
end Go.Proofs.Ytojbeofipedolaa.P

/- What thresherref09 tells of rows, and what a sort keeps. -/
namespace Go.Proofs.Ytojbeofipedolaa.P
open Go.RowKit Go.Proofs.YtojbeofipedolaaW.PrintWords Go.Proofs.YtojbeofipedolaaW.PrintLast
set_option linter.unusedVariables false
theorem insR_end (T : List Int) (K : Int) (x : List XV) : ∀ l,(∀ y ∈ l,cmpRow T K y x≤0)→insR T K x l=l ++ [x]
 | [],_=>rfl
 | y :: l,h=>by
  rw [insR_cons,if_neg (by have:=h y (by simp);omega),insR_end T K x l (fun z hz=>h z (by simp [hz]))]
  rfl
theorem sortR_sorted (T : List Int) (K : Int) : ∀ (l acc : List (List XV)),InOrd T K (acc ++ l)→sortR T K l acc=acc ++ l
 | [],acc,_=>by rw [List.append_nil];rfl
 | x :: l,acc,h=>by
  show sortR T K l (insR T K x acc)=_
  have h2:=(List.pairwise_append.mp h).2.2
  rw [insR_end T K x acc (fun y hy=>h2 y hy x (by simp)),sortR_sorted T K l _ (by rw [List.append_assoc];exact h),List.append_assoc]
  rfl
section
variable (T : List Int) (K M G : Int) (hT : T.length≤1000000000) (a : List (List XV)) (hl : a.length≤1000000) (ga : ∀ r ∈ a,GR r) (key : List XV) (gk : GR key) (n : Nat) (hnl : n≤a.length)
include hT hl ga gk hnl
end
def upOK (q : Nat→Bool) : Nat→Nat→Bool
 | 0,_=>true
 | d + 1,i=>if q i=true then false else upOK q d (i + 1)
section
variable (T : List Int) (K M G : Int) (hT : T.length≤1000000000) (a : List (List XV)) (hl : a.length≤1000000) (ga : ∀ r ∈ a,GR r)
include hT hl ga
end
theorem sorted_true (T : List Int) (K M G : Int) (hT : T.length≤1000000000) (a : List (List XV)) (hl : a.length≤1000000) (ho : InOrd T K a) : Ev (fun k=>order_Sorted.f k T K M G a) true:=by
 refine ⟨0,fun k _=>?_⟩
 show (if T.length≤1000000000∧a.length≤1000000000 then some (dnOK (fun i=>decide (cmpRow T K (rdR a ((i + 1 : Nat) : Int)) (rdR a (i : Nat)) < 0)) (a.length - 1)) else none)=_
 rw [if_pos ⟨hT,by omega⟩,(dnOK_iff _ _).mpr (fun i hi=>?_)]
 have h1:=ho.at (show i≤i + 1 by omega) (by omega)
 have h2:=cmpRow_anti T K (rdR a (i : Nat)) (rdR a ((i + 1 : Nat) : Int))
 exact decide_eq_false (by omega)
end Go.Proofs.Ytojbeofipedolaa.P

/- A row that is put in where Upto says, or Below, keeps rows in order; it stands behind, or ahead of, those of its key: the plain law. -/
namespace Go.Proofs.Ytojbeofipedolaa.Pure
open Go.RowKit Go.Proofs.Ytojbeofipedolaa.P Go.Proofs.YtojbeofipedolaaW.PrintWords Go.Proofs.YtojbeofipedolaaW.PrintLast
set_option linter.unusedVariables false
theorem insR_put (T : List Int) (K : Int) (x : List XV) : ∀ (P S : List (List XV)),(∀ y ∈ P,cmpRow T K y x≤0)→(∀ y ∈ S,cmpRow T K y x > 0)→insR T K x (P ++ S)=P ++ x :: S
 | [],[],_,_=>rfl
 | [],y :: S,_,h=>by rw [List.nil_append,insR_cons,if_pos (h y List.mem_cons_self)];rfl
 | y :: P,S,h1,h2=>by
  have:=h1 y List.mem_cons_self
  rw [List.cons_append,insR_cons,if_neg (by omega),insR_put T K x P S (fun z hz=>h1 z (List.mem_cons_of_mem _ hz)) h2]
  rfl
theorem sortR_ahead (T : List Int) (K : Int) (x : List XV) : ∀ (L P : List (List XV)),InOrd T K (P ++ L)→(∀ y ∈ L,cmpRow T K y x < 0)→sortR T K L (P ++ [x])=P ++ L ++ [x]
 | [],P,_,_=>by simp [sortR]
 | y :: L,P,ho,h=>by
  have hy:=h y List.mem_cons_self
  have hP : ∀ p ∈ P,cmpRow T K p y≤0:=fun p hp=>(List.pairwise_append.mp ho).2.2 p hp y List.mem_cons_self
  have e : insR T K y (P ++ [x])=(P ++ [y]) ++ [x]:=by
   rw [insR_put T K y P [x] hP (fun z hz=>by rw [List.mem_singleton.mp hz,cmpRow_anti];omega)]
   simp
  show sortR T K L (insR T K y (P ++ [x]))=_
  rw [e,sortR_ahead T K x L (P ++ [y]) (by simpa using ho) (fun z hz=>h z (List.mem_cons_of_mem _ hz))]
  simp
theorem sortR_append (T : List Int) (K : Int) (a b acc : List (List XV)) : sortR T K (a ++ b) acc=sortR T K b (sortR T K a acc):=by
 unfold sortR
 rw [List.foldl_append]
theorem ord_put {T : List Int} {K : Int} {P S : List (List XV)} {x : List XV} (ho : InOrd T K (P ++ S)) (h1 : ∀ y ∈ P,cmpRow T K y x≤0) (h2 : ∀ y ∈ S,cmpRow T K x y≤0) : InOrd T K (P ++ x :: S):=by
 obtain ⟨a,b,c⟩:=List.pairwise_append.mp ho
 refine List.pairwise_append.mpr ⟨a,List.pairwise_cons.mpr ⟨fun y hy=>h2 y hy,b⟩,fun p hp y hy=>?_⟩
 rcases List.mem_cons.mp hy with rfl|hy
 ·exact h1 p hp
 ·exact c p hp y hy
theorem mem_take_at {l : List (List XV)} {m : Nat} {y : List XV} (h : y ∈ l.take m) : ∃ i,i < m∧i < l.length∧rdR l (i : Nat)=y:=by
 obtain ⟨i,hi,rfl⟩:=List.mem_iff_getElem.mp h
 rw [List.length_take] at hi
 exact ⟨i,by omega,by omega,by rw [show rdR l (i : Nat)=_ from rdR_lt l i (by omega),List.getElem_take]⟩
theorem mem_drop_at {l : List (List XV)} {m : Nat} {y : List XV} (h : y ∈ l.drop m) : ∃ i,m≤i∧i < l.length∧rdR l (i : Nat)=y:=by
 obtain ⟨i,hi,rfl⟩:=List.mem_iff_getElem.mp h
 rw [List.length_drop] at hi
 exact ⟨m + i,by omega,by omega,by rw [show rdR l ((m + i : Nat) : Int)=_ from rdR_lt l (m + i) (by omega),List.getElem_drop]⟩
theorem OrderPlaces : thresherlaw09_OrderPlaces.PureG:=by
 intro x l r hx ⟨hl,hl2⟩ ⟨hr,hr2⟩
 obtain ⟨T,K,M,G,hmade,hS⟩:=made09_ev hx
 have hT8:=hS.n8
 have R0:=fitsR_ok hS l (fun a ha=>(hl2 a ha).2)
 obtain ⟨R1,ho⟩:=sorted_ok R0
 have l0:=R0.len
 have F1:=fitRow_full hS r (GR_gd hr2)
 have hrl:=fitRow_length T r
 have hfit:=fit_ev T K M G r (by omega)
 obtain ⟨row,hrow⟩ : ∃ row,row=fitRow T r:=⟨_,rfl⟩
 rw [← hrow] at F1 hrl hfit
 have hf : Ev (fun k=>thresherref04_Fits.f k T K M G l 60) (fitsR T l):=fits_ev T K M G l 60 (by omega) (by omega)
 have hs:=sort_ev2 T K M G (by omega) (fitsR T l) (by omega) R0.full
 obtain ⟨a,ha⟩ : ∃ a,a=sortR T K (fitsR T l) []:=⟨_,rfl⟩
 rw [← ha] at R1 ho hs
 have l1:=R1.len
 obtain ⟨n,en,n1,n2⟩:=below_ev T K M G (by omega) a (by omega) R1.full ho row F1.ok
 obtain ⟨m,em,m1,m2⟩:=upto_ev T K M G (by omega) a (by omega) R1.full ho row F1.ok
 have hnm : n≤m:=by
  rcases Nat.lt_or_ge m n with q|q
  ·have h1:=(n2 m (by omega)).mpr q
   have h2:=(m2 m (by omega)).mp (by omega)
   omega
  ·exact q
 have t1 : ∀ y ∈ a.take m,cmpRow T K y row≤0:=fun y hy=>by obtain ⟨i,h1,h2,rfl⟩:=mem_take_at hy;exact (m2 i h2).mpr h1
 have t2 : ∀ y ∈ a.drop m,cmpRow T K y row > 0:=fun y hy=>by
  obtain ⟨i,h1,h2,rfl⟩:=mem_drop_at hy
  have h3 : ¬ cmpRow T K (rdR a (i : Nat)) row≤0:=fun h=>by have:=(m2 i h2).mp h;omega
  omega
 have t3 : ∀ y ∈ a.take n,cmpRow T K y row < 0:=fun y hy=>by obtain ⟨i,h1,h2,rfl⟩:=mem_take_at hy;exact (n2 i h2).mpr h1
 have t4 : ∀ y ∈ a.drop n,cmpRow T K row y≤0:=fun y hy=>by
  obtain ⟨i,h1,h2,rfl⟩:=mem_drop_at hy
  have h3 : ¬ cmpRow T K (rdR a (i : Nat)) row < 0:=fun h=>by have:=(n2 i h2).mp h;omega
  rw [cmpRow_anti]
  omega
 have hom : InOrd T K (a.take m ++ a.drop m):=by rw [List.take_append_drop];exact ho
 have hon : InOrd T K (a.take n ++ a.drop n):=by rw [List.take_append_drop];exact ho
 have ob : InOrd T K (a.take m ++ row :: a.drop m):=ord_put hom t1 (fun y hy=>by have:=t2 y hy;rw [cmpRow_anti];omega)
 have oa : InOrd T K (a.take n ++ row :: a.drop n):=ord_put hon (fun y hy=>by have:=t3 y hy;omega) t4
 have s1 : sortR T K (a ++ [row]) []=a.take m ++ row :: a.drop m:=by
  rw [sortR_append,sortR_sorted T K a [] (by rw [List.nil_append];exact ho),List.nil_append]
  show insR T K row a=_
  have:=insR_put T K row (a.take m) (a.drop m) t1 t2
  rw [List.take_append_drop] at this
  exact this
 have s2 : sortR T K (row :: a) []=a.take n ++ row :: a.drop n:=by
  show sortR T K a ([] ++ [row])=_
  have e:=sortR_append T K (a.take n) (a.drop n) ([] ++ [row])
  rw [List.take_append_drop] at e
  have h0 : InOrd T K ([] ++ a.take n):=by rw [List.nil_append];exact (List.pairwise_append.mp hon).1
  rw [e,sortR_ahead T K row (a.take n) [] h0 t3,sortR_sorted T K (a.drop n) _ (by simpa using oa)]
  simp
 have f1 : ∀ y ∈ a ++ [row],Full T K y:=fun y hy=>by
  rcases List.mem_append.mp hy with h|h
  ·exact R1.full y h
  ·rw [List.mem_singleton.mp h];exact F1
 have f2 : ∀ y ∈ row :: a,Full T K y:=fun y hy=>by
  rcases List.mem_cons.mp hy with rfl|h
  ·exact F1
  ·exact R1.full y h
 have hsb:=sort_ev2 T K M G (by omega) (a ++ [row]) (by rw [List.length_append];simp;omega) f1
 have hsa:=sort_ev2 T K M G (by omega) (row :: a) (by rw [List.length_cons];omega) f2
 rw [s1] at hsb
 rw [s2] at hsa
 have wb : ∀ y ∈ a.take m ++ row :: a.drop m,y.length≤1000000000:=fun y hy=>by
  rcases List.mem_append.mp hy with h|h
  ·have:=R1.wide y (List.mem_of_mem_take h);omega
  ·rcases List.mem_cons.mp h with rfl|h
   ·omega
   ·have:=R1.wide y (List.mem_of_mem_drop h);omega
 have wa : ∀ y ∈ a.take n ++ row :: a.drop n,y.length≤1000000000:=fun y hy=>by
  rcases List.mem_append.mp hy with h|h
  ·have:=R1.wide y (List.mem_of_mem_take h);omega
  ·rcases List.mem_cons.mp h with rfl|h
   ·omega
   ·have:=R1.wide y (List.mem_of_mem_drop h);omega
 have lb : (a.take m ++ row :: a.drop m).length=a.length + 1:=by simp only [List.length_append,List.length_take,List.length_cons,List.length_drop];omega
 have la : (a.take n ++ row :: a.drop n).length=a.length + 1:=by simp only [List.length_append,List.length_take,List.length_cons,List.length_drop];omega
 have hrb:=(rows_ev (a.take m ++ row :: a.drop m) (a.take m ++ row :: a.drop m) (by omega) wb).eq (by simp : decide ((a.take m ++ row :: a.drop m)=(a.take m ++ row :: a.drop m))=true)
 have hra:=(rows_ev (a.take n ++ row :: a.drop n) (a.take n ++ row :: a.drop n) (by omega) wa).eq (by simp : decide ((a.take n ++ row :: a.drop n)=(a.take n ++ row :: a.drop n))=true)
 have htb:=sorted_true T K M G (by omega) (a.take m ++ row :: a.drop m) (by omega) ob
 have hta:=sorted_true T K M G (by omega) (a.take n ++ row :: a.drop n) (by omega) oa
 have eb : (([] : List (List XV)) ++ a.take m) ++ [row] ++ a.drop m=a.take m ++ row :: a.drop m:=by simp
 have ea : (([] : List (List XV)) ++ a.take n) ++ [row] ++ a.drop n=a.take n ++ row :: a.drop n:=by simp
 have ec : (([] : List (List XV)) ++ a) ++ [row]=a ++ [row]:=by simp
 have ed : [row] ++ a=row :: a:=rfl
 obtain ⟨X,hX⟩ : ∃ X,a.take m ++ row :: a.drop m=X:=⟨_,rfl⟩
 obtain ⟨Y,hY⟩ : ∃ Y,a.take n ++ row :: a.drop n=Y:=⟨_,rfl⟩
 rw [hX] at hsb hrb htb eb
 rw [hY] at hsa hra hta ea
 clear s1 s2 ob oa hX hY wb wa lb la t1 t2 t3 t4 hom hon f1 f2
 apply Ev.rounds
 simp only [thresherlaw09_OrderPlaces.f]
 refine Ev.bind shown09_ev (Ev.bind hmade (Ev.bind hf (Ev.bind hs (Ev.bind hfit (Ev.bind en (Ev.bind em (Ev.neg (by omega) (Ev.neg (by omega) (Ev.succ ?_)))))))))
 simp only [thresherlaw09_OrderPlaces.j0,Int.toNat_natCast]
 have k1 : (a.take m).length≤60:=by rw [List.length_take];omega
 have k2 : (a.take n).length≤60:=by rw [List.length_take];omega
 have k3 : (a.drop m).length≤60:=by rw [List.length_drop];omega
 have k4 : (a.drop n).length≤60:=by rw [List.length_drop];omega
 refine Ev.neg (by simp;omega) (Ev.bindc rfl (Ev.pos (by omega) (Ev.pos (by omega) (Ev.bindc rfl (Ev.pos (by simp only [List.length_nil];omega) (Ev.bindc rfl (Ev.bindc rfl (Ev.pos (by simp only [List.length_append,List.length_cons,List.length_nil];omega) (Ev.bindc rfl (Ev.bindc rfl (Ev.pos (by simp only [List.length_append,List.length_cons,List.length_nil];omega) (Ev.bindc rfl ?_))))))))))))
 refine Ev.bindc rfl (Ev.pos (by omega) (Ev.pos (by omega) (Ev.bindc rfl (Ev.pos (by simp only [List.length_nil];omega) (Ev.bindc rfl (Ev.bindc rfl (Ev.pos (by simp only [List.length_append,List.length_cons,List.length_nil];omega) (Ev.bindc rfl (Ev.bindc rfl (Ev.pos (by simp only [List.length_append,List.length_cons,List.length_nil];omega) (Ev.bindc rfl ?_)))))))))))
 refine Ev.bindc rfl (Ev.pos (by simp only [List.length_nil];omega) (Ev.bindc rfl (Ev.bindc rfl (Ev.pos (by simp only [List.length_append,List.length_cons,List.length_nil];omega) ?_))))
 rw [eb,ea,ec]
 refine Ev.bind hsb (Ev.bind hrb (Ev.bindc rfl (Ev.pos (by simp only [List.length_cons,List.length_nil];omega) ?_)))
 rw [ed]
 refine Ev.bind hsa (Ev.bind hra (Ev.pos (by simp) (Ev.pos rfl (Ev.pos rfl (Ev.bind htb (Ev.pos rfl (Ev.bind hta (Ev.succ ?_))))))))
 simp only [thresherlaw09_OrderPlaces.j1]
 exact Ev.now _
end Go.Proofs.Ytojbeofipedolaa.Pure

namespace Go.Proofs.Ytojbeofipedolaa.orderPlaces
open Go.ChangeShapes Go.WideShapes Go.ChangeAt Go.RowKit Go.Proofs.Ytojbeofipedolaa.P Go.Proofs.YtojbeofipedolaaW.PrintWords
set_option linter.unusedVariables false
set_option linter.unusedSimpArgs false
theorem own : ownKnob Try.prog.godebug=none:=by kernel_rfl
theorem laidOut : laidOutB Try.prog=true:=by kernel_rfl
set_option maxRecDepth 100000 in
theorem lifted (os : Os) (started : os.Started) (H : Type) (enc : TypeId × Value→H) :
  ReturnsInHanded {} Try.checked os 7 .any (Rows.orderPlacesSpec.pre6 enc Try.prog Try.f7 Rows.orderPlacesRow.domain false) (Rows.orderPlacesSpec.post enc Try.prog Try.f7 false true false false):=by
 refine returnsInHanded_of_change_sized (C:=Try.checked) own started (by kernel_rfl) Try.func7
  (ChangeSpec.witness6 (enc:=enc) (C:=Try.checked) false ⟨#[],#[.agg #[.int .u8 0,.int .u8 0,.int .u8 0,.int .u8 0,.int .u8 0,.int .u8 0,.int .u8 0,.int .u8 0,.int .u8 0,.int .u8 0,.int .u8 0,.int .u8 0],.slice none 0 0,.slice none 0 0],[]⟩ 8 (by kernel_rfl) (by kernel_rfl) (by kernel_rfl) (by kernel_rfl)) ?_
 intro W base args ds gs before hval0 hW hcnd hsz0 _
 have hval : ∀ (j : Nat) t v,Try.f7.params[j]?=some t→args[j]?=some v→Value.okWide Try.prog W .any base t v:=hval0
 have hW':=hW
 obtain ⟨p,q,hA0,hV,rfl,hfz,hnd⟩:=hW
 have hA : DataW.TrodAll enc Try.prog W 0 (fun _=>true) true Try.f7.params.toList args.toList ds p:=hA0
 rw [Try.params7] at hA hval
 obtain ⟨v0,vs0,d0,ds0,p0,q0,hargs,rfl,rfl,h0,r0⟩:=trodAll_cons hA
 obtain ⟨v1,vs1,d1,ds1,p1,q1,rfl,rfl,rfl,h1,r1⟩:=trodAll_cons r0
 obtain ⟨v2,vs2,d2,ds2,p2,q2,rfl,rfl,rfl,h2,r2⟩:=trodAll_cons r1
 obtain ⟨rfl,rfl,rfl⟩:=trodAll_nil r2
 obtain rfl : args=#[v0,v1,v2]:=by cases args;simp_all
 obtain ⟨rfl,rfl⟩:=trodVars_none hV
 have lt0 : ∀ x ∈ p0,x.block < W.heap.size:=by obtain ⟨m,hm⟩:=h0;exact DataW.trod_lt m _ _ _ hm
 obtain ⟨x0,K0,g0⟩:=(op24).arg h0
 obtain ⟨cs0,rfl⟩:=okWide_agg Try.underlying24 (hval 0 24 v0 rfl rfl)
 have e0:=k24_open K0
 replace e0:=agg_of e0
 have lt1 : ∀ x ∈ p1,x.block < W.heap.size:=by obtain ⟨m,hm⟩:=h1;exact DataW.trod_lt m _ _ _ hm
 obtain ⟨x1,K1,g1⟩:=((opens_slice Try.underlying25 (by kernel_rfl) (opens_slice Try.underlying27 (by kernel_rfl) op41))).arg h1
 obtain ⟨a1,len1,cap1,rfl⟩:=okWide_slice Try.underlying25 (hval 1 25 v1 rfl rfl)
 obtain ⟨A1,c1,e1,hl1,hr1⟩:=K1
 simp [Value.cells] at e1
 obtain ⟨rfl,rfl,rfl⟩:=e1
 have lt2 : ∀ x ∈ p2,x.block < W.heap.size:=by obtain ⟨m,hm⟩:=h2;exact DataW.trod_lt m _ _ _ hm
 obtain ⟨x2,K2,g2⟩:=((opens_slice Try.underlying27 (by kernel_rfl) op41)).arg h2
 obtain ⟨a2,len2,cap2,rfl⟩:=okWide_slice Try.underlying27 (hval 2 27 v2 rfl rfl)
 obtain ⟨A2,c2,e2,hl2,hr2⟩:=K2
 simp [Value.cells] at e2
 obtain ⟨rfl,rfl,rfl⟩:=e2
 obtain ⟨k,hk⟩:=Pure.OrderPlaces x0 x1 x2 g0 g1 g2
 have call : Calls Try.prog 7 #[.agg cs0,.slice a1 x1.length cap1,.slice a2 x2.length cap2] W fun e W'=>e=.returned (.bool true)∧Below W.heap.size W W':=by
  rw [e0]
  refine (thresherlaw09_OrderPlaces.calls k _ _ _ _ _ _ _ _ _ _ _ _ _ _ _ _ _ _ true W hr1 hl1 hr2 hl2 hk).mono ?_
  rintro e w' ⟨rfl,hd⟩
  exact ⟨rfl,hd⟩
 refine call.mono fun e W' ⟨he,bel⟩=>?_
 subst he
 exact ⟨_,rfl,_,_,_,[],_,[],hW',trodAll_mk1 (shut_bool Try.underlying4 _),(trodAll_cons_mk (Below.trod laidOut (by kernel_rfl) (of_decide_eq_true (by kernel_rfl)) h0 bel lt0) (trodAll_cons_mk (Below.trod laidOut (by kernel_rfl) (of_decide_eq_true (by kernel_rfl)) h1 bel lt1) (trodAll_cons_mk (Below.trod laidOut (by kernel_rfl) (of_decide_eq_true (by kernel_rfl)) h2 bel lt2) trodAll_mk0))),rfl,bel.frame _,fun h=>by cases h⟩
theorem over : Rows.orderPlacesRow.holds Try.pinned (OpenSpec.ofChange Rows.orderPlacesSpec) :=
 OpenClaim.holds_of_wide 7 Try.f7 rfl rfl rfl rfl rfl rfl rfl ⟨rfl,rfl,rfl,rfl,rfl⟩ rfl rfl rfl rfl rfl (by kernel_rfl) Try.func7 (by kernel_rfl)
  (of_decide_eq_true (by kernel_rfl)) (by unfold Func.isWrapper;first|(rw [if_pos (by decide +kernel)];kernel_rfl)|(rw [if_neg (by decide +kernel)];exact ⟨rfl,rfl⟩))
  (fun os started H enc _=>lifted os started H enc)
theorem proved : Rows.OrderPlacesSaid:=over
#print axioms proved
end Go.Proofs.Ytojbeofipedolaa.orderPlaces
namespace Go.Proofs.Ytojbeofipedolaa
theorem orderPlaces_holds : Rows.OrderPlacesSaid:=orderPlaces.proved
end Go.Proofs.Ytojbeofipedolaa

