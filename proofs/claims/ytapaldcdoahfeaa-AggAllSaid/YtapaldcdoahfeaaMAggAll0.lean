/- The row of AggAll. Merged: SAggAll, XBase, XFit, XMade, XOrd, XFitOk, XFits, XRVal, XShape, XVal, XRCmp, XRowOk, XAgg, XSort, XAggB, XAggFit, XSixty, XAggMay, XAggRef, PureAggAll, RAggAll. -/
import Derived.Test.YtapaldcdoahfeaaQAggAllPx19
import Derived.Test.YtapaldcdoahfeaaQAggAllO
import Derived.Test.YtapaldcdoahfeaaQAggAllPx0
import Derived.Test.YtapaldcdoahfeaaQAggAllHBase
import Derived.Test.YtapaldcdoahfeaaQAggAllPx5
import Derived.Lib.Bytealg
import Derived.Test.YtapaldcdoahfeaaQAggAllPx6
import Derived.Test.YtapaldcdoahfeaaQAggAllPx7
import Derived.Test.YtapaldcdoahfeaaQAggAllPx4
import Derived.Test.YtapaldcdoahfeaaQAggAllPx3
import Derived.Test.YtapaldcdoahfeaaQAggAllPx8
import Derived.Test.YtapaldcdoahfeaaQAggAllHAggC
import Derived.Test.YtapaldcdoahfeaaQAggAllPx9
import Derived.Test.YtapaldcdoahfeaaQAggAllPx10
import Derived.Test.YtapaldcdoahfeaaQAggAllPx12
import Derived.Test.YtapaldcdoahfeaaQAggAllPx15
import Derived.Test.YtapaldcdoahfeaaQAggAllPx16
import Derived.Test.YtapaldcdoahfeaaQAggAllPx18
import Derived.Test.YtapaldcdoahfeaaRows
import Derived.WalkKit
import Derived.ProofKit
import Derived.OpenShut
import Derived.ShutString
import Derived.ChangeOld
import Derived.Below
import Derived.SizedLaws
-- Written by wip/tools/myprint.py: the plain statement of AggAll.
namespace Go.Proofs.Ytapaldcdoahfeaa.P
open Go.RowKit Go.Proofs.YtapaldcdoahfeaaW.PrintWords
def thresherlaw20_AggAll.PureG : Prop:=∀ (x0 : S24) (x1 : List (S33)) (x2 : List (List (S40))),gd24 x0→(x1.length≤maxLen∧∀ a ∈ x1,gd33 a)→(x2.length≤maxLen∧∀ a ∈ x2,(a.length≤maxLen∧∀ aa ∈ a,gd40 aa))→∃ k,thresherlaw20_AggAll.f k x0.f0.f0 x0.f0.f1 x0.f0.f2 x0.f0.f3 x0.f0.f4 x0.f0.f5 x0.f0.f6 x0.f0.f7 x0.f1 x0.f2 x0.f3 x0.f4 x1 x2=some true
end Go.Proofs.Ytapaldcdoahfeaa.P

/- Words of the laws about rows. -/
namespace Go.Proofs.Ytapaldcdoahfeaa.P
open Go.RowKit Go.Proofs.YtapaldcdoahfeaaW.PrintWords Go.Proofs.YtapaldcdoahfeaaW.PrintLast Go.Proofs.YtapaldcdoahfeaaW.PrintMore
set_option linter.unusedVariables false
set_option linter.unusedSimpArgs false

abbrev XV:=S40
abbrev rdV (l : List XV) (i : Int) : XV:=rd_T40 l i
abbrev rdR (l : List (List XV)) (i : Int) : List XV:=rd_L7 l i
theorem rd_lt (l : List Int) (i : Nat) (h : i < l.length) : rd l i=l[i]:=by unfold rd;simp [List.getD,h]
theorem rdV_lt (l : List XV) (i : Nat) (h : i < l.length) : rd_T40 l i=l[i]:=by unfold rd_T40;simp [List.getD,h]
theorem rdV_ge (l : List XV) (i : Nat) (h : l.length≤i) : rd_T40 l i=⟨0,⟨#[]⟩⟩:=by unfold rd_T40;simp [List.getD,h];rfl
theorem rdR_lt (l : List (List XV)) (i : Nat) (h : i < l.length) : rd_L7 l i=l[i]:=by unfold rd_L7;simp [List.getD,h]

/-- A schema that may be. -/
structure Sch (T : List Int) (K M G : Int) : Prop where
 n1 : 1≤T.length
 n8 : T.length≤8
 ty : ∀ t ∈ T,1≤t∧t≤3
 k1 : 1≤K
 kn : K≤T.length
 m1 : 1≤M
 m3 : M≤3
 g1 : 1≤G
 g8 : G≤8
theorem Sch.rdt {T : List Int} {K M G : Int} (h : Sch T K M G) (i : Nat) (hi : i < T.length) : 1≤rd T i∧rd T i≤3:=by
 rw [rd_lt T i hi];exact h.ty _ (List.getElem_mem hi)

/-- Does a value fit a type? -/
def fitT (t : Int) (v : XV) : Bool:=if t=1 ∨ t=2 then v.f1.toList == ([] : List UInt8) else if t=3 then (if v.f0=0 then decide ((v.f1.size : Int)≤60) else false) else false
def rowOkB (T : List Int) (r : List XV) : Bool:=decide (T.length=r.length) && (List.range T.length).all fun (i : Nat)=>fitT (rd T i) (rdV r i)
/-- The value made to fit a type. -/
def fit1 (t : Int) (v : XV) : XV:=if t=3 then ⟨0,if (v.f1.size : Int) > 60 then v.f1.extract 0 60 else v.f1⟩ else ⟨v.f0,⟨#[]⟩⟩
def fitRow (T : List Int) (r : List XV) : List XV:=(List.range' 0 T.length).map fun (i : Nat)=>fit1 (rd T i) (rdV r i)
theorem fitRow_length (T : List Int) (r : List XV) : (fitRow T r).length=T.length:=by simp [fitRow]
theorem rdV_fitRow (T : List Int) (r : List XV) (i : Nat) (hi : i < T.length) : rdV (fitRow T r) i=fit1 (rd T i) (rdV r i):=by
 show rd_T40 _ _=_
 rw [rdV_lt _ i (by rw [fitRow_length];exact hi)]
 simp [fitRow]
theorem fitT_fit1 (t : Int) (v : XV) (h1 : 1≤t) (h3 : t≤3) : fitT t (fit1 t v)=true:=by
 unfold fitT fit1
 by_cases e : t=3
 ·subst e
  simp only [if_true,if_pos rfl]
  rw [if_neg (by omega)]
  rw [decide_eq_true_iff]
  split
  ·simp only [ByteArray.size_extract];omega
  ·omega
 ·rw [if_pos (by omega),if_neg e]
  simp [ByteArray.toList_eq]
theorem bytes_eq {a b : ByteArray} (h : a.toList=b.toList) : a=b:=by
 rw [ByteArray.toList_eq,ByteArray.toList_eq] at h
 exact ByteArray.ext (Array.toList_inj.mp h)
theorem XV.same {a b : XV} : (!(a.f0 == b.f0) || (!(a.f1.toList == b.f1.toList)))=true ↔ a≠b:=by
 constructor
 ·rintro h rfl
  simp at h
 ·intro h
  by_cases h0 : a.f0=b.f0
  ·by_cases h1 : a.f1.toList=b.f1.toList
   ·exact absurd (by cases a;cases b;simp only at h0 h1;rw [h0,bytes_eq h1]) h
   ·simp [h1]
  ·simp [h0]
instance : DecidableEq XV:=fun a b=>if h : (!(a.f0 == b.f0) || (!(a.f1.toList == b.f1.toList)))=true then isFalse (XV.same.mp h) else isTrue (Classical.byContradiction fun e=>h (XV.same.mpr e))
end Go.Proofs.Ytapaldcdoahfeaa.P

/- A row made to fit. -/
namespace Go.Proofs.Ytapaldcdoahfeaa.P
open Go.RowKit Go.Proofs.YtapaldcdoahfeaaW.PrintWords Go.Proofs.YtapaldcdoahfeaaW.PrintLast Go.Proofs.YtapaldcdoahfeaaW.PrintMore
set_option linter.unusedVariables false
set_option linter.unusedSimpArgs false

theorem fit_turn (T : List Int) (K M G : Int) (r : List XV) (i : Nat) (acc : List XV) (v0 : Int) (v1 : ByteArray) (hi : i < T.length) (hT : T.length≤1000000) (ha : acc.length=i) {R : List XV} (h : Ev (fun k=>thresherref04_Fit.l0 k r (acc ++ [fit1 (rd T i) ⟨v0,v1⟩]) ((i + 1 : Nat) : Int) T K M G) R) : Ev (fun k=>thresherref04_Fit.j1 k r acc i T K M G v0 v1) R:=by
 refine Ev.succ ?_
 simp only [thresherref04_Fit.j1]
 simp (disch:=omega) only [w64]
 refine Ev.pos (by omega) (Ev.pos (by omega) ?_)
 unfold fit1 at h
 by_cases e : rd T i=3
 ·rw [if_pos e] at h
  refine Ev.pos e ?_
  by_cases s : (v1.size : Int) > 60
  ·simp only [if_pos s] at h
   exact Ev.pos s (Ev.pos (by omega) (Ev.pos (by omega) (Ev.pos (by omega) h)))
  ·simp only [if_neg s] at h
   exact Ev.neg s (Ev.pos (by omega) h)
 ·rw [if_neg e] at h
  exact Ev.neg e (Ev.pos (by omega) h)
theorem fit_loop (T : List Int) (K M G : Int) (r : List XV) (hT : T.length≤1000000) : ∀ (d i : Nat) (acc : List XV),i + d=T.length→acc.length=i→Ev (fun k=>thresherref04_Fit.l0 k r acc i T K M G) (acc ++ (List.range' i d).map fun (j : Nat)=>fit1 (rd T j) (rdV r j))
 | 0,i,acc,hi,ha=>by
  refine Ev.succ ?_
  simp only [thresherref04_Fit.l0]
  exact Ev.neg (by omega) ((Ev.now _).eq (by simp))
 | d + 1,i,acc,hi,ha=>by
  refine Ev.succ ?_
  simp only [thresherref04_Fit.l0]
  refine Ev.pos (by omega) ?_
  have hl : (acc ++ [fit1 (rd T i) (rdV r i)]).length=i + 1:=by simp;omega
  have h:=(fit_loop T K M G r hT d (i + 1) (acc ++ [fit1 (rd T i) (rdV r i)]) (by omega) hl).eq (r':=acc ++ (List.range' i (d + 1)).map fun (j : Nat)=>fit1 (rd T j) (rdV r j)) (by rw [List.append_assoc,List.range'_succ];rfl)
  by_cases e : i < r.length
  ·exact Ev.pos (by omega) (Ev.pos (by omega) (fit_turn T K M G r i acc _ _ (by omega) hT ha h))
  ·refine Ev.neg (by omega) (fit_turn T K M G r i acc _ _ (by omega) hT ha ?_)
   have e2 : rdV r i=⟨0,⟨#[]⟩⟩:=rdV_ge r i (by omega)
   rw [e2] at h
   exact h
theorem fit_ev (T : List Int) (K M G : Int) (r : List XV) (hT : T.length≤1000000) : Ev (fun k=>thresherref04_Fit.f k T K M G r) (fitRow T r):=by
 simp only [thresherref04_Fit.f]
 exact fit_loop T K M G r hT T.length 0 [] (by omega) rfl
end Go.Proofs.Ytapaldcdoahfeaa.P

/- A schema made of any numbers. -/
namespace Go.Proofs.Ytapaldcdoahfeaa.P
open Go.RowKit Go.Proofs.YtapaldcdoahfeaaW.PrintWords Go.Proofs.YtapaldcdoahfeaaW.PrintLast Go.Proofs.YtapaldcdoahfeaaW.PrintMore
set_option linter.unusedVariables false
set_option linter.unusedSimpArgs false

def U8 (x : Int) : Prop:=0≤x∧x≤255
theorem made_one {x : Int} {m : Int} (h : U8 x) (hm : 0 < m) (hm2 : m≤1000) : wrap64 (1 + Int.tmod (wrap64 x) m)=1 + x % m∧1≤1 + x % m∧1 + x % m≤m:=by
 obtain ⟨h0,h1⟩:=h
 have e1 : wrap64 x=x:=w64 (by omega) (by omega)
 have h2:=Int.emod_nonneg x (show m≠0 by omega)
 have h3:=Int.emod_lt_of_pos x hm
 rw [e1,Int.tmod_eq_emod_of_nonneg h0]
 exact ⟨w64 (by omega) (by omega),by omega,by omega⟩
theorem made_loop (x0 x1 x2 x3 x4 x5 x6 x7 K M G : Int) (hx : ∀ x ∈ [x0,x1,x2,x3,x4,x5,x6,x7],U8 x) (n : Nat) (hn : n≤8) : ∀ (d i : Nat) (T : List Int),i + d=n→T.length=i→(∀ t ∈ T,1≤t∧t≤3)→∃ T',Ev (fun k=>thresherref04_Made.l0 k n i x0 x1 x2 x3 x4 x5 x6 x7 T K M G) (T',K,M,G)∧T'.length=n∧∀ t ∈ T',1≤t∧t≤3
 | 0,i,T,hi,hT,ht=>by
  refine ⟨T,Ev.succ ?_,by omega,ht⟩
  simp only [thresherref04_Made.l0]
  exact Ev.neg (by omega) (Ev.now _)
 | d + 1,i,T,hi,hT,ht=>by
  have hr : U8 (rd [x0,x1,x2,x3,x4,x5,x6,x7] i):=by
   rw [rd_lt _ i (by simp;omega)]
   exact hx _ (List.getElem_mem _)
  obtain ⟨e,l1,l2⟩:=made_one (m:=3) hr (by omega) (by omega)
  obtain ⟨T',h1,h2,h3⟩:=made_loop x0 x1 x2 x3 x4 x5 x6 x7 K M G hx n hn d (i + 1) (T ++ [1 + rd [x0,x1,x2,x3,x4,x5,x6,x7] i % 3]) (by omega) (by simp;omega) (by
   intro t h
   rcases List.mem_append.mp h with h|h
   ·exact ht t h
   ·rw [List.mem_singleton.mp h];exact ⟨l1,l2⟩)
  refine ⟨T',Ev.succ ?_,h2,h3⟩
  simp only [thresherref04_Made.l0]
  rw [e]
  clear e
  simp (disch:=omega) only [w64]
  exact Ev.pos (by omega) (Ev.pos (by omega) (Ev.pos (by omega) (Ev.pos (by omega) h1)))
theorem made_ev (x0 x1 x2 x3 x4 x5 x6 x7 a b c d : Int) (h0 : U8 x0) (h1 : U8 x1) (h2 : U8 x2) (h3 : U8 x3) (h4 : U8 x4) (h5 : U8 x5) (h6 : U8 x6) (h7 : U8 x7) (ha : U8 a) (hb : U8 b) (hc : U8 c) (hd : U8 d) : ∃ T K M G,Ev (fun k=>thresherref04_Made.f k x0 x1 x2 x3 x4 x5 x6 x7 a b c d) (T,K,M,G)∧Sch T K M G:=by
 obtain ⟨ea,a1,a2⟩:=made_one (m:=8) ha (by omega) (by omega)
 obtain ⟨n,hn⟩ : ∃ n : Nat,1 + a % 8=n:=⟨(1 + a % 8).toNat,by omega⟩
 obtain ⟨eb,b1,b2⟩:=made_one (m:=1 + a % 8) hb (by omega) (by omega)
 obtain ⟨ec,c1,c2⟩:=made_one (m:=3) hc (by omega) (by omega)
 obtain ⟨ed,d1,d2⟩:=made_one (m:=8) hd (by omega) (by omega)
 simp only [thresherref04_Made.f,ea,eb,ec,ed]
 clear ea eb ec ed
 rw [hn] at b1 b2 a1 a2 ⊢
 obtain ⟨T,e,l,t⟩:=made_loop x0 x1 x2 x3 x4 x5 x6 x7 (1 + b % n) (1 + c % 3) (1 + d % 8) (by
  intro x hx
  simp only [List.mem_cons,List.not_mem_nil,or_false] at hx
  rcases hx with rfl|rfl|rfl|rfl|rfl|rfl|rfl|rfl <;> assumption) n (by omega) n 0 [] (by omega) rfl (by simp)
 exact ⟨T,_,_,_,Ev.neg (by omega) e,⟨by omega,by omega,t,b1,by omega,c1,c2,d1,d2⟩⟩
end Go.Proofs.Ytapaldcdoahfeaa.P

/- The order of values and of rows. -/
namespace Go.Proofs.Ytapaldcdoahfeaa.P
open Go.RowKit Go.Proofs.YtapaldcdoahfeaaW.PrintWords Go.Proofs.YtapaldcdoahfeaaW.PrintLast Go.Proofs.YtapaldcdoahfeaaW.PrintMore
set_option linter.unusedVariables false
set_option linter.unusedSimpArgs false

theorem u8_tri (a b : UInt8) : (a < b∧¬ b < a) ∨ (b < a∧¬ a < b) ∨ (a=b∧¬ a < b∧¬ b < a):=by
 rcases Nat.lt_trichotomy a.toNat b.toNat with h|h|h
 ·exact Or.inl ⟨UInt8.lt_iff_toNat_lt.mpr h,fun h2=>by have:=UInt8.lt_iff_toNat_lt.mp h2;omega⟩
 ·have e : a=b:=UInt8.toNat_inj.mp h
  subst e
  exact Or.inr (Or.inr ⟨rfl,fun h2=>by have:=UInt8.lt_iff_toNat_lt.mp h2;omega,fun h2=>by have:=UInt8.lt_iff_toNat_lt.mp h2;omega⟩)
 ·exact Or.inr (Or.inl ⟨UInt8.lt_iff_toNat_lt.mpr h,fun h2=>by have:=UInt8.lt_iff_toNat_lt.mp h2;omega⟩)
theorem cb_anti : ∀ a b : List UInt8,Lib.compareBytes b a=- Lib.compareBytes a b
 | [],[]=>by simp [Lib.compareBytes]
 | [],_ :: _=>by simp [Lib.compareBytes]
 | _ :: _,[]=>by simp [Lib.compareBytes]
 | a :: xs,b :: ys=>by
  unfold Lib.compareBytes
  rcases u8_tri a b with ⟨h1,h2⟩|⟨h1,h2⟩|⟨h0,h1,h2⟩
  ·rw [if_neg h2,if_pos h1,if_pos h1];rfl
  ·rw [if_pos h1,if_neg h2,if_pos h1]
  ·rw [if_neg h2,if_neg h1,if_neg h1,if_neg h2];exact cb_anti xs ys
/-- A value's number is one of 64 bits. -/
def GV (v : XV) : Prop:=-9223372036854775808≤v.f0∧v.f0≤9223372036854775807
def sgn (x y : Int) : Int:=if x < y then -1 else if x > y then 1 else 0
def un (x : Int) : Int:=x % 18446744073709551616
def cmpV (t : Int) (a b : XV) : Int:=if fitT t a=true∧fitT t b=true then (if t=3 then Lib.compareBytes a.f1.data.toList b.f1.data.toList else if t=2 then sgn (un a.f0) (un b.f0) else sgn a.f0 b.f0) else 0
theorem cmpV_anti (t : Int) (a b : XV) : cmpV t b a=- cmpV t a b:=by
 unfold cmpV
 by_cases h : fitT t a=true∧fitT t b=true
 ·rw [if_pos h,if_pos h.symm]
  split
  ·exact cb_anti _ _
  ·split <;> (unfold sgn;split <;> split <;> (try split) <;> omega)
 ·rw [if_neg h,if_neg (fun q=>h q.symm)]
  rfl
def cmpC (t : Int) (a b : XV) : Int:=if t=3 then Lib.compareBytes a.f1.data.toList b.f1.data.toList else if t=2 then sgn (un a.f0) (un b.f0) else sgn a.f0 b.f0
theorem cmpV_fit {t : Int} {a b : XV} (ha : fitT t a=true) (hb : fitT t b=true) : cmpV t a b=cmpC t a b:=by
 unfold cmpV cmpC
 rw [if_pos ⟨ha,hb⟩]
/-- Rows by m of their values from i on. -/
def cmpFrom (T : List Int) (a b : List XV) : Nat→Nat→Int
 | 0,_=>0
 | m + 1,i=>if cmpV (rd T i) (rdV a i) (rdV b i)=0 then cmpFrom T a b m (i + 1) else cmpV (rd T i) (rdV a i) (rdV b i)
def cmpRow (T : List Int) (K : Int) (a b : List XV) : Int:=cmpFrom T a b (min (min (min K.toNat T.length) a.length) b.length) 0
theorem cmpFrom_anti (T : List Int) (a b : List XV) : ∀ m i,cmpFrom T b a m i=- cmpFrom T a b m i
 | 0,i=>by simp [cmpFrom]
 | m + 1,i=>by
  unfold cmpFrom
  rw [cmpV_anti _ (rdV a i) (rdV b i),cmpFrom_anti T a b m (i + 1)]
  by_cases h : cmpV (rd T i) (rdV a i) (rdV b i)=0
  ·rw [if_pos (by omega),if_pos h]
  ·rw [if_neg (by omega),if_neg h]
def FitAt (T : List Int) (a : List XV) (m i : Nat) : Prop:=∀ j : Nat,i≤j→j < i + m→fitT (rd T j) (rdV a j)=true∧GV (rdV a j)
end Go.Proofs.Ytapaldcdoahfeaa.P

/- A row made to fit fits. -/
namespace Go.Proofs.Ytapaldcdoahfeaa.P
open Go.RowKit Go.Proofs.YtapaldcdoahfeaaW.PrintWords Go.Proofs.YtapaldcdoahfeaaW.PrintLast Go.Proofs.YtapaldcdoahfeaaW.PrintMore
set_option linter.unusedVariables false
set_option linter.unusedSimpArgs false

theorem rdV_of (P : XV→Prop) (r : List XV) (h0 : P ⟨0,⟨#[]⟩⟩) (h : ∀ v ∈ r,P v) (i : Nat) : P (rdV r i):=by
 by_cases hi : i < r.length
 ·show P (rd_T40 r i)
  rw [rdV_lt r i hi]
  exact h _ (List.getElem_mem hi)
 ·show P (rd_T40 r i)
  rw [rdV_ge r i (by omega)]
  exact h0
theorem fit1_GV (t : Int) (v : XV) (h : GV v) : GV (fit1 t v):=by
 unfold fit1
 split
 ·exact ⟨by simp,by simp⟩
 ·exact h
theorem fitRow_at {T : List Int} {K M G : Int} (hS : Sch T K M G) (r : List XV) (hr : ∀ v ∈ r,GV v) (m : Nat) (hm : m≤T.length) : FitAt T (fitRow T r) m 0:=by
 intro j _ hj
 rw [rdV_fitRow T r j (by omega)]
 obtain ⟨h1,h2⟩:=hS.rdt j (by omega)
 exact ⟨fitT_fit1 _ _ h1 h2,fit1_GV _ _ (rdV_of GV r ⟨by simp,by simp⟩ hr j)⟩
theorem rdV_take (r : List XV) (n j : Nat) (h : j < n) : rdV (r.take n) j=rdV r j:=by
 show rd_T40 _ _=rd_T40 _ _
 by_cases hi : j < r.length
 ·rw [rdV_lt _ j (by rw [List.length_take];omega),rdV_lt r j hi,List.getElem_take]
 ·rw [rdV_ge _ j (by rw [List.length_take];omega),rdV_ge r j (by omega)]
end Go.Proofs.Ytapaldcdoahfeaa.P

/- Rows made to fit. -/
namespace Go.Proofs.Ytapaldcdoahfeaa.P
open Go.RowKit Go.Proofs.YtapaldcdoahfeaaW.PrintWords Go.Proofs.YtapaldcdoahfeaaW.PrintLast Go.Proofs.YtapaldcdoahfeaaW.PrintMore
set_option linter.unusedVariables false
set_option linter.unusedSimpArgs false

theorem fits_loop (T : List Int) (K M G : Int) (l : List (List XV)) (n : Nat) (hn : n≤1000000) (hT : T.length≤1000000) : ∀ (d i : Nat) (acc : List (List XV)),i + d=min l.length n→acc.length=i→Ev (fun k=>thresherref04_Fits.l0 k l n acc i T K M G) (acc ++ ((l.take n).drop i).map (fitRow T))
 | 0,i,acc,hi,ha=>by
  refine Ev.succ ?_
  simp only [thresherref04_Fits.l0]
  have e : (l.take n).drop i=[]:=List.drop_of_length_le (by simp;omega)
  rw [e]
  by_cases h : (i : Int) < l.length
  ·exact Ev.pos h (Ev.neg (by omega) ((Ev.now _).eq (by simp)))
  ·exact Ev.neg h ((Ev.now _).eq (by simp))
 | d + 1,i,acc,hi,ha=>by
  have h1 : i < l.length:=by omega
  have h2 : i < n:=by omega
  refine Ev.succ ?_
  simp only [thresherref04_Fits.l0]
  have e : (l.take n).drop i=l[i] :: (l.take n).drop (i + 1):=by
   rw [List.drop_eq_getElem_cons (by simp;omega)]
   simp
  rw [rdR_lt l i h1,e]
  simp (disch:=omega) only [w64]
  refine Ev.pos (by omega) (Ev.pos (by omega) (Ev.pos (by omega) (Ev.bind (fit_ev T K M G _ hT) (Ev.pos (by omega) ?_))))
  refine (fits_loop T K M G l n hn hT d (i + 1) (acc ++ [fitRow T l[i]]) (by omega) (by simp;omega)).eq ?_
  simp
theorem fits_ev (T : List Int) (K M G : Int) (l : List (List XV)) (n : Nat) (hn : n≤1000000) (hT : T.length≤1000000) : Ev (fun k=>thresherref04_Fits.f k T K M G l n) ((l.take n).map (fitRow T)):=by
 simp only [thresherref04_Fits.f]
 exact fits_loop T K M G l n hn hT (min l.length n) 0 [] (by omega) rfl
end Go.Proofs.Ytapaldcdoahfeaa.P

/- The document's Compare of values tells the same order. -/
namespace Go.Proofs.Ytapaldcdoahfeaa.P
open Go.RowKit Go.Proofs.YtapaldcdoahfeaaW.PrintWords Go.Proofs.YtapaldcdoahfeaaW.PrintLast Go.Proofs.YtapaldcdoahfeaaW.PrintMore
set_option linter.unusedVariables false
set_option linter.unusedSimpArgs false

theorem rfits_f (k : Nat) (t n : Int) (s : ByteArray) : thresherref03_Fits.f (k + 1) t n s=some (fitT t ⟨n,s⟩):=by
 unfold thresherref03_Fits.f fitT
 by_cases h1 : t=1
 ·rw [if_pos h1,if_pos (Or.inl h1)]
  subst h1
  rfl
 ·rw [if_neg h1]
  by_cases h2 : t=2
  ·rw [if_pos (Or.inr h2)]
   subst h2
   rfl
  ·rw [if_neg (by omega),show (t == 2)=false by simpa using h2]
   simp only [thresherref03_Fits.j0,Bool.false_eq_true,if_false]
   by_cases h3 : t=3
   ·rw [if_pos h3,if_pos h3]
    split <;> rfl
   ·rw [if_neg h3,if_neg h3]
theorem rfits_ev (t n : Int) (s : ByteArray) : Ev (fun k=>thresherref03_Fits.f k t n s) (fitT t ⟨n,s⟩):=Ev.succ ⟨0,fun k _=>rfits_f k t n s⟩
theorem both_ev (t : Int) (a b : XV) : Ev (fun k=>thresherref03_both.f k t a.f0 a.f1 b.f0 b.f1) (fitT t a && fitT t b):=by
 simp only [thresherref03_both.f]
 refine Ev.bind (rfits_ev t a.f0 a.f1) (Ev.bind (rfits_ev t b.f0 b.f1) ?_)
 by_cases ha : fitT t a=true
 ·exact (Ev.pos ha (Ev.now _)).eq (by rw [ha,Bool.true_and])
 ·exact (Ev.neg ha (Ev.now _)).eq (by rw [Bool.eq_false_iff.mpr ha,Bool.false_and])
theorem bt_lt (s : ByteArray) (i : Nat) (h : i < s.size) : bt s i=((s.data.toList[i]'(by simpa using h)).toNat : Int):=by
 unfold bt
 rw [dif_pos (by simpa using h)]
 rfl
theorem texts_loop (a b : ByteArray) (ha : a.size≤9223372036854775807) : ∀ (d i : Nat),i + d=a.size→i≤b.size→Ev (fun k=>thresherref03_texts.l0 k a b i) (Lib.compareBytes (a.data.toList.drop i) (b.data.toList.drop i))
 | 0,i,hi,hb=>by
  have hn : a.data.toList.length=a.size:=by simp
  have hn2 : b.data.toList.length=b.size:=by simp
  refine Ev.succ ?_
  simp only [thresherref03_texts.l0]
  refine Ev.neg (by omega) (Ev.succ ?_)
  simp only [thresherref03_texts.j1]
  refine Ev.neg (by simp) ?_
  rw [List.drop_of_length_le (by omega : a.data.toList.length≤i)]
  by_cases h : i < b.size
  ·rw [List.drop_eq_getElem_cons (by omega : i < b.data.toList.length)]
   exact Ev.pos (by omega) (Ev.now _)
  ·rw [List.drop_of_length_le (by omega : b.data.toList.length≤i)]
   exact Ev.neg (by omega) (Ev.neg (by omega) (Ev.now _))
 | d + 1,i,hi,hb=>by
  have hn : a.data.toList.length=a.size:=by simp
  have hn2 : b.data.toList.length=b.size:=by simp
  have h1 : i < a.data.toList.length:=by omega
  refine Ev.succ ?_
  simp only [thresherref03_texts.l0]
  refine Ev.pos (by omega) (Ev.succ ?_)
  simp only [thresherref03_texts.j1]
  rw [List.drop_eq_getElem_cons h1]
  by_cases h : i < b.size
  ·have h2 : i < b.data.toList.length:=by omega
   rw [List.drop_eq_getElem_cons h2,bt_lt a i (by omega),bt_lt b i h]
   simp (disch:=omega) only [w64]
   unfold Lib.compareBytes
   refine Ev.pos (by simpa using h) (Ev.pos (by omega) (Ev.pos (by omega) (Ev.pos (by omega) ?_)))
   by_cases p : a.data.toList[i] < b.data.toList[i]
   ·rw [if_pos p]
    exact Ev.pos (by have:=UInt8.lt_iff_toNat_lt.mp p;omega) (Ev.now _)
   ·rw [if_neg p]
    refine Ev.neg (fun q=>p (UInt8.lt_iff_toNat_lt.mpr (by omega))) ?_
    by_cases r : b.data.toList[i] < a.data.toList[i]
    ·rw [if_pos r]
     exact Ev.pos (by have:=UInt8.lt_iff_toNat_lt.mp r;omega) (Ev.now _)
    ·rw [if_neg r]
     exact Ev.neg (fun q=>r (UInt8.lt_iff_toNat_lt.mpr (by omega))) (texts_loop a b ha d (i + 1) (by omega) (by omega))
  ·rw [List.drop_of_length_le (by omega : b.data.toList.length≤i)]
   exact Ev.neg (by simpa using h) (Ev.neg (by omega) (Ev.pos (by omega) (Ev.now _)))
theorem texts_ev (a b : ByteArray) (ha : a.size≤9223372036854775807) : Ev (fun k=>thresherref03_texts.f k a b) (Lib.compareBytes a.data.toList b.data.toList):=by
 simp only [thresherref03_texts.f]
 exact texts_loop a b ha a.size 0 (by omega) (by omega)
theorem rcmpj_ev (p q : Bool) (r : Int) (h : r=if p=true then -1 else if q=true then 1 else 0) : Ev (fun k=>thresherref03_Compare.j0 k p q) r:=by
 refine Ev.succ ⟨0,fun k _=>?_⟩
 simp only [thresherref03_Compare.j0]
 rw [h]
 cases p <;> cases q <;> rfl
theorem rcmp_ev (t : Int) (a b : XV) (ga : GV a) (gb : GV b) (hs : a.f1.size≤9223372036854775807) : Ev (fun k=>thresherref03_Compare.f k t a.f0 a.f1 b.f0 b.f1) (cmpV t a b):=by
 obtain ⟨g1,g2⟩:=ga
 obtain ⟨g3,g4⟩:=gb
 simp only [thresherref03_Compare.f]
 refine Ev.bind (both_ev t a b) ?_
 by_cases h : fitT t a=true∧fitT t b=true
 ·rw [cmpV_fit h.1 h.2]
  refine Ev.pos (by rw [h.1,h.2];rfl) ?_
  by_cases e2 : t=2
  ·have ec : cmpC t a b=sgn (un a.f0) (un b.f0):=by unfold cmpC;rw [if_neg (by omega),if_pos e2]
   rw [ec]
   refine Ev.pos e2 ?_
   by_cases hn : ((decide (a.f0 < 0)) != (decide (b.f0 < 0)))=true
   ·refine Ev.pos hn (rcmpj_ev _ _ _ ?_)
    simp only [decide_eq_true_eq]
    unfold sgn un
    by_cases p : a.f0 < 0
    ·by_cases q : b.f0 < 0
     ·simp [p,q] at hn
     ·repeat' split
      all_goals omega
    ·by_cases q : b.f0 < 0
     ·repeat' split
      all_goals omega
     ·simp [p,q] at hn
   ·refine Ev.neg hn (rcmpj_ev _ _ _ ?_)
    simp only [decide_eq_true_eq]
    unfold sgn un
    by_cases p : a.f0 < 0
    ·by_cases q : b.f0 < 0
     ·repeat' split
      all_goals omega
     ·simp [p,q] at hn
    ·by_cases q : b.f0 < 0
     ·simp [p,q] at hn
     ·repeat' split
      all_goals omega
  ·refine Ev.neg e2 ?_
   by_cases e3 : t=3
   ·exact (Ev.pos e3 (Ev.bind (texts_ev _ _ hs) (Ev.now _))).eq (by unfold cmpC;rw [if_pos e3])
   ·have ec : cmpC t a b=sgn a.f0 b.f0:=by unfold cmpC;rw [if_neg e3,if_neg e2]
    rw [ec]
    refine Ev.neg e3 (rcmpj_ev _ _ _ ?_)
    simp only [decide_eq_true_eq]
    rfl
 ·exact (Ev.neg (fun q=>h (by simpa using q)) (Ev.now _)).eq (by unfold cmpV;rw [if_neg h])
/-- Values as Go has them. -/
def GR (r : List XV) : Prop:=∀ v ∈ r,GV v∧v.f1.size≤9223372036854775807
theorem GR.rdV {r : List XV} (h : GR r) (i : Nat) : GV (rdV r i)∧(P.rdV r i).f1.size≤9223372036854775807:=by
 by_cases hi : i < r.length
 ·show GV (rd_T40 r i)∧(rd_T40 r i).f1.size≤_
  rw [rdV_lt r i hi]
  exact h _ (List.getElem_mem hi)
 ·show GV (rd_T40 r i)∧(rd_T40 r i).f1.size≤_
  rw [rdV_ge r i (by omega)]
  exact ⟨⟨by simp,by simp⟩,by decide⟩
end Go.Proofs.Ytapaldcdoahfeaa.P

/- A schema of a shape. -/
namespace Go.Proofs.Ytapaldcdoahfeaa.P
open Go.RowKit Go.Proofs.YtapaldcdoahfeaaW.PrintWords Go.Proofs.YtapaldcdoahfeaaW.PrintLast Go.Proofs.YtapaldcdoahfeaaW.PrintMore
theorem u8_of {x : Int} (h : (Lit.int .u8 x).wf=true) : U8 x:=wf_u8 h
theorem shape_ev {x : S24} (h : gd24 x) : ∃ T K M G,Ev (fun k=>thresherref04_Made.f k x.f0.f0 x.f0.f1 x.f0.f2 x.f0.f3 x.f0.f4 x.f0.f5 x.f0.f6 x.f0.f7 x.f1 x.f2 x.f3 x.f4) (T,K,M,G)∧Sch T K M G:=by
 obtain ⟨⟨h0,h1,h2,h3,h4,h5,h6,h7⟩,ha,hb,hc,hd⟩:=h
 exact made_ev _ _ _ _ _ _ _ _ _ _ _ _ (u8_of h0) (u8_of h1) (u8_of h2) (u8_of h3) (u8_of h4) (u8_of h5) (u8_of h6) (u8_of h7) (u8_of ha) (u8_of hb) (u8_of hc) (u8_of hd)
end Go.Proofs.Ytapaldcdoahfeaa.P

/- value.Compare tells the order of values. -/
namespace Go.Proofs.Ytapaldcdoahfeaa.P
open Go.RowKit Go.Proofs.YtapaldcdoahfeaaW.PrintWords Go.Proofs.YtapaldcdoahfeaaW.PrintLast Go.Proofs.YtapaldcdoahfeaaW.PrintMore
set_option linter.unusedVariables false
set_option linter.unusedSimpArgs false

theorem vfits_f (k : Nat) (t n : Int) (s : ByteArray) : value_Fits.f (k + 1) t n s=some (fitT t ⟨n,s⟩):=by
 unfold value_Fits.f fitT
 by_cases h1 : t=1
 ·rw [if_pos h1,if_pos (Or.inl h1)]
  subst h1
  rfl
 ·rw [if_neg h1]
  by_cases h2 : t=2
  ·rw [if_pos (Or.inr h2)]
   subst h2
   rfl
  ·rw [if_neg (by omega),show (t == 2)=false by simpa using h2]
   simp only [value_Fits.j0,Bool.false_eq_true,if_false]
   by_cases h3 : t=3
   ·rw [if_pos h3,if_pos h3]
    split <;> rfl
   ·rw [if_neg h3,if_neg h3]
theorem vfits_ev (t n : Int) (s : ByteArray) : Ev (fun k=>value_Fits.f k t n s) (fitT t ⟨n,s⟩):=Ev.succ ⟨0,fun k _=>vfits_f k t n s⟩
theorem cmpu_f (x y : Int) : cmp_Compare_uint64.f x y=some (sgn x y):=by
 simp only [cmp_Compare_uint64.f,cmp_isNaN_uint64.f,bne_self_eq_false,Option.bind_some,Bool.false_eq_true,if_false]
 unfold sgn
 split
 ·rfl
 ·split <;> rfl
theorem cmpi_f (x y : Int) : cmp_Compare_int64.f x y=some (sgn x y):=by
 simp only [cmp_Compare_int64.f,cmp_isNaN_int64.f,bne_self_eq_false,Option.bind_some,Bool.false_eq_true,if_false]
 unfold sgn
 split
 ·rfl
 ·split <;> rfl
theorem vcmp_ev (t : Int) (a b : XV) : Ev (fun k=>value_Compare.f k t a.f0 a.f1 b.f0 b.f1) (cmpV t a b):=by
 simp only [value_Compare.f]
 refine Ev.bind (vfits_ev t a.f0 a.f1) ?_
 by_cases ha : fitT t a=true
 ·refine Ev.pos ha (Ev.bind (vfits_ev t b.f0 b.f1) (Ev.succ ?_))
  simp only [value_Compare.j0]
  by_cases hb : fitT t b=true
  ·rw [cmpV_fit ha hb]
   refine Ev.neg (fun h=>?_) ?_
   ·rw [show fitT t ⟨b.f0,b.f1⟩=true from hb] at h
    exact absurd h (by simp)
   ·by_cases e3 : t=3
    ·refine (Ev.pos e3 (Ev.bindc rfl (Ev.now _))).eq ?_
     unfold cmpC
     rw [if_pos e3]
    ·refine Ev.neg e3 ?_
     by_cases e2 : t=2
     ·refine (Ev.pos e2 (Ev.bindc (cmpu_f _ _) (Ev.now _))).eq ?_
      unfold cmpC
      rw [if_neg e3,if_pos e2]
      rfl
     ·refine (Ev.neg e2 (Ev.bindc (cmpi_f _ _) (Ev.now _))).eq ?_
      unfold cmpC
      rw [if_neg e3,if_neg e2]
  ·refine (Ev.pos ?_ (Ev.now _)).eq ?_
   ·rw [show fitT t ⟨b.f0,b.f1⟩=false from Bool.eq_false_iff.mpr hb]
    rfl
   ·unfold cmpV
    rw [if_neg (fun h=>hb h.2)]
 ·refine Ev.neg ha (Ev.succ ?_)
  simp only [value_Compare.j0]
  refine (Ev.pos (by simp) (Ev.now _)).eq ?_
  unfold cmpV
  rw [if_neg (fun h=>ha h.1)]
end Go.Proofs.Ytapaldcdoahfeaa.P

/- The document's Compare of rows tells the same order. -/
namespace Go.Proofs.Ytapaldcdoahfeaa.P
open Go.RowKit Go.Proofs.YtapaldcdoahfeaaW.PrintWords Go.Proofs.YtapaldcdoahfeaaW.PrintLast Go.Proofs.YtapaldcdoahfeaaW.PrintMore
set_option linter.unusedVariables false
set_option linter.unusedSimpArgs false

end Go.Proofs.Ytapaldcdoahfeaa.P

/- Rows that fit, as far as they go: their order. -/
namespace Go.Proofs.Ytapaldcdoahfeaa.P
open Go.RowKit Go.Proofs.YtapaldcdoahfeaaW.PrintWords Go.Proofs.YtapaldcdoahfeaaW.PrintLast Go.Proofs.YtapaldcdoahfeaaW.PrintMore
set_option linter.unusedVariables false
set_option linter.unusedSimpArgs false

structure RowOk (T : List Int) (a : List XV) : Prop where
 len : a.length≤T.length
 fit : FitAt T a a.length 0
 gr : GR a
theorem FitAt.mono {T : List Int} {a : List XV} {m m' : Nat} (h : FitAt T a m 0) (hm : m'≤m) : FitAt T a m' 0:=fun j h1 h2=>h j h1 (by omega)
theorem fit1_size (t : Int) (v : XV) (h : v.f1.size≤9223372036854775807) : (fit1 t v).f1.size≤9223372036854775807:=by
 unfold fit1
 split
 ·show (if (v.f1.size : Int) > 60 then v.f1.extract 0 60 else v.f1).size≤_
  split
  ·rw [ByteArray.size_extract];omega
  ·exact h
 ·show (0 : Nat)≤_;omega
theorem fitRow_ok {T : List Int} {K M G : Int} (hS : Sch T K M G) (r : List XV) (hr : GR r) : RowOk T (fitRow T r):=by
 refine ⟨by rw [fitRow_length];omega,by rw [fitRow_length];exact fitRow_at hS r (fun v h=>(hr v h).1) _ (Nat.le_refl _),fun v hv=>?_⟩
 obtain ⟨i,hi,rfl⟩:=List.getElem_of_mem hv
 have hi2 : i < T.length:=by rwa [fitRow_length] at hi
 have e:=rdV_fitRow T r i hi2
 rw [show rdV (fitRow T r) i=(fitRow T r)[i] from rdV_lt _ i hi] at e
 rw [e]
 have:=hr.rdV i
 exact ⟨fit1_GV _ _ this.1,fit1_size _ _ this.2⟩
theorem RowOk.take {T : List Int} {a : List XV} (h : RowOk T a) (n : Nat) : RowOk T (a.take n):=by
 have hl : (a.take n).length≤a.length:=by rw [List.length_take];omega
 refine ⟨by have:=h.len;omega,fun j h1 h2=>?_,fun v hv=>h.gr v (List.mem_of_mem_take hv)⟩
 rw [List.length_take] at h2
 rw [rdV_take a n j (by omega)]
 exact h.fit j h1 (by omega)
theorem cmpRow_anti (T : List Int) (K : Int) (a b : List XV) : cmpRow T K b a=- cmpRow T K a b:=by
 unfold cmpRow
 rw [cmpFrom_anti,show min (min (min K.toNat T.length) b.length) a.length=min (min (min K.toNat T.length) a.length) b.length by omega]
theorem cmpRow_self (T : List Int) (K : Int) (a : List XV) : cmpRow T K a a=0:=by have:=cmpRow_anti T K a a;omega
/-- A row that fits, and has all its key. -/
structure Full (T : List Int) (K : Int) (a : List XV) : Prop where
 ok : RowOk T a
 key : min K.toNat T.length≤a.length
theorem fitRow_full {T : List Int} {K M G : Int} (hS : Sch T K M G) (r : List XV) (hr : GR r) : Full T K (fitRow T r):=⟨fitRow_ok hS r hr,by rw [fitRow_length];omega⟩
/-- Rows in order. -/
def InOrd (T : List Int) (K : Int) (l : List (List XV)) : Prop:=l.Pairwise (fun a b=>cmpRow T K a b≤0)
theorem InOrd.at {T : List Int} {K : Int} {l : List (List XV)} (h : InOrd T K l) {i j : Nat} (hij : i≤j) (hj : j < l.length) : cmpRow T K (rdR l i) (rdR l j)≤0:=by
 rw [show rdR l i=l[i] from rdR_lt l i (by omega),show rdR l j=l[j] from rdR_lt l j hj]
 rcases Nat.eq_or_lt_of_le hij with e|h1
 ·subst e;rw [cmpRow_self];omega
 ·exact List.pairwise_iff_getElem.mp h i j (by omega) hj h1
end Go.Proofs.Ytapaldcdoahfeaa.P

/- The aggregates, plain: what agg.Rows tells, and that the order of rows does not matter. -/
namespace Go.Proofs.Ytapaldcdoahfeaa.P
open Go.RowKit Go.Proofs.YtapaldcdoahfeaaW.PrintWords Go.Proofs.YtapaldcdoahfeaaW.PrintLast Go.Proofs.YtapaldcdoahfeaaW.PrintMore
set_option linter.unusedVariables false
set_option linter.unusedSimpArgs false

abbrev XC:=S42
abbrev XG:=S33
/-- The one that q puts first; the first one, if they are the same. -/
def pickV (q : XV→XV→Int) (a b : XV) : XV:=if q b a < 0 then b else a
def plusV (a b : XV) : XV:=⟨wrap64 (a.f0 + b.f0),⟨#[]⟩⟩
def joinV (kd t : Int) (a b : XV) : XV:=if kd≤2 then plusV a b else if kd=3 then pickV (cmpV t) a b else pickV (fun x y=>cmpV t y x) a b
def bothV (kd t : Int) (c : XC) (v : XV) : XC:=if c.f0=true then ⟨true,joinV kd t c.f1 v⟩ else ⟨true,v⟩
def foldV (kd t col : Int) (c : XC) (rows : List (List XV)) : XC:=rows.foldl (fun c r=>bothV kd t c (aggOf kd (rd_T40 r col))) c
def oneV (T : List Int) (rows : List (List XV)) (x : XG) : XC:=foldV x.f0 (rd T x.f1) x.f1 (aggFirst x.f0) rows
def OkAgg (T : List Int) (x : XG) : Prop:=1≤x.f0∧x.f0≤4∧0≤x.f1∧x.f1 < (T.length : Int)

theorem rdG_lt (l : List XG) (i : Nat) (h : i < l.length) : rd_T33 l (i : Int)=l[i]:=by unfold rd_T33;simp [List.getD,h]
theorem aggJ_ev (kd t : Int) (a b : XV) : Ev (fun k=>aggJ k kd t a b) ((joinV kd t a b).f0,(joinV kd t a b).f1):=by
 unfold aggJ joinV
 by_cases h2 : kd≤2
 ·simp only [if_pos h2]
  exact Ev.now _
 ·simp only [if_neg h2]
  by_cases h3 : kd=3
  ·simp only [if_pos h3]
   unfold agg_least.f pickV
   refine Ev.bind (vcmp_ev t b a) ?_
   by_cases h : cmpV t b a < 0
   ·simp only [if_pos h];exact Ev.now _
   ·simp only [if_neg h];exact Ev.now _
  ·simp only [if_neg h3]
   unfold agg_most.f pickV
   refine Ev.bind (vcmp_ev t b a) ?_
   have e:=cmpV_anti t a b
   by_cases h : cmpV t b a > 0
   ·rw [if_pos (show cmpV t a b < 0 by omega)]
    simp only [if_pos h];exact Ev.now _
   ·rw [if_neg (show ¬ cmpV t a b < 0 by omega)]
    simp only [if_neg h];exact Ev.now _
theorem aggBoth_ev (kd t : Int) (c : XC) (v : XV) : Ev (fun k=>aggBoth k kd t c v) (bothV kd t c v):=by
 unfold aggBoth bothV
 by_cases h : c.f0=true
 ·simp only [if_pos h]
  exact Ev.bind (aggJ_ev kd t c.f1 v) (Ev.now _)
 ·simp only [if_neg h]
  exact Ev.now _
theorem aggFold_ev (kd t col : Int) : ∀ (rows : List (List XV)) (c : XC),(∀ r ∈ rows,col < (r.length : Int))→Ev (fun k=>aggFold k kd t col c rows) (foldV kd t col c rows)
 | [],c,_=>Ev.now _
 | r :: rs,c,h=>by
  simp only [aggFold]
  refine Ev.pos (h r List.mem_cons_self) (Ev.bind (aggBoth_ev kd t c _) ?_)
  exact aggFold_ev kd t col rs _ (fun r' hr'=>h r' (List.mem_cons_of_mem _ hr'))
theorem aggAll_ev (T : List Int) (rows : List (List XV)) (hw : ∀ r ∈ rows,r.length=T.length) : ∀ l : List XG,(∀ x ∈ l,OkAgg T x)→Ev (fun k=>aggAll k T rows l) (l.map (oneV T rows))
 | [],_=>Ev.now _
 | x :: l,h=>by
  obtain ⟨h1,h2,h3,h4⟩:=h x List.mem_cons_self
  simp only [aggAll]
  refine Ev.bind (a:=oneV T rows x) ?_ (Ev.bind (aggAll_ev T rows hw l (fun y hy=>h y (List.mem_cons_of_mem _ hy))) (Ev.now _))
  unfold aggOne
  exact Ev.pos ⟨h1,h2,h3,h4⟩ (aggFold_ev _ _ _ _ _ (fun r hr=>by rw [hw r hr];exact h4))
theorem agg_ev (T : List Int) (a b d : Int) (rows : List (List XV)) (hw : ∀ r ∈ rows,r.length=T.length) (hn : rows.length≤1000) (l : List XG) (hl : l.length≤1000) (h : ∀ x ∈ l,OkAgg T x) : Ev (fun k=>agg_Rows.f k T a b d l rows) (l.map (oneV T rows)):=by
 unfold agg_Rows.f
 exact Ev.pos ⟨by omega,by omega⟩ (aggAll_ev T rows hw l h)

end Go.Proofs.Ytapaldcdoahfeaa.P

/- The document's Sort puts rows in order. -/
namespace Go.Proofs.Ytapaldcdoahfeaa.P
open Go.RowKit Go.Proofs.YtapaldcdoahfeaaW.PrintWords Go.Proofs.YtapaldcdoahfeaaW.PrintLast Go.Proofs.YtapaldcdoahfeaaW.PrintMore
set_option linter.unusedVariables false
set_option linter.unusedSimpArgs false

/-- A row put in, behind those that are not above it. -/
def insR (T : List Int) (K : Int) (x : List XV) : List (List XV)→List (List XV)
 | []=>[x]
 | y :: l=>if cmpRow T K y x > 0 then x :: y :: l else y :: insR T K x l
def sortR (T : List Int) (K : Int) (l acc : List (List XV)) : List (List XV):=l.foldl (fun a x=>insR T K x a) acc
end Go.Proofs.Ytapaldcdoahfeaa.P

/- thresherref20: Same, Fit; the example; the schema of a shape: plain. -/
namespace Go.Proofs.Ytapaldcdoahfeaa.P
open Go.RowKit Go.Proofs.YtapaldcdoahfeaaW.PrintWords Go.Proofs.YtapaldcdoahfeaaW.PrintLast Go.Proofs.YtapaldcdoahfeaaW.PrintMore
set_option linter.unusedVariables false
set_option linter.unusedSimpArgs false
theorem shown20_ev : Ev (fun k=>thresherlaw20_shown.f k) true:=Ev.of thresherlaw20_shown.mono (k:=12) (by kernel_rfl)
theorem made20_ev {x : S24} (h : gd24 x) : ∃ T K M G,Ev (fun k=>thresherlaw20_made.f k x.f0.f0 x.f0.f1 x.f0.f2 x.f0.f3 x.f0.f4 x.f0.f5 x.f0.f6 x.f0.f7 x.f1 x.f2 x.f3 x.f4) (T,K,M,G)∧Sch T K M G:=by
 obtain ⟨T,K,M,G,h1,h2⟩:=shape_ev h
 exact ⟨T,K,M,G,Ev.bind h1 (Ev.now _),h2⟩
theorem same20_loop (a : List XC) (ha : a.length≤1000000) : ∀ (d i : Nat),i + d=a.length→Ev (fun k=>thresherref20_Same.l0 k a a i) true
 | 0,i,hi=>by
  refine Ev.succ ?_
  simp only [thresherref20_Same.l0]
  exact Ev.neg (by omega) (Ev.now _)
 | d + 1,i,hi=>by
  refine Ev.succ ?_
  simp only [thresherref20_Same.l0]
  simp (disch:=omega) only [w64]
  exact Ev.pos (by omega) (Ev.pos (by omega) (Ev.pos (by omega) (Ev.neg (by simp) (same20_loop a ha d (i + 1) (by omega)))))
theorem same20_ev (a : List XC) (ha : a.length≤1000000) : Ev (fun k=>thresherref20_Same.f k a a) true:=by
 simp only [thresherref20_Same.f]
 exact Ev.pos (by simp) (same20_loop a ha a.length 0 (by omega))
end Go.Proofs.Ytapaldcdoahfeaa.P

/- thresherref20.Fit: aggregates that may be: plain. -/
namespace Go.Proofs.Ytapaldcdoahfeaa.P
open Go.RowKit Go.Proofs.YtapaldcdoahfeaaW.PrintWords Go.Proofs.YtapaldcdoahfeaaW.PrintLast Go.Proofs.YtapaldcdoahfeaaW.PrintMore
set_option linter.unusedVariables false
set_option linter.unusedSimpArgs false
theorem bits_three (x : Int) : 0≤Go.bits .and .i64 x 3∧Go.bits .and .i64 x 3≤3:=by
 have h : (BitVec.ofInt 64 x &&& BitVec.ofInt 64 3).toNat≤3:=by
  rw [BitVec.toNat_and]
  exact Nat.and_le_right
 have e : Go.bits .and .i64 x 3=IntKind.i64.wrap ((BitVec.ofInt 64 x &&& BitVec.ofInt 64 3).toNat : Int):=rfl
 rw [e,IntKind.wrap_i64]
 omega
def OkFit (T : List Int) (x : XG) : Prop:=OkAgg T x∧(x.f0=2→rd T x.f1≠3)∧(x.f0=1→x.f1=0)
section
variable (T : List Int) (K M G : Int) (hT : 1≤T.length) (hT8 : T.length≤1000000) (l : List XG)
include hT hT8
theorem fit20_j4 (acc : List XG) (i : Nat) (ha : acc.length≤1000) (col q : Int) (h0 : 0≤col) (h1 : col < (T.length : Int)) (q1 : 1≤q) (q4 : q≤4) (h3 : q=2→rd T col≠3) (hi : i≤1000)
  (next : ∀ x,OkFit T x→∃ R,Ev (fun k=>thresherref20_Fit.l0 k l 16 (acc ++ [x]) ((i : Int) + 1) T K M G) R∧R.length≤16∧∀ x ∈ R,OkFit T x) :
  ∃ R,Ev (fun k=>thresherref20_Fit.j4 k l 16 acc i col q T K M G) R∧R.length≤16∧∀ x ∈ R,OkFit T x:=by
 by_cases c : q=1
 ·obtain ⟨R,e,h⟩:=next ⟨q,0⟩ ⟨⟨q1,q4,Int.le_refl _,by show (0 : Int) < _;omega⟩,fun h=>by simp only at h;omega,fun _=>rfl⟩
  refine ⟨R,Ev.succ ?_,h⟩
  simp only [thresherref20_Fit.j4]
  simp (disch:=omega) only [w64]
  exact Ev.pos c (Ev.pos (by omega) e)
 ·obtain ⟨R,e,h⟩:=next ⟨q,col⟩ ⟨⟨q1,q4,h0,h1⟩,h3,fun h=>absurd h c⟩
  refine ⟨R,Ev.succ ?_,h⟩
  simp only [thresherref20_Fit.j4]
  simp (disch:=omega) only [w64]
  exact Ev.neg c (Ev.pos (by omega) e)
theorem fit20_j3 (acc : List XG) (i : Nat) (ha : acc.length≤1000) (col q : Int) (b : Bool) (h0 : 0≤col) (h1 : col < (T.length : Int)) (q1 : 1≤q) (q4 : q≤4) (h3 : b=false→q=2→rd T col≠3) (hi : i≤1000)
  (next : ∀ x,OkFit T x→∃ R,Ev (fun k=>thresherref20_Fit.l0 k l 16 (acc ++ [x]) ((i : Int) + 1) T K M G) R∧R.length≤16∧∀ x ∈ R,OkFit T x) :
  ∃ R,Ev (fun k=>thresherref20_Fit.j3 k l 16 acc i col q b T K M G) R∧R.length≤16∧∀ x ∈ R,OkFit T x:=by
 cases b with
 | true =>
  obtain ⟨R,e,h⟩:=fit20_j4 T K M G hT hT8 l acc i ha col 4 h0 h1 (by omega) (by omega) (fun h=>by omega) hi next
  refine ⟨R,Ev.succ ?_,h⟩
  simp only [thresherref20_Fit.j3]
  exact Ev.pos trivial e
 | false =>
  obtain ⟨R,e,h⟩:=fit20_j4 T K M G hT hT8 l acc i ha col q h0 h1 q1 q4 (h3 rfl) hi next
  refine ⟨R,Ev.succ ?_,h⟩
  simp only [thresherref20_Fit.j3]
  exact Ev.neg (by simp) e
theorem fit20_j2 (acc : List XG) (i : Nat) (ha : acc.length≤1000) (col : Int) (h0 : 0≤col) (h1 : col < (T.length : Int)) (hi : i≤1000) (hil : i < l.length)
  (next : ∀ x,OkFit T x→∃ R,Ev (fun k=>thresherref20_Fit.l0 k l 16 (acc ++ [x]) ((i : Int) + 1) T K M G) R∧R.length≤16∧∀ x ∈ R,OkFit T x) :
  ∃ R,Ev (fun k=>thresherref20_Fit.j2 k l 16 acc i col T K M G) R∧R.length≤16∧∀ x ∈ R,OkFit T x:=by
 obtain ⟨q,hq⟩ : ∃ q,q=wrap64 (1 + Go.bits .and .i64 ((rd_T33 l (i : Int)).f0) 3):=⟨_,rfl⟩
 have hb:=bits_three ((rd_T33 l (i : Int)).f0)
 have hqr : 1≤q∧q≤4:=by
  rw [hq,w64 (by omega) (by omega)]
  omega
 by_cases c : q=2
 ·obtain ⟨R,e,h⟩:=fit20_j3 T K M G hT hT8 l acc i ha col q (rd T col == 3) h0 h1 hqr.1 hqr.2 (fun hb _=>by simpa using hb) hi next
  refine ⟨R,Ev.succ ?_,h⟩
  simp only [thresherref20_Fit.j2]
  rw [← hq]
  clear hq
  exact Ev.pos (by omega) (Ev.pos (by omega) (Ev.pos c (Ev.pos h0 (Ev.pos h1 e))))
 ·obtain ⟨R,e,h⟩:=fit20_j3 T K M G hT hT8 l acc i ha col q false h0 h1 hqr.1 hqr.2 (fun _ h=>absurd h c) hi next
  refine ⟨R,Ev.succ ?_,h⟩
  simp only [thresherref20_Fit.j2]
  rw [← hq]
  clear hq
  exact Ev.pos (by omega) (Ev.pos (by omega) (Ev.neg c e))
theorem fit20_loop : ∀ (d i : Nat) (acc : List XG),i + d=min l.length 16→acc.length=i→(∀ x ∈ acc,OkFit T x) →
  ∃ R,Ev (fun k=>thresherref20_Fit.l0 k l 16 acc i T K M G) R∧R.length≤16∧∀ x ∈ R,OkFit T x
 | 0,i,acc,hi,ha,hA=>by
  refine ⟨acc,Ev.succ ?_,by omega,hA⟩
  simp only [thresherref20_Fit.l0]
  by_cases c : (i : Int) < (l.length : Int)
  ·refine Ev.pos c (Ev.succ ?_)
   simp only [thresherref20_Fit.j1]
   exact Ev.neg (by rw [decide_eq_false (by omega)];simp) (Ev.now _)
  ·refine Ev.neg c (Ev.succ ?_)
   simp only [thresherref20_Fit.j1]
   exact Ev.neg (by simp) (Ev.now _)
 | d + 1,i,acc,hi,ha,hA=>by
  have next : ∀ x,OkFit T x→∃ R,Ev (fun k=>thresherref20_Fit.l0 k l 16 (acc ++ [x]) ((i : Int) + 1) T K M G) R∧R.length≤16∧∀ x ∈ R,OkFit T x:=fun x hx =>
   fit20_loop d (i + 1) (acc ++ [x]) (by omega) (by rw [List.length_append,ha];rfl) (fun y hy=>by
    rcases List.mem_append.mp hy with h|h
    ·exact hA y h
    ·rw [List.mem_singleton.mp h];exact hx)
  obtain ⟨y,hy⟩ : ∃ y,y=Int.tmod ((rd_T33 l (i : Int)).f1) (T.length : Int):=⟨_,rfl⟩
  have hy1 : -(T.length : Int) < y∧y < T.length:=by
   rw [hy]
   have a1:=Int.tmod_lt_of_pos ((rd_T33 l (i : Int)).f1) (show 0 < (T.length : Int) by omega)
   have a2:=Int.lt_tmod_of_pos ((rd_T33 l (i : Int)).f1) (show 0 < (T.length : Int) by omega)
   exact ⟨a2,a1⟩
  by_cases c : y < 0
  ·obtain ⟨R,e,h⟩:=fit20_j2 T K M G hT hT8 l acc i (by omega) (y + T.length) (by omega) (by omega) (by omega) (by omega) next
   refine ⟨R,Ev.succ ?_,h⟩
   simp only [thresherref20_Fit.l0]
   refine Ev.pos (by omega) (Ev.succ ?_)
   simp only [thresherref20_Fit.j1]
   rw [← hy]
   clear hy
   simp (disch:=omega) only [w64]
   exact Ev.pos (by rw [decide_eq_true (by omega)]) (Ev.pos (by omega) (Ev.pos (by omega) (Ev.neg (by omega) (Ev.pos c e))))
  ·obtain ⟨R,e,h⟩:=fit20_j2 T K M G hT hT8 l acc i (by omega) y (by omega) (by omega) (by omega) (by omega) next
   refine ⟨R,Ev.succ ?_,h⟩
   simp only [thresherref20_Fit.l0]
   refine Ev.pos (by omega) (Ev.succ ?_)
   simp only [thresherref20_Fit.j1]
   rw [← hy]
   clear hy
   exact Ev.pos (by rw [decide_eq_true (by omega)]) (Ev.pos (by omega) (Ev.pos (by omega) (Ev.neg (by omega) (Ev.neg c e))))
theorem fit20_ev : ∃ R,Ev (fun k=>thresherref20_Fit.f k T K M G l 16) R∧R.length≤16∧∀ x ∈ R,OkFit T x:=by
 simp only [thresherref20_Fit.f]
 exact fit20_loop T K M G hT hT8 l (min l.length 16) 0 [] (by omega) rfl (by simp)
end
end Go.Proofs.Ytapaldcdoahfeaa.P

/- Rows made to fit, and put in order. -/
namespace Go.Proofs.Ytapaldcdoahfeaa.P
open Go.RowKit Go.Proofs.YtapaldcdoahfeaaW.PrintWords Go.Proofs.YtapaldcdoahfeaaW.PrintLast Go.Proofs.YtapaldcdoahfeaaW.PrintMore
set_option linter.unusedVariables false
set_option linter.unusedSimpArgs false

theorem GR_gd {r : List XV} (h : ∀ v ∈ r,gd40 v) : GR r:=fun v hv=>by
 obtain ⟨h1,h2⟩:=h v hv
 exact ⟨wf_i64 h1,by unfold maxLen at h2;omega⟩
/-- The rows that a law speaks of: made to fit, 60 at most. -/
def fitsR (T : List Int) (l : List (List XV)) : List (List XV):=(l.take 60).map (fitRow T)
structure Rows60 (T : List Int) (K : Int) (l : List (List XV)) : Prop where
 len : l.length≤60
 full : ∀ r ∈ l,Full T K r
 wide : ∀ r ∈ l,r.length=T.length
theorem Rows60.gr {T : List Int} {K : Int} {l : List (List XV)} (h : Rows60 T K l) : ∀ r ∈ l,GR r:=fun r hr=>(h.full r hr).ok.gr
theorem fitsR_ok {T : List Int} {K M G : Int} (hS : Sch T K M G) (l : List (List XV)) (hl : ∀ a ∈ l,∀ v ∈ a,gd40 v) : Rows60 T K (fitsR T l):=by
 refine ⟨by unfold fitsR;rw [List.length_map,List.length_take];omega,fun r hr=>?_,fun r hr=>?_⟩
 ·obtain ⟨a,ha,rfl⟩:=List.mem_map.mp hr
  exact fitRow_full hS a (GR_gd (hl a (List.mem_of_mem_take ha)))
 ·obtain ⟨a,ha,rfl⟩:=List.mem_map.mp hr
  exact fitRow_length T a
end Go.Proofs.Ytapaldcdoahfeaa.P

/- agg.May and the document's May: plain. -/
namespace Go.Proofs.Ytapaldcdoahfeaa.P
open Go.RowKit Go.Proofs.YtapaldcdoahfeaaW.PrintWords Go.Proofs.YtapaldcdoahfeaaW.PrintLast
set_option linter.unusedVariables false
set_option linter.unusedSectionVars false
/-- Whether an aggregate may be. -/
def mayA (T : List Int) (x : XG) : Bool:=if 1≤x.f0∧x.f0≤4∧0≤x.f1∧x.f1 < (T.length : Int) then (if x.f0=1 then decide (x.f1=0) else if x.f0=2 then !(rd T x.f1 == 3) else true) else false
section
variable (T : List Int) (K M G : Int) (l : List XG) (hl : l.length≤1000)
include hl
theorem may_j3 (i : Nat) (hi : i < l.length) {R : Bool} (b : Bool) (next : b=false→Ev (fun k=>agg_May.l0 k l l (l.length : Int) ((i : Int) + 1) T K M G) R) (hR : b=true→R=false) : Ev (fun k=>agg_May.j3 k l l (l.length : Int) i b T K M G) R:=by
 refine Ev.succ ?_
 simp only [agg_May.j3]
 simp (disch:=omega) only [w64]
 cases b with
 | true=>rw [hR rfl];exact Ev.pos rfl (Ev.now _)
 | false=>exact Ev.neg (by simp) (next rfl)
theorem may_loop : ∀ (d i : Nat),i + d=l.length→Ev (fun k=>agg_May.l0 k l l (l.length : Int) i T K M G) ((l.drop i).all (mayA T) && decide (l.length≤16))
 | 0,i,hi=>by
  refine Ev.succ ?_
  simp only [agg_May.l0]
  rw [List.drop_of_length_le (by omega)]
  refine Ev.neg (by omega) ((Ev.now _).eq ?_)
  simp
  omega
 | d + 1,i,hi=>by
  have h : i < l.length:=by omega
  refine Ev.succ ?_
  simp only [agg_May.l0]
  rw [List.drop_eq_getElem_cons h,List.all_cons]
  have ih:=may_loop d (i + 1) (by omega)
  obtain ⟨rest,hrest⟩ : ∃ rest,rest=((l.drop (i + 1)).all (mayA T) && decide (l.length≤16)):=⟨_,rfl⟩
  rw [Bool.and_assoc,← hrest]
  rw [← hrest] at ih
  clear hrest
  rw [rdG_lt l i h]
  obtain ⟨x,hx⟩ : ∃ x,x=l[i]:=⟨_,rfl⟩
  rw [← hx]
  clear hx
  refine Ev.pos (by omega) (Ev.pos (by omega) (Ev.pos (by omega) ?_))
  have bad : ∀ (R : Bool),mayA T x=false→R=(mayA T x && rest)→Ev (fun k=>agg_May.j1 k l l (l.length : Int) i true T K M G x.f0 x.f1) R:=fun R h1 h2=>by
   rw [h2,h1]
   refine Ev.succ ?_
   simp only [agg_May.j1]
   exact Ev.pos trivial (Ev.now _)
  by_cases c1 : x.f0 < 1
  ·exact Ev.pos c1 (bad _ (by unfold mayA;rw [if_neg (by omega)]) rfl)
  refine Ev.neg c1 ?_
  by_cases c2 : x.f0 > 4
  ·exact Ev.pos c2 (bad _ (by unfold mayA;rw [if_neg (by omega)]) rfl)
  refine Ev.neg c2 ?_
  by_cases c3 : x.f1 < 0
  ·exact Ev.pos c3 (bad _ (by unfold mayA;rw [if_neg (by omega)]) rfl)
  refine Ev.neg c3 ?_
  by_cases c4 : x.f1 ≥ (T.length : Int)
  ·rw [decide_eq_true c4]
   exact bad _ (by unfold mayA;rw [if_neg (by omega)]) rfl
  rw [decide_eq_false c4]
  refine Ev.succ ?_
  simp only [agg_May.j1]
  refine Ev.neg (by simp) ?_
  by_cases d1 : x.f0=1
  ·refine Ev.pos d1 (Ev.succ ?_)
   simp only [agg_May.j2]
   by_cases d2 : x.f1 > 0
   ·rw [decide_eq_true d2]
    refine Ev.pos rfl ?_
    exact may_j3 T K M G l hl i h true (fun h=>by simp at h) (fun _=>by unfold mayA;rw [if_pos (by omega),if_pos d1,decide_eq_false (by omega)];rfl)
   ·rw [decide_eq_false d2]
    refine Ev.neg (by simp) (Ev.neg (by omega) ?_)
    refine may_j3 T K M G l hl i h false (fun _=>?_) (fun h=>by simp at h)
    refine ih.eq ?_
    unfold mayA
    rw [if_pos (by omega),if_pos d1,decide_eq_true (by omega),Bool.true_and]
  ·refine Ev.neg d1 (Ev.succ ?_)
   simp only [agg_May.j2]
   refine Ev.neg (by simp) ?_
   by_cases d2 : x.f0=2
   ·refine Ev.pos d2 (Ev.pos (by omega) (Ev.pos (by omega) ?_))
    refine may_j3 T K M G l hl i h _ (fun e=>?_) (fun e=>?_)
    ·refine ih.eq ?_
     unfold mayA
     rw [if_pos (by omega),if_neg d1,if_pos d2,e]
     rfl
    ·unfold mayA
     rw [if_pos (by omega),if_neg d1,if_pos d2,e]
     rfl
   ·refine Ev.neg d2 ?_
    refine may_j3 T K M G l hl i h false (fun _=>?_) (fun h=>by simp at h)
    refine ih.eq ?_
    unfold mayA
    rw [if_pos (by omega),if_neg d1,if_neg d2,Bool.true_and]
theorem may_ev : Ev (fun k=>agg_May.f k T K M G l) (l.all (mayA T) && decide (l.length≤16)):=by
 simp only [agg_May.f]
 have:=may_loop T K M G l hl l.length 0 (by omega)
 rwa [List.drop_zero] at this
end
section
variable (T : List Int) (K M G : Int) (l : List XG) (hl : l.length≤1000)
include hl
theorem rmay_j2 (i : Nat) (hi : i < l.length) {R : Bool} (b : Bool) (next : b=false→Ev (fun k=>thresherref20_May.l0 k l ((i : Int) + 1) T K M G) R) (hR : b=true→R=false) : Ev (fun k=>thresherref20_May.j2 k l i b T K M G) R:=by
 refine Ev.succ ?_
 simp only [thresherref20_May.j2]
 simp (disch:=omega) only [w64]
 cases b with
 | true=>rw [hR rfl];exact Ev.pos rfl (Ev.now _)
 | false=>exact Ev.neg (by simp) (next rfl)
theorem rmay_loop : ∀ (d i : Nat),i + d=l.length→Ev (fun k=>thresherref20_May.l0 k l i T K M G) ((l.drop i).all (mayA T))
 | 0,i,hi=>by
  refine Ev.succ ?_
  simp only [thresherref20_May.l0]
  rw [List.drop_of_length_le (by omega)]
  exact Ev.neg (by omega) (Ev.now _)
 | d + 1,i,hi=>by
  have h : i < l.length:=by omega
  refine Ev.succ ?_
  simp only [thresherref20_May.l0]
  rw [List.drop_eq_getElem_cons h,List.all_cons]
  have ih:=rmay_loop d (i + 1) (by omega)
  obtain ⟨rest,hrest⟩ : ∃ rest,rest=(l.drop (i + 1)).all (mayA T):=⟨_,rfl⟩
  rw [← hrest]
  rw [← hrest] at ih
  clear hrest
  rw [rdG_lt l i h]
  obtain ⟨x,hx⟩ : ∃ x,x=l[i]:=⟨_,rfl⟩
  rw [← hx]
  clear hx
  refine Ev.pos (by omega) (Ev.pos (by omega) ?_)
  have bad : ∀ (R : Bool),mayA T x=false→R=(mayA T x && rest)→Ev (fun k=>thresherref20_May.j1 k l i true T K M G x.f0 x.f1) R:=fun R h1 h2=>by
   rw [h2,h1]
   refine Ev.succ ?_
   simp only [thresherref20_May.j1]
   exact Ev.pos trivial (Ev.now _)
  by_cases c1 : x.f0 < 1
  ·exact Ev.pos c1 (bad _ (by unfold mayA;rw [if_neg (by omega)]) rfl)
  refine Ev.neg c1 ?_
  by_cases c2 : x.f0 > 4
  ·exact Ev.pos c2 (bad _ (by unfold mayA;rw [if_neg (by omega)]) rfl)
  refine Ev.neg c2 ?_
  by_cases c3 : x.f1 < 0
  ·exact Ev.pos c3 (bad _ (by unfold mayA;rw [if_neg (by omega)]) rfl)
  refine Ev.neg c3 ?_
  by_cases c4 : x.f1 ≥ (T.length : Int)
  ·rw [decide_eq_true c4]
   exact bad _ (by unfold mayA;rw [if_neg (by omega)]) rfl
  rw [decide_eq_false c4]
  refine Ev.succ ?_
  simp only [thresherref20_May.j1]
  refine Ev.neg (by simp) ?_
  by_cases d1 : x.f0=1
  ·refine Ev.pos d1 ?_
   by_cases d2 : x.f1=0
   ·refine Ev.pos d2 (Ev.neg (by omega) ?_)
    refine rmay_j2 T K M G l hl i h false (fun _=>?_) (fun h=>by simp at h)
    refine ih.eq ?_
    unfold mayA
    rw [if_pos (by omega),if_pos d1,decide_eq_true (by omega),Bool.true_and]
   ·refine Ev.neg d2 ?_
    exact rmay_j2 T K M G l hl i h true (fun h=>by simp at h) (fun _=>by unfold mayA;rw [if_pos (by omega),if_pos d1,decide_eq_false (by omega)];rfl)
  ·refine Ev.neg d1 ?_
   by_cases d2 : x.f0=2
   ·refine Ev.pos d2 (Ev.pos (by omega) (Ev.pos (by omega) ?_))
    refine rmay_j2 T K M G l hl i h _ (fun e=>?_) (fun e=>?_)
    ·refine ih.eq ?_
     unfold mayA
     rw [if_pos (by omega),if_neg d1,if_pos d2,e]
     rfl
    ·unfold mayA
     rw [if_pos (by omega),if_neg d1,if_pos d2,e]
     rfl
   ·refine Ev.neg d2 ?_
    refine rmay_j2 T K M G l hl i h false (fun _=>?_) (fun h=>by simp at h)
    refine ih.eq ?_
    unfold mayA
    rw [if_pos (by omega),if_neg d1,if_neg d2,Bool.true_and]
theorem rmay_ev : Ev (fun k=>thresherref20_May.f k T K M G l) (l.all (mayA T) && decide (l.length≤16)):=by
 simp only [thresherref20_May.f]
 by_cases c : (l.length : Int) > 16
 ·refine Ev.pos c ((Ev.now _).eq ?_)
  rw [decide_eq_false (by omega),Bool.and_false]
 ·refine Ev.neg c ?_
  have:=rmay_loop T K M G l hl l.length 0 (by omega)
  rw [List.drop_zero] at this
  refine this.eq ?_
  rw [decide_eq_true (by omega),Bool.and_true]
end
theorem may_of_fit {T : List Int} {x : XG} (h : OkAgg T x) (h2 : x.f0=2→rd T x.f1≠3) (h1 : x.f0=1→x.f1=0) : mayA T x=true:=by
 unfold mayA
 rw [if_pos (show 1≤x.f0∧x.f0≤4∧0≤x.f1∧x.f1 < (T.length : Int) from h)]
 by_cases d1 : x.f0=1
 ·rw [if_pos d1,decide_eq_true (h1 d1)]
 ·rw [if_neg d1]
  by_cases d2 : x.f0=2
  ·rw [if_pos d2];simpa using h2 d2
  ·rw [if_neg d2]
end Go.Proofs.Ytapaldcdoahfeaa.P

/- The document's aggregates: plain. -/
namespace Go.Proofs.Ytapaldcdoahfeaa.P
open Go.RowKit Go.Proofs.YtapaldcdoahfeaaW.PrintWords Go.Proofs.YtapaldcdoahfeaaW.PrintLast
set_option linter.unusedVariables false
set_option linter.unusedSectionVars false
theorem count_fold (t col : Int) : ∀ (rows : List (List XV)) (n : Nat),n + rows.length≤1000→foldV 1 t col ⟨true,⟨n,⟨#[]⟩⟩⟩ rows=⟨true,⟨((n + rows.length : Nat) : Int),⟨#[]⟩⟩⟩
 | [],n,_=>rfl
 | r :: rs,n,h=>by
  have h2 : n + (rs.length + 1)≤1000:=by simpa using h
  have e : foldV 1 t col ⟨true,⟨n,⟨#[]⟩⟩⟩ (r :: rs)=foldV 1 t col ⟨true,⟨wrap64 ((n : Int) + 1),⟨#[]⟩⟩⟩ rs:=rfl
  rw [e,w64 (by omega) (by omega)]
  have:=count_fold t col rs (n + 1) (by omega)
  rw [show ((n + 1 : Nat) : Int)=(n : Int) + 1 from rfl] at this
  rw [this]
  congr 3
  simp only [List.length_cons]
  omega
/-- A value that a cell of a column may hold. -/
def FV (t : Int) (v : XV) : Prop:=fitT t v=true∧GV v∧v.f1.size≤9223372036854775807
theorem radd_ev {t : Int} {a b : XV} (ha : fitT t a=true) (hb : fitT t b=true) (h3 : t≠3) : Ev (fun k=>thresherref03_Add.f k t a.f0 a.f1 b.f0 b.f1) ((plusV a b).f0,(plusV a b).f1):=by
 simp only [thresherref03_Add.f]
 refine Ev.bind (both_ev t a b) (Ev.pos (by rw [ha,hb];rfl) (Ev.neg h3 (Ev.now _)))
section
variable (t kd : Int) (col : Nat) (rows : List (List XV)) (hn : rows.length≤1000) (hk : kd=2 ∨ kd=3 ∨ kd=4) (hw : ∀ r ∈ rows,col < r.length) (hv : ∀ r ∈ rows,FV t (rdV r col)) (h2 : kd=2→t≠3)
include hn hk hw hv h2
theorem ref_loop : ∀ (d i : Nat) (c : XC),i + d=rows.length→GV c.f1→c.f1.f1.size≤9223372036854775807→(kd=2→c.f0=true∧fitT t c.f1=true)→Ev (fun k=>thresherref20_one.l0 k rows t i kd col c.f0 c.f1.f0 c.f1.f1) ((foldV kd t col c (rows.drop i)).f0,(foldV kd t col c (rows.drop i)).f1.f0,(foldV kd t col c (rows.drop i)).f1.f1)
 | 0,i,c,hi,_,_,_=>by
  refine Ev.succ ?_
  simp only [thresherref20_one.l0]
  rw [List.drop_of_length_le (by omega)]
  exact Ev.neg (by omega) (Ev.now _)
 | d + 1,i,c,hi,hg,hs,hc=>by
  have h : i < rows.length:=by omega
  obtain ⟨v1,v2,v3⟩:=hv _ (List.getElem_mem h)
  have hcol:=hw _ (List.getElem_mem h)
  rw [List.drop_eq_getElem_cons h]
  obtain ⟨v,hvv⟩ : ∃ v,v=rdV rows[i] col:=⟨_,rfl⟩
  have e : foldV kd t col c (rows[i] :: rows.drop (i + 1))=foldV kd t col (bothV kd t c v) (rows.drop (i + 1)):=by
   show foldV kd t col (bothV kd t c (aggOf kd (rdV rows[i] col))) (rows.drop (i + 1))=_
   rw [← hvv]
   unfold aggOf
   rw [if_neg (by omega)]
  rw [e]
  rw [← hvv] at v1 v2 v3
  have hcol2 : (col : Int) < ((rows[i]).length : Int):=by omega
  have next : ∀ c' : XC,c'=bothV kd t c v→GV c'.f1→c'.f1.f1.size≤9223372036854775807→(kd=2→c'.f0=true∧fitT t c'.f1=true)→Ev (fun k=>thresherref20_one.l0 k rows t ((i : Int) + 1) kd col c'.f0 c'.f1.f0 c'.f1.f1) ((foldV kd t col (bothV kd t c v) (rows.drop (i + 1))).f0,(foldV kd t col (bothV kd t c v) (rows.drop (i + 1))).f1.f0,(foldV kd t col (bothV kd t c v) (rows.drop (i + 1))).f1.f1):=fun c' h1 h3 h4 h5=>by
   have:=ref_loop d (i + 1) c' (by omega) h3 h4 h5
   rw [h1] at this ⊢
   exact this
  clear e
  refine Ev.succ ?_
  simp only [thresherref20_one.l0]
  rw [rdR_lt rows i h]
  rw [show rd_T40 rows[i] col=v from hvv.symm]
  rw [show wrap64 ((i : Int) + 1)=(i : Int) + 1 from w64 (by omega) (by omega)]
  refine Ev.pos (by omega) (Ev.pos (by omega) (Ev.pos (by omega) (Ev.pos hcol2 ?_)))
  by_cases k2 : kd=2
  ·obtain ⟨c1,c2⟩:=hc k2
   refine Ev.pos k2 (Ev.bind (radd_ev c2 v1 (h2 k2)) ?_)
   have hcc : bothV kd t c v=⟨true,plusV c.f1 v⟩:=by unfold bothV joinV;rw [if_pos c1,if_pos (by omega)]
   have hb:=next ⟨true,plusV c.f1 v⟩ hcc.symm (by unfold plusV GV;exact ⟨by show _≤wrap64 _;unfold wrap64;omega,by show wrap64 _≤_;unfold wrap64;omega⟩) (by show (0 : Nat)≤_;omega) (fun _=>⟨rfl,by
    have h1:=h2 k2
    unfold plusV fitT
    by_cases t12 : t=1 ∨ t=2
    ·rw [if_pos t12];simp [ByteArray.toList_eq]
    ·exfalso
     unfold fitT at v1
     rw [if_neg t12,if_neg h1] at v1
     exact absurd v1 (by simp)⟩)
   rw [c1]
   exact hb
  ·refine Ev.neg k2 (Ev.bind (rcmp_ev t v c.f1 v2 hg v3) ?_)
   have keep : pickV (if kd=3 then cmpV t else fun x y=>cmpV t y x) c.f1 v=c.f1→c.f0=true→bothV kd t c v=c:=fun h1 h3=>by
    unfold bothV joinV
    rw [if_pos h3,if_neg (by omega)]
    obtain ⟨c0,cv⟩:=c
    simp only at h3 h1 ⊢
    subst h3
    split
    ·rename_i q;rw [if_pos q] at h1;rw [h1]
    ·rename_i q;rw [if_neg q] at h1;rw [h1]
   have take : (c.f0=false ∨ pickV (if kd=3 then cmpV t else fun x y=>cmpV t y x) c.f1 v=v)→bothV kd t c v=⟨true,v⟩:=fun h1=>by
    unfold bothV joinV
    by_cases c0 : c.f0=true
    ·rw [if_pos c0,if_neg (by omega)]
     rcases h1 with h1|h1
     ·rw [h1] at c0;exact absurd c0 (by simp)
     ·split
      ·rename_i q;rw [if_pos q] at h1;rw [h1]
      ·rename_i q;rw [if_neg q] at h1;rw [h1]
    ·rw [if_neg c0]
   have jt : (c.f0=false ∨ pickV (if kd=3 then cmpV t else fun x y=>cmpV t y x) c.f1 v=v)→Ev (fun k=>thresherref20_one.j1 k rows t i true kd col c.f0 c.f1.f0 c.f1.f1 v.f0 v.f1) ((foldV kd t col (bothV kd t c v) (rows.drop (i + 1))).f0,(foldV kd t col (bothV kd t c v) (rows.drop (i + 1))).f1.f0,(foldV kd t col (bothV kd t c v) (rows.drop (i + 1))).f1.f1):=fun h1=>by
    refine Ev.succ ?_
    simp only [thresherref20_one.j1]
    rw [show wrap64 ((i : Int) + 1)=(i : Int) + 1 from w64 (by omega) (by omega)]
    exact Ev.pos trivial (next ⟨true,v⟩ (take h1).symm v2 v3 (fun q=>absurd q k2))
   have jf : pickV (if kd=3 then cmpV t else fun x y=>cmpV t y x) c.f1 v=c.f1→c.f0=true→Ev (fun k=>thresherref20_one.j1 k rows t i false kd col c.f0 c.f1.f0 c.f1.f1 v.f0 v.f1) ((foldV kd t col (bothV kd t c v) (rows.drop (i + 1))).f0,(foldV kd t col (bothV kd t c v) (rows.drop (i + 1))).f1.f0,(foldV kd t col (bothV kd t c v) (rows.drop (i + 1))).f1.f1):=fun h1 h3=>by
    refine Ev.succ ?_
    simp only [thresherref20_one.j1]
    rw [show wrap64 ((i : Int) + 1)=(i : Int) + 1 from w64 (by omega) (by omega)]
    exact Ev.neg (by simp) (next c (keep h1 h3).symm hg hs (fun q=>absurd q k2))
   by_cases c0 : c.f0=true
   ·refine Ev.pos c0 ?_
    by_cases k3 : kd=3
    ·refine Ev.pos k3 ?_
     by_cases q : cmpV t v c.f1 < 0
     ·exact Ev.pos q (jt (Or.inr (by unfold pickV;rw [if_pos k3,if_pos q])))
     ·refine Ev.neg q (Ev.neg (by omega) (jf ?_ c0))
      unfold pickV;rw [if_pos k3,if_neg q]
    ·refine Ev.neg k3 (Ev.pos (by omega) ?_)
     have an:=cmpV_anti t c.f1 v
     by_cases q : cmpV t v c.f1 > 0
     ·rw [decide_eq_true q]
      refine jt (Or.inr ?_)
      unfold pickV;rw [if_neg k3,if_pos (by omega)]
     ·rw [decide_eq_false q]
      refine jf ?_ c0
      unfold pickV;rw [if_neg k3,if_neg (by omega)]
   ·exact Ev.neg c0 (jt (Or.inl (by simpa using c0)))
end
theorem refone_ev {T : List Int} {K M G : Int} (hS : Sch T K M G) {rows : List (List XV)} (hn : rows.length≤1000) (hr : ∀ r ∈ rows,RowOk T r∧r.length=T.length) {x : XG} (hx : OkFit T x) : Ev (fun k=>thresherref20_one.f k T K M G x.f0 x.f1 rows) ((oneV T rows x).f0,(oneV T rows x).f1.f0,(oneV T rows x).f1.f1):=by
 obtain ⟨⟨h1,h2,h3,h4⟩,h5,h6⟩:=hx
 simp only [thresherref20_one.f]
 by_cases k1 : x.f0=1
 ·refine Ev.pos k1 ((Ev.now _).eq ?_)
  have:=count_fold (rd T x.f1) x.f1 rows 0 (by omega)
  rw [Nat.zero_add] at this
  unfold oneV
  rw [k1,show aggFirst 1=⟨true,⟨((0 : Nat) : Int),⟨#[]⟩⟩⟩ from rfl,this]
 ·refine Ev.neg k1 (Ev.pos h3 (Ev.pos h4 ?_))
  obtain ⟨j,hj⟩ : ∃ j : Nat,x.f1=j:=⟨x.f1.toNat,by omega⟩
  rw [hj] at h4 h5 ⊢
  have hjT : j < T.length:=by omega
  have ht:=hS.rdt j hjT
  have:=ref_loop (rd T j) x.f0 j rows hn (by omega) (fun r hr_=>by rw [(hr r hr_).2];exact hjT) (fun r hr_=>by
   have f:=(hr r hr_).1.fit j (Nat.zero_le _) (by rw [(hr r hr_).2];omega)
   exact ⟨f.1,f.2,((hr r hr_).1.gr.rdV j).2⟩) h5 rows.length 0 (aggFirst x.f0) (by omega) ⟨by show (-9223372036854775808 : Int)≤0;omega,by show (0 : Int)≤9223372036854775807;omega⟩ (by show (0 : Nat)≤_;omega) (fun e=>⟨by unfold aggFirst;exact decide_eq_true (by omega),by
    have:=h5 e
    unfold fitT
    rw [if_pos (by omega)]
    simp [aggFirst,ByteArray.toList_eq]⟩)
  rw [List.drop_zero] at this
  unfold oneV
  rw [hj]
  have e2 : (x.f0 == 2)=(aggFirst x.f0).f0:=by
   unfold aggFirst
   by_cases q : x.f0=2
   ·rw [q];rfl
   ·rw [show (x.f0 == 2)=false by simpa using q]
    exact (decide_eq_false (by omega)).symm
  rw [e2]
  exact this
theorem refrows_loop {T : List Int} {K M G : Int} (hS : Sch T K M G) {rows : List (List XV)} (hn : rows.length≤1000) (hr : ∀ r ∈ rows,RowOk T r∧r.length=T.length) (l : List XG) (hl : l.length≤1000) (hx : ∀ x ∈ l,OkFit T x) : ∀ (d i : Nat) (acc : List XC),i + d=l.length→acc.length=i→Ev (fun k=>thresherref20_Rows.l0 k l rows acc i T K M G) (acc ++ (l.drop i).map (oneV T rows))
 | 0,i,acc,hi,ha=>by
  refine Ev.succ ?_
  simp only [thresherref20_Rows.l0]
  rw [List.drop_of_length_le (by omega)]
  exact Ev.neg (by omega) ((Ev.now _).eq (by simp))
 | d + 1,i,acc,hi,ha=>by
  have h : i < l.length:=by omega
  refine Ev.succ ?_
  simp only [thresherref20_Rows.l0]
  rw [rdG_lt l i h,List.drop_eq_getElem_cons h]
  simp (disch:=omega) only [w64]
  refine Ev.pos (by omega) (Ev.pos (by omega) (Ev.bind (refone_ev hS hn hr (hx _ (List.getElem_mem h))) (Ev.pos (by omega) ?_)))
  refine (refrows_loop hS hn hr l hl hx d (i + 1) (acc ++ [oneV T rows l[i]]) (by omega) (by simp;omega)).eq ?_
  rw [List.append_assoc,List.map_cons,List.singleton_append]
theorem refrows_ev {T : List Int} {K M G : Int} (hS : Sch T K M G) {rows : List (List XV)} (hn : rows.length≤1000) (hr : ∀ r ∈ rows,RowOk T r∧r.length=T.length) (l : List XG) (hl : l.length≤1000) (hx : ∀ x ∈ l,OkFit T x) : Ev (fun k=>thresherref20_Rows.f k T K M G l rows) (l.map (oneV T rows)):=by
 simp only [thresherref20_Rows.f]
 have:=refrows_loop hS hn hr l hl hx l.length 0 [] (by omega) rfl
 simpa using this
end Go.Proofs.Ytapaldcdoahfeaa.P

/- Which aggregates may be, and what they tell of any rows: the plain law. -/
namespace Go.Proofs.Ytapaldcdoahfeaa.Pure
open Go.RowKit Go.Proofs.Ytapaldcdoahfeaa.P Go.Proofs.YtapaldcdoahfeaaW.PrintWords Go.Proofs.YtapaldcdoahfeaaW.PrintLast
set_option linter.unusedVariables false
set_option linter.unusedSectionVars false
theorem all_j0 {T : List Int} {K M G : Int} (hS : Sch T K M G) (l : List XG) (hl : l.length≤20) (r : List (List XV)) (hr2 : ∀ a ∈ r,∀ v ∈ a,gd40 v) : Ev (fun k=>thresherlaw20_AggAll.j0 k l r true T K M G) true:=by
 have n1:=hS.n1
 have n8:=hS.n8
 have hfo:=fitsR_ok hS r hr2
 have hf:=fits_ev T K M G r 60 (by omega) (by omega)
 have hlen:=hfo.len
 obtain ⟨fs,hfit,hfs,hok⟩:=fit20_ev T K M G n1 (by omega) l
 have hr:=fun q (h : q ∈ fitsR T r)=>And.intro (hfo.full q h).ok (hfo.wide q h)
 have hag:=agg_ev T K M G (fitsR T r) hfo.wide (by omega) fs (by omega) (fun x hx=>(hok x hx).1)
 refine Ev.succ ?_
 simp only [thresherlaw20_AggAll.j0]
 refine Ev.bind (show Ev _ (fitsR T r) from hf) (Ev.bind (may_ev T K M G l (by omega)) (Ev.bind (rmay_ev T K M G l (by omega)) (Ev.neg (by simp) (Ev.bind hfit (Ev.bind hag (Ev.bind (refrows_ev hS (by omega) hr fs (by omega) hok) (Ev.bind (same20_ev _ (by rw [List.length_map];omega)) (Ev.pos trivial (Ev.pos rfl (Ev.bind (may_ev T K M G fs (by omega)) ((Ev.now _).eq ?_)))))))))))
 have e : fs.all (mayA T)=true:=List.all_eq_true.mpr (fun x hx=>may_of_fit (hok x hx).1 (hok x hx).2.1 (hok x hx).2.2)
 rw [e,decide_eq_true hfs]
 rfl
theorem AggAll : thresherlaw20_AggAll.PureG:=by
 intro x l r hx ⟨hl,hl2⟩ ⟨hr,hr2⟩
 obtain ⟨T,K,M,G,hmade,hS⟩:=made20_ev hx
 apply Ev.rounds
 simp only [thresherlaw20_AggAll.f]
 refine Ev.bind shown20_ev (Ev.bind hmade ?_)
 have hr3:=fun a h=>(hr2 a h).2
 by_cases c : (l.length : Int) > 20
 ·exact Ev.pos c (Ev.pos (by omega) (all_j0 hS _ (by rw [List.length_take];omega) r hr3))
 ·exact Ev.neg c (all_j0 hS l (by omega) r hr3)
end Go.Proofs.Ytapaldcdoahfeaa.Pure

-- Written by wip/tools/myprint.py: the row of AggAll, out of its plain law and its walk.
namespace Go.Proofs.Ytapaldcdoahfeaa.aggAll
open Go.ChangeShapes Go.WideShapes Go.ChangeAt Go.RowKit Go.Proofs.Ytapaldcdoahfeaa.P Go.Proofs.YtapaldcdoahfeaaW.PrintWords
set_option linter.unusedVariables false
set_option linter.unusedSimpArgs false
theorem own : ownKnob Try.prog.godebug=none:=by kernel_rfl
theorem laidOut : laidOutB Try.prog=true:=by kernel_rfl
set_option maxRecDepth 100000 in
theorem lifted (os : Os) (started : os.Started) (H : Type) (enc : TypeId × Value→H) :
  ReturnsInHanded {} Try.checked os 6 .any (Rows.aggAllSpec.pre6 enc Try.prog Try.f6 Rows.aggAllRow.domain false) (Rows.aggAllSpec.post enc Try.prog Try.f6 false true false false):=by
 refine returnsInHanded_of_change_sized (C:=Try.checked) own started (by kernel_rfl) Try.func6
  (ChangeSpec.witness6 (enc:=enc) (C:=Try.checked) false ⟨#[],#[.agg #[.int .u8 0,.int .u8 0,.int .u8 0,.int .u8 0,.int .u8 0,.int .u8 0,.int .u8 0,.int .u8 0,.int .u8 0,.int .u8 0,.int .u8 0,.int .u8 0],.slice none 0 0,.slice none 0 0],[]⟩ 8 (by kernel_rfl) (by kernel_rfl) (by kernel_rfl) (by kernel_rfl)) ?_
 intro W base args ds gs before hval0 hW hcnd hsz0 _
 have hval : ∀ (j : Nat) t v,Try.f6.params[j]?=some t→args[j]?=some v→Value.okWide Try.prog W .any base t v:=hval0
 have hW':=hW
 obtain ⟨p,q,hA0,hV,rfl,hfz,hnd⟩:=hW
 have hA : DataW.TrodAll enc Try.prog W 0 (fun _=>true) true Try.f6.params.toList args.toList ds p:=hA0
 rw [Try.params6] at hA hval
 obtain ⟨v0,vs0,d0,ds0,p0,q0,hargs,rfl,rfl,h0,r0⟩:=trodAll_cons hA
 obtain ⟨v1,vs1,d1,ds1,p1,q1,rfl,rfl,rfl,h1,r1⟩:=trodAll_cons r0
 obtain ⟨v2,vs2,d2,ds2,p2,q2,rfl,rfl,rfl,h2,r2⟩:=trodAll_cons r1
 obtain ⟨rfl,rfl,rfl⟩:=trodAll_nil r2
 obtain rfl : args=#[v0,v1,v2]:=by cases args;simp_all
 obtain ⟨rfl,rfl⟩:=trodVars_none hV
 have lt0 : ∀ x ∈ p0,x.block < W.heap.size:=by obtain ⟨m,hm⟩:=h0;exact DataW.trod_lt m _ _ _ hm
 obtain ⟨x0,K0,g0⟩:=(op24).arg h0
 obtain ⟨cs0,rfl⟩:=okWide_agg Try.underlying24 (hval 0 24 v0 rfl rfl)
 have e0:=k24_open K0
 replace e0:=agg_of e0
 have lt1 : ∀ x ∈ p1,x.block < W.heap.size:=by obtain ⟨m,hm⟩:=h1;exact DataW.trod_lt m _ _ _ hm
 obtain ⟨x1,K1,g1⟩:=((opens_slice Try.underlying34 (by kernel_rfl) op33)).arg h1
 obtain ⟨a1,len1,cap1,rfl⟩:=okWide_slice Try.underlying34 (hval 1 34 v1 rfl rfl)
 obtain ⟨A1,c1,e1,hl1,hr1⟩:=K1
 simp [Value.cells] at e1
 obtain ⟨rfl,rfl,rfl⟩:=e1
 have lt2 : ∀ x ∈ p2,x.block < W.heap.size:=by obtain ⟨m,hm⟩:=h2;exact DataW.trod_lt m _ _ _ hm
 obtain ⟨x2,K2,g2⟩:=((opens_slice Try.underlying25 (by kernel_rfl) (opens_slice Try.underlying44 (by kernel_rfl) op40))).arg h2
 obtain ⟨a2,len2,cap2,rfl⟩:=okWide_slice Try.underlying25 (hval 2 25 v2 rfl rfl)
 obtain ⟨A2,c2,e2,hl2,hr2⟩:=K2
 simp [Value.cells] at e2
 obtain ⟨rfl,rfl,rfl⟩:=e2
 obtain ⟨k,hk⟩:=Pure.AggAll x0 x1 x2 g0 g1 g2
 have call : Calls Try.prog 6 #[.agg cs0,.slice a1 x1.length cap1,.slice a2 x2.length cap2] W fun e W'=>e=.returned (.bool true)∧Below W.heap.size W W':=by
  rw [e0]
  refine (thresherlaw20_AggAll.calls k _ _ _ _ _ _ _ _ _ _ _ _ (fun _=>True) _ _ _ _ _ _ true W (Go.Proofs.YtapaldcdoahfeaaW.PrintWords.Kd.V_mk hl1 (fun W' hW'=>(show Go.Proofs.YtapaldcdoahfeaaW.PrintWords.Kd.Heap k33 from by repeat' (first|exact Go.Proofs.YtapaldcdoahfeaaW.PrintWords.Kd.heap_int _|exact Go.Proofs.YtapaldcdoahfeaaW.PrintWords.Kd.heap_bool|exact Go.Proofs.YtapaldcdoahfeaaW.PrintWords.Kd.heap_string|refine Go.Proofs.YtapaldcdoahfeaaW.PrintWords.Kd.heap_slice _ ?_|refine Go.Proofs.YtapaldcdoahfeaaW.PrintWords.Kd.heap_pair ?_ ?_|refine Go.Proofs.YtapaldcdoahfeaaW.PrintWords.Kd.heap_iso _ ?_)).C (fun k hk=>hW' k trivial hk) hr1)) hr2 hl2 hk).mono ?_
  rintro e w' ⟨rfl,hd⟩
  exact ⟨rfl,hd⟩
 refine call.mono fun e W' ⟨he,bel⟩=>?_
 subst he
 exact ⟨_,rfl,_,_,_,[],_,[],hW',trodAll_mk1 (shut_bool Try.underlying4 _),(trodAll_cons_mk (Below.trod laidOut (by kernel_rfl) (of_decide_eq_true (by kernel_rfl)) h0 bel lt0) (trodAll_cons_mk (Below.trod laidOut (by kernel_rfl) (of_decide_eq_true (by kernel_rfl)) h1 bel lt1) (trodAll_cons_mk (Below.trod laidOut (by kernel_rfl) (of_decide_eq_true (by kernel_rfl)) h2 bel lt2) trodAll_mk0))),rfl,bel.frame _,fun h=>by cases h⟩
theorem over : Rows.aggAllRow.holds Try.pinned (OpenSpec.ofChange Rows.aggAllSpec) :=
 OpenClaim.holds_of_wide 6 Try.f6 rfl rfl rfl rfl rfl rfl rfl ⟨rfl,rfl,rfl,rfl,rfl⟩ rfl rfl rfl rfl rfl (by kernel_rfl) Try.func6 (by kernel_rfl)
  (of_decide_eq_true (by kernel_rfl)) (by unfold Func.isWrapper;first|(rw [if_pos (by decide +kernel)];kernel_rfl)|(rw [if_neg (by decide +kernel)];exact ⟨rfl,rfl⟩))
  (fun os started H enc _=>lifted os started H enc)
theorem proved : Rows.AggAllSaid:=over
#print axioms proved
end Go.Proofs.Ytapaldcdoahfeaa.aggAll
namespace Go.Proofs.Ytapaldcdoahfeaa
/-- The row, under a short name, for the claim. -/
theorem aggAll_holds : Rows.AggAllSaid:=aggAll.proved
end Go.Proofs.Ytapaldcdoahfeaa

