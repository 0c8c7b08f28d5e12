/- The row of AggEnds. Merged: SAggEnds, XBase, XFit, XMade, XOrd, XFitOk, XFits, XRVal, XShape, XVal, XRCmp, XRowOk, XAgg, XSort, XAggB, XSixty, PureAggEnds, RAggEnds. -/
import Derived.Test.YtapaldcdoahfeaaQAggEndsPx11
import Derived.Test.YtapaldcdoahfeaaQAggEndsO
import Derived.Test.YtapaldcdoahfeaaQAggEndsPx0
import Derived.Test.YtapaldcdoahfeaaQAggEndsHBase
import Derived.Test.YtapaldcdoahfeaaQAggEndsPx5
import Derived.Lib.Bytealg
import Derived.Test.YtapaldcdoahfeaaQAggEndsPx6
import Derived.Test.YtapaldcdoahfeaaQAggEndsPx7
import Derived.Test.YtapaldcdoahfeaaQAggEndsPx4
import Derived.Test.YtapaldcdoahfeaaQAggEndsPx3
import Derived.Test.YtapaldcdoahfeaaQAggEndsPx8
import Derived.Test.YtapaldcdoahfeaaQAggEndsHAggC
import Derived.Test.YtapaldcdoahfeaaQAggEndsPx9
import Derived.Test.YtapaldcdoahfeaaQAggEndsPx10
import Derived.Test.YtapaldcdoahfeaaRows
import Derived.WalkKit
import Derived.ProofKit
import Derived.OpenShut
import Derived.ShutString
import Derived.ChangeOld
import Derived.Below
import Derived.SizedLaws
namespace Go.Proofs.Ytapaldcdoahfeaa.P
open Go.RowKit Go.Proofs.YtapaldcdoahfeaaW.PrintWords
def thresherlaw20_AggEnds.PureG : Prop:=∀ (x0 : S24) (x1 : List (List (S40))),gd24 x0→(x1.length≤maxLen∧∀ a ∈ x1,(a.length≤maxLen∧∀ aa ∈ a,gd40 aa))→∃ k,thresherlaw20_AggEnds.f k x0.f0.f0 x0.f0.f1 x0.f0.f2 x0.f0.f3 x0.f0.f4 x0.f0.f5 x0.f0.f6 x0.f0.f7 x0.f1 x0.f2 x0.f3 x0.f4 x1=some true
end Go.Proofs.Ytapaldcdoahfeaa.P

/- Words of the laws about rows. -/
namespace Go.Proofs.Ytapaldcdoahfeaa.P
open Go.RowKit Go.Proofs.YtapaldcdoahfeaaW.PrintWords Go.Proofs.YtapaldcdoahfeaaW.PrintLast Go.Proofs.YtapaldcdoahfeaaW.PrintMore
set_option linter.unusedVariables false
set_option linter.unusedSimpArgs false
abbrev XV:=S40
abbrev rdV (l : List XV) (i : Int) : XV:=rd_T40 l i
abbrev rdR (l : List (List XV)) (i : Int) : List XV:=rd_L7 l i
theorem rd_lt (l : List Int) (i : Nat) (h : i < l.length) : rd l i=l[i]:=by unfold rd;simp [List.getD,h]
theorem rdV_lt (l : List XV) (i : Nat) (h : i < l.length) : rd_T40 l i=l[i]:=by unfold rd_T40;simp [List.getD,h]
theorem rdV_ge (l : List XV) (i : Nat) (h : l.length≤i) : rd_T40 l i=⟨0,⟨#[]⟩⟩:=by unfold rd_T40;simp [List.getD,h];rfl
theorem rdR_lt (l : List (List XV)) (i : Nat) (h : i < l.length) : rd_L7 l i=l[i]:=by unfold rd_L7;simp [List.getD,h]
structure Sch (T : List Int) (K M G : Int) : Prop where
 n1 : 1≤T.length
 n8 : T.length≤8
 ty : ∀ t ∈ T,1≤t∧t≤3
 k1 : 1≤K
 kn : K≤T.length
 m1 : 1≤M
 m3 : M≤3
 g1 : 1≤G
 g8 : G≤8
theorem Sch.rdt {T : List Int} {K M G : Int} (h : Sch T K M G) (i : Nat) (hi : i < T.length) : 1≤rd T i∧rd T i≤3:=by
 rw [rd_lt T i hi];exact h.ty _ (List.getElem_mem hi)
def fitT (t : Int) (v : XV) : Bool:=if t=1 ∨ t=2 then v.f1.toList == ([] : List UInt8) else if t=3 then (if v.f0=0 then decide ((v.f1.size : Int)≤60) else false) else false
def rowOkB (T : List Int) (r : List XV) : Bool:=decide (T.length=r.length) && (List.range T.length).all fun (i : Nat)=>fitT (rd T i) (rdV r i)
def fit1 (t : Int) (v : XV) : XV:=if t=3 then ⟨0,if (v.f1.size : Int) > 60 then v.f1.extract 0 60 else v.f1⟩ else ⟨v.f0,⟨#[]⟩⟩
def fitRow (T : List Int) (r : List XV) : List XV:=(List.range' 0 T.length).map fun (i : Nat)=>fit1 (rd T i) (rdV r i)
theorem fitRow_length (T : List Int) (r : List XV) : (fitRow T r).length=T.length:=by simp [fitRow]
theorem rdV_fitRow (T : List Int) (r : List XV) (i : Nat) (hi : i < T.length) : rdV (fitRow T r) i=fit1 (rd T i) (rdV r i):=by
 show rd_T40 _ _=_
 rw [rdV_lt _ i (by rw [fitRow_length];exact hi)]
 simp [fitRow]
theorem fitT_fit1 (t : Int) (v : XV) (h1 : 1≤t) (h3 : t≤3) : fitT t (fit1 t v)=true:=by
 unfold fitT fit1
 by_cases e : t=3
 ·subst e
  simp only [if_true,if_pos rfl]
  rw [if_neg (by omega)]
  rw [decide_eq_true_iff]
  split
  ·simp only [ByteArray.size_extract];omega
  ·omega
 ·rw [if_pos (by omega),if_neg e]
  simp [ByteArray.toList_eq]
theorem bytes_eq {a b : ByteArray} (h : a.toList=b.toList) : a=b:=by
 rw [ByteArray.toList_eq,ByteArray.toList_eq] at h
 exact ByteArray.ext (Array.toList_inj.mp h)
theorem XV.same {a b : XV} : (!(a.f0 == b.f0) || (!(a.f1.toList == b.f1.toList)))=true ↔ a≠b:=by
 constructor
 ·rintro h rfl
  simp at h
 ·intro h
  by_cases h0 : a.f0=b.f0
  ·by_cases h1 : a.f1.toList=b.f1.toList
   ·exact absurd (by cases a;cases b;simp only at h0 h1;rw [h0,bytes_eq h1]) h
   ·simp [h1]
  ·simp [h0]
instance : DecidableEq XV:=fun a b=>if h : (!(a.f0 == b.f0) || (!(a.f1.toList == b.f1.toList)))=true then isFalse (XV.same.mp h) else isTrue (Classical.byContradiction fun e=>h (XV.same.mpr e))
end Go.Proofs.Ytapaldcdoahfeaa.P

/- A row made to fit. -/
namespace Go.Proofs.Ytapaldcdoahfeaa.P
open Go.RowKit Go.Proofs.YtapaldcdoahfeaaW.PrintWords Go.Proofs.YtapaldcdoahfeaaW.PrintLast Go.Proofs.YtapaldcdoahfeaaW.PrintMore
set_option linter.unusedVariables false
set_option linter.unusedSimpArgs false
theorem fit_turn (T : List Int) (K M G : Int) (r : List XV) (i : Nat) (acc : List XV) (v0 : Int) (v1 : ByteArray) (hi : i < T.length) (hT : T.length≤1000000) (ha : acc.length=i) {R : List XV} (h : Ev (fun k=>thresherref04_Fit.l0 k r (acc ++ [fit1 (rd T i) ⟨v0,v1⟩]) ((i + 1 : Nat) : Int) T K M G) R) : Ev (fun k=>thresherref04_Fit.j1 k r acc i T K M G v0 v1) R:=by
 refine Ev.succ ?_
 simp only [thresherref04_Fit.j1]
 simp (disch:=omega) only [w64]
 refine Ev.pos (by omega) (Ev.pos (by omega) ?_)
 unfold fit1 at h
 by_cases e : rd T i=3
 ·rw [if_pos e] at h
  refine Ev.pos e ?_
  by_cases s : (v1.size : Int) > 60
  ·simp only [if_pos s] at h
   exact Ev.pos s (Ev.pos (by omega) (Ev.pos (by omega) (Ev.pos (by omega) h)))
  ·simp only [if_neg s] at h
   exact Ev.neg s (Ev.pos (by omega) h)
 ·rw [if_neg e] at h
  exact Ev.neg e (Ev.pos (by omega) h)
theorem fit_loop (T : List Int) (K M G : Int) (r : List XV) (hT : T.length≤1000000) : ∀ (d i : Nat) (acc : List XV),i + d=T.length→acc.length=i→Ev (fun k=>thresherref04_Fit.l0 k r acc i T K M G) (acc ++ (List.range' i d).map fun (j : Nat)=>fit1 (rd T j) (rdV r j))
 | 0,i,acc,hi,ha=>by
  refine Ev.succ ?_
  simp only [thresherref04_Fit.l0]
  exact Ev.neg (by omega) ((Ev.now _).eq (by simp))
 | d + 1,i,acc,hi,ha=>by
  refine Ev.succ ?_
  simp only [thresherref04_Fit.l0]
  refine Ev.pos (by omega) ?_
  have hl : (acc ++ [fit1 (rd T i) (rdV r i)]).length=i + 1:=by simp;omega
  have h:=(fit_loop T K M G r hT d (i + 1) (acc ++ [fit1 (rd T i) (rdV r i)]) (by omega) hl).eq (r':=acc ++ (List.range' i (d + 1)).map fun (j : Nat)=>fit1 (rd T j) (rdV r j)) (by rw [List.append_assoc,List.range'_succ];rfl)
  by_cases e : i < r.length
  ·exact Ev.pos (by omega) (Ev.pos (by omega) (fit_turn T K M G r i acc _ _ (by omega) hT ha h))
  ·refine Ev.neg (by omega) (fit_turn T K M G r i acc _ _ (by omega) hT ha ?_)
   have e2 : rdV r i=⟨0,⟨#[]⟩⟩:=rdV_ge r i (by omega)
   rw [e2] at h
   exact h
theorem fit_ev (T : List Int) (K M G : Int) (r : List XV) (hT : T.length≤1000000) : Ev (fun k=>thresherref04_Fit.f k T K M G r) (fitRow T r):=by
 simp only [thresherref04_Fit.f]
 exact fit_loop T K M G r hT T.length 0 [] (by omega) rfl
end Go.Proofs.Ytapaldcdoahfeaa.P

/- A schema made of any numbers. -/
namespace Go.Proofs.Ytapaldcdoahfeaa.P
open Go.RowKit Go.Proofs.YtapaldcdoahfeaaW.PrintWords Go.Proofs.YtapaldcdoahfeaaW.PrintLast Go.Proofs.YtapaldcdoahfeaaW.PrintMore
set_option linter.unusedVariables false
set_option linter.unusedSimpArgs false
def U8 (x : Int) : Prop:=0≤x∧x≤255
theorem made_one {x : Int} {m : Int} (h : U8 x) (hm : 0 < m) (hm2 : m≤1000) : wrap64 (1 + Int.tmod (wrap64 x) m)=1 + x % m∧1≤1 + x % m∧1 + x % m≤m:=by
 obtain ⟨h0,h1⟩:=h
 have e1 : wrap64 x=x:=w64 (by omega) (by omega)
 have h2:=Int.emod_nonneg x (show m≠0 by omega)
 have h3:=Int.emod_lt_of_pos x hm
 rw [e1,Int.tmod_eq_emod_of_nonneg h0]
 exact ⟨w64 (by omega) (by omega),by omega,by omega⟩
theorem made_loop (x0 x1 x2 x3 x4 x5 x6 x7 K M G : Int) (hx : ∀ x ∈ [x0,x1,x2,x3,x4,x5,x6,x7],U8 x) (n : Nat) (hn : n≤8) : ∀ (d i : Nat) (T : List Int),i + d=n→T.length=i→(∀ t ∈ T,1≤t∧t≤3)→∃ T',Ev (fun k=>thresherref04_Made.l0 k n i x0 x1 x2 x3 x4 x5 x6 x7 T K M G) (T',K,M,G)∧T'.length=n∧∀ t ∈ T',1≤t∧t≤3
 | 0,i,T,hi,hT,ht=>by
  refine ⟨T,Ev.succ ?_,by omega,ht⟩
  simp only [thresherref04_Made.l0]
  exact Ev.neg (by omega) (Ev.now _)
 | d + 1,i,T,hi,hT,ht=>by
  have hr : U8 (rd [x0,x1,x2,x3,x4,x5,x6,x7] i):=by
   rw [rd_lt _ i (by simp;omega)]
   exact hx _ (List.getElem_mem _)
  obtain ⟨e,l1,l2⟩:=made_one (m:=3) hr (by omega) (by omega)
  obtain ⟨T',h1,h2,h3⟩:=made_loop x0 x1 x2 x3 x4 x5 x6 x7 K M G hx n hn d (i + 1) (T ++ [1 + rd [x0,x1,x2,x3,x4,x5,x6,x7] i % 3]) (by omega) (by simp;omega) (by
   intro t h
   rcases List.mem_append.mp h with h|h
   ·exact ht t h
   ·rw [List.mem_singleton.mp h];exact ⟨l1,l2⟩)
  refine ⟨T',Ev.succ ?_,h2,h3⟩
  simp only [thresherref04_Made.l0]
  rw [e]
  clear e
  simp (disch:=omega) only [w64]
  exact Ev.pos (by omega) (Ev.pos (by omega) (Ev.pos (by omega) (Ev.pos (by omega) h1)))
theorem made_ev (x0 x1 x2 x3 x4 x5 x6 x7 a b c d : Int) (h0 : U8 x0) (h1 : U8 x1) (h2 : U8 x2) (h3 : U8 x3) (h4 : U8 x4) (h5 : U8 x5) (h6 : U8 x6) (h7 : U8 x7) (ha : U8 a) (hb : U8 b) (hc : U8 c) (hd : U8 d) : ∃ T K M G,Ev (fun k=>thresherref04_Made.f k x0 x1 x2 x3 x4 x5 x6 x7 a b c d) (T,K,M,G)∧Sch T K M G:=by
 obtain ⟨ea,a1,a2⟩:=made_one (m:=8) ha (by omega) (by omega)
 obtain ⟨n,hn⟩ : ∃ n : Nat,1 + a % 8=n:=⟨(1 + a % 8).toNat,by omega⟩
 obtain ⟨eb,b1,b2⟩:=made_one (m:=1 + a % 8) hb (by omega) (by omega)
 obtain ⟨ec,c1,c2⟩:=made_one (m:=3) hc (by omega) (by omega)
 obtain ⟨ed,d1,d2⟩:=made_one (m:=8) hd (by omega) (by omega)
 simp only [thresherref04_Made.f,ea,eb,ec,ed]
 clear ea eb ec ed
 rw [hn] at b1 b2 a1 a2 ⊢
 obtain ⟨T,e,l,t⟩:=made_loop x0 x1 x2 x3 x4 x5 x6 x7 (1 + b % n) (1 + c % 3) (1 + d % 8) (by
  intro x hx
  simp only [List.mem_cons,List.not_mem_nil,or_false] at hx
  rcases hx with rfl|rfl|rfl|rfl|rfl|rfl|rfl|rfl <;> assumption) n (by omega) n 0 [] (by omega) rfl (by simp)
 exact ⟨T,_,_,_,Ev.neg (by omega) e,⟨by omega,by omega,t,b1,by omega,c1,c2,d1,d2⟩⟩
end Go.Proofs.Ytapaldcdoahfeaa.P

/- The order of values and of rows. -/
namespace Go.Proofs.Ytapaldcdoahfeaa.P
open Go.RowKit Go.Proofs.YtapaldcdoahfeaaW.PrintWords Go.Proofs.YtapaldcdoahfeaaW.PrintLast Go.Proofs.YtapaldcdoahfeaaW.PrintMore
set_option linter.unusedVariables false
set_option linter.unusedSimpArgs false
theorem u8_tri (a b : UInt8) : (a < b∧¬ b < a) ∨ (b < a∧¬ a < b) ∨ (a=b∧¬ a < b∧¬ b < a):=by
 rcases Nat.lt_trichotomy a.toNat b.toNat with h|h|h
 ·exact Or.inl ⟨UInt8.lt_iff_toNat_lt.mpr h,fun h2=>by have:=UInt8.lt_iff_toNat_lt.mp h2;omega⟩
 ·have e : a=b:=UInt8.toNat_inj.mp h
  subst e
  exact Or.inr (Or.inr ⟨rfl,fun h2=>by have:=UInt8.lt_iff_toNat_lt.mp h2;omega,fun h2=>by have:=UInt8.lt_iff_toNat_lt.mp h2;omega⟩)
 ·exact Or.inr (Or.inl ⟨UInt8.lt_iff_toNat_lt.mpr h,fun h2=>by have:=UInt8.lt_iff_toNat_lt.mp h2;omega⟩)
theorem cb_anti : ∀ a b : List UInt8,Lib.compareBytes b a=- Lib.compareBytes a b
 | [],[]=>by simp [Lib.compareBytes]
 | [],_ :: _=>by simp [Lib.compareBytes]
 | _ :: _,[]=>by simp [Lib.compareBytes]
 | a :: xs,b :: ys=>by
  unfold Lib.compareBytes
  rcases u8_tri a b with ⟨h1,h2⟩|⟨h1,h2⟩|⟨h0,h1,h2⟩
  ·rw [if_neg h2,if_pos h1,if_pos h1];rfl
  ·rw [if_pos h1,if_neg h2,if_pos h1]
  ·rw [if_neg h2,if_neg h1,if_neg h1,if_neg h2];exact cb_anti xs ys
theorem cb_zero : ∀ a b : List UInt8,Lib.compareBytes a b=0 ↔ a=b
 | [],[]=>by simp [Lib.compareBytes]
 | [],_ :: _=>by simp [Lib.compareBytes]
 | _ :: _,[]=>by simp [Lib.compareBytes]
 | a :: xs,b :: ys=>by
  unfold Lib.compareBytes
  rcases u8_tri a b with ⟨h1,h2⟩|⟨h1,h2⟩|⟨h0,h1,h2⟩
  ·rw [if_pos h1]
   exact ⟨fun h=>by omega,fun h=>absurd h1 (by rw [(List.cons.inj h).1] at h2 ⊢;rw [(List.cons.inj h).1] at h1;exact h2)⟩
  ·rw [if_neg h2,if_pos h1]
   exact ⟨fun h=>by omega,fun h=>absurd h1 (by rw [(List.cons.inj h).1] at h1;rw [(List.cons.inj h).1] at h2;exact absurd h1 h2)⟩
  ·rw [if_neg h1,if_neg h2,cb_zero xs ys,h0]
   exact ⟨fun h=>by rw [h],fun h=>(List.cons.inj h).2⟩
theorem cb_trans : ∀ a b c : List UInt8,Lib.compareBytes a b≤0→Lib.compareBytes b c≤0→Lib.compareBytes a c≤0
 | [],_,[],_,_=>by simp [Lib.compareBytes]
 | [],_,_ :: _,_,_=>by simp [Lib.compareBytes]
 | _ :: _,[],_,h,_=>by simp [Lib.compareBytes] at h
 | _ :: _,_ :: _,[],_,h=>by simp [Lib.compareBytes] at h
 | a :: xs,b :: ys,c :: zs,h1,h2=>by
  unfold Lib.compareBytes at h1 h2 ⊢
  rcases u8_tri a b with ⟨p1,p2⟩|⟨p1,p2⟩|⟨p0,p1,p2⟩
  ·rcases u8_tri b c with ⟨q1,q2⟩|⟨q1,q2⟩|⟨q0,q1,q2⟩
   ·rw [if_pos (UInt8.lt_trans p1 q1)];omega
   ·rw [if_neg q2,if_pos q1] at h2;omega
   ·subst q0;rw [if_pos p1];omega
  ·rw [if_neg p2,if_pos p1] at h1;omega
  ·subst p0
   rw [if_neg p1,if_neg p2] at h1
   rcases u8_tri a c with ⟨q1,q2⟩|⟨q1,q2⟩|⟨q0,q1,q2⟩
   ·rw [if_pos q1];omega
   ·rw [if_neg q2,if_pos q1] at h2;omega
   ·rw [if_neg q1,if_neg q2] at h2 ⊢
    exact cb_trans xs ys zs h1 h2
def GV (v : XV) : Prop:=-9223372036854775808≤v.f0∧v.f0≤9223372036854775807
def sgn (x y : Int) : Int:=if x < y then -1 else if x > y then 1 else 0
def un (x : Int) : Int:=x % 18446744073709551616
def cmpV (t : Int) (a b : XV) : Int:=if fitT t a=true∧fitT t b=true then (if t=3 then Lib.compareBytes a.f1.data.toList b.f1.data.toList else if t=2 then sgn (un a.f0) (un b.f0) else sgn a.f0 b.f0) else 0
theorem cmpV_anti (t : Int) (a b : XV) : cmpV t b a=- cmpV t a b:=by
 unfold cmpV
 by_cases h : fitT t a=true∧fitT t b=true
 ·rw [if_pos h,if_pos h.symm]
  split
  ·exact cb_anti _ _
  ·split <;> (unfold sgn;split <;> split <;> (try split) <;> omega)
 ·rw [if_neg h,if_neg (fun q=>h q.symm)]
  rfl
theorem fit_empty {t : Int} {a : XV} (h : fitT t a=true) (h3 : t≠3) : a.f1=⟨#[]⟩:=by
 unfold fitT at h
 split at h
 ·have h2 : a.f1.toList=[]:=by simpa using h
  exact bytes_eq (by rw [h2];simp [ByteArray.toList_eq])
 ·first|exact absurd h (by simp)|(rw [if_neg h3] at h;exact absurd h (by simp))
theorem fit_zero {t : Int} {a : XV} (h : fitT t a=true) (h3 : t=3) : a.f0=0:=by
 subst h3
 unfold fitT at h
 rw [if_neg (by omega),if_pos rfl] at h
 split at h
 ·assumption
 ·exact absurd h (by simp)
theorem XV.ext2 {a b : XV} (h0 : a.f0=b.f0) (h1 : a.f1=b.f1) : a=b:=by cases a;cases b;simp only at h0 h1;rw [h0,h1]
theorem cmpV_zero (t : Int) (a b : XV) (ha : fitT t a=true) (hb : fitT t b=true) (ga : GV a) (gb : GV b) : cmpV t a b=0 ↔ a=b:=by
 unfold cmpV
 rw [if_pos ⟨ha,hb⟩]
 obtain ⟨g1,g2⟩:=ga
 obtain ⟨g3,g4⟩:=gb
 by_cases e : t=3
 ·rw [if_pos e,cb_zero]
  exact ⟨fun h=>XV.ext2 (by rw [fit_zero ha e,fit_zero hb e]) (ByteArray.ext (Array.toList_inj.mp h)),fun h=>by rw [h]⟩
 ·rw [if_neg e]
  have key : a=b ↔ a.f0=b.f0:=⟨fun h=>by rw [h],fun h=>XV.ext2 h (by rw [fit_empty ha e,fit_empty hb e])⟩
  rw [key]
  split
  ·unfold sgn un;split <;> (try split) <;> omega
  ·unfold sgn;split <;> (try split) <;> omega
theorem sgn_trans (x y z : Int) : sgn x y≤0→sgn y z≤0→sgn x z≤0:=by
 unfold sgn
 intro h1 h2
 split
 ·omega
 ·split
  ·exfalso
   by_cases p : x < y
   ·by_cases q : y < z
    ·omega
    ·rw [if_neg q] at h2
     by_cases r : y > z
     ·rw [if_pos r] at h2;omega
     ·omega
   ·rw [if_neg p] at h1
    by_cases r : x > y
    ·rw [if_pos r] at h1;omega
    ·by_cases q : y < z
     ·omega
     ·rw [if_neg q] at h2
      by_cases r : y > z
      ·rw [if_pos r] at h2;omega
      ·omega
  ·omega
def cmpC (t : Int) (a b : XV) : Int:=if t=3 then Lib.compareBytes a.f1.data.toList b.f1.data.toList else if t=2 then sgn (un a.f0) (un b.f0) else sgn a.f0 b.f0
theorem cmpV_fit {t : Int} {a b : XV} (ha : fitT t a=true) (hb : fitT t b=true) : cmpV t a b=cmpC t a b:=by
 unfold cmpV cmpC
 rw [if_pos ⟨ha,hb⟩]
theorem cmpV_trans (t : Int) (a b c : XV) (ha : fitT t a=true) (hb : fitT t b=true) (hc : fitT t c=true) : cmpV t a b≤0→cmpV t b c≤0→cmpV t a c≤0:=by
 rw [cmpV_fit ha hb,cmpV_fit hb hc,cmpV_fit ha hc]
 unfold cmpC
 by_cases e : t=3
 ·rw [if_pos e,if_pos e,if_pos e]
  exact cb_trans _ _ _
 ·rw [if_neg e,if_neg e,if_neg e]
  by_cases e2 : t=2
  ·rw [if_pos e2,if_pos e2,if_pos e2]
   exact sgn_trans _ _ _
  ·rw [if_neg e2,if_neg e2,if_neg e2]
   exact sgn_trans _ _ _
def cmpFrom (T : List Int) (a b : List XV) : Nat→Nat→Int
 | 0,_=>0
 | m + 1,i=>if cmpV (rd T i) (rdV a i) (rdV b i)=0 then cmpFrom T a b m (i + 1) else cmpV (rd T i) (rdV a i) (rdV b i)
def cmpRow (T : List Int) (K : Int) (a b : List XV) : Int:=cmpFrom T a b (min (min (min K.toNat T.length) a.length) b.length) 0
theorem cmpFrom_anti (T : List Int) (a b : List XV) : ∀ m i,cmpFrom T b a m i=- cmpFrom T a b m i
 | 0,i=>by simp [cmpFrom]
 | m + 1,i=>by
  unfold cmpFrom
  rw [cmpV_anti _ (rdV a i) (rdV b i),cmpFrom_anti T a b m (i + 1)]
  by_cases h : cmpV (rd T i) (rdV a i) (rdV b i)=0
  ·rw [if_pos (by omega),if_pos h]
  ·rw [if_neg (by omega),if_neg h]
def FitAt (T : List Int) (a : List XV) (m i : Nat) : Prop:=∀ j : Nat,i≤j→j < i + m→fitT (rd T j) (rdV a j)=true∧GV (rdV a j)
theorem FitAt.tail {T : List Int} {a : List XV} {m i : Nat} (h : FitAt T a (m + 1) i) : FitAt T a m (i + 1):=fun j h1 h2=>h j (by omega) (by omega)
theorem cmpFrom_trans (T : List Int) (a b c : List XV) : ∀ m i,FitAt T a m i→FitAt T b m i→FitAt T c m i→cmpFrom T a b m i≤0→cmpFrom T b c m i≤0→cmpFrom T a c m i≤0
 | 0,i,_,_,_=>by simp [cmpFrom]
 | m + 1,i,ha,hb,hc=>by
  obtain ⟨a1,a2⟩:=ha i (by omega) (by omega)
  obtain ⟨b1,b2⟩:=hb i (by omega) (by omega)
  obtain ⟨c1,c2⟩:=hc i (by omega) (by omega)
  have ih:=cmpFrom_trans T a b c m (i + 1) ha.tail hb.tail hc.tail
  have t1:=cmpV_trans (rd T i) _ _ _ a1 b1 c1
  have t2:=cmpV_trans (rd T i) _ _ _ c1 a1 b1
  have t3:=cmpV_trans (rd T i) _ _ _ b1 c1 a1
  have z1:=cmpV_zero _ _ _ a1 b1 a2 b2
  have z2:=cmpV_zero _ _ _ b1 c1 b2 c2
  have n1:=cmpV_anti (rd T i) (rdV a i) (rdV c i)
  have n2:=cmpV_anti (rd T i) (rdV b i) (rdV c i)
  have n3:=cmpV_anti (rd T i) (rdV a i) (rdV b i)
  unfold cmpFrom
  intro h1 h2
  split at h1
  ·split at h2
   ·rename_i e1 e2
    have e3 : cmpV (rd T i) (rdV a i) (rdV c i)=0:=by rw [z1.mp e1];exact e2
    rw [if_pos e3]
    exact ih h1 h2
   ·rename_i e1 e2
    rw [z1.mp e1,if_neg e2]
    exact h2
  ·split at h2
   ·rename_i e1 e2
    rw [← z2.mp e2,if_neg e1]
    exact h1
   ·rename_i e1 e2
    have h3:=t1 h1 h2
    split
    ·rename_i e3
     exfalso
     have : cmpV (rd T i) (rdV b i) (rdV a i)≤0:=t3 h2 (by omega)
     omega
    ·exact h3
end Go.Proofs.Ytapaldcdoahfeaa.P

/- A row made to fit fits. -/
namespace Go.Proofs.Ytapaldcdoahfeaa.P
open Go.RowKit Go.Proofs.YtapaldcdoahfeaaW.PrintWords Go.Proofs.YtapaldcdoahfeaaW.PrintLast Go.Proofs.YtapaldcdoahfeaaW.PrintMore
set_option linter.unusedVariables false
set_option linter.unusedSimpArgs false
theorem rdV_of (P : XV→Prop) (r : List XV) (h0 : P ⟨0,⟨#[]⟩⟩) (h : ∀ v ∈ r,P v) (i : Nat) : P (rdV r i):=by
 by_cases hi : i < r.length
 ·show P (rd_T40 r i)
  rw [rdV_lt r i hi]
  exact h _ (List.getElem_mem hi)
 ·show P (rd_T40 r i)
  rw [rdV_ge r i (by omega)]
  exact h0
theorem fit1_GV (t : Int) (v : XV) (h : GV v) : GV (fit1 t v):=by
 unfold fit1
 split
 ·exact ⟨by simp,by simp⟩
 ·exact h
theorem fitRow_at {T : List Int} {K M G : Int} (hS : Sch T K M G) (r : List XV) (hr : ∀ v ∈ r,GV v) (m : Nat) (hm : m≤T.length) : FitAt T (fitRow T r) m 0:=by
 intro j _ hj
 rw [rdV_fitRow T r j (by omega)]
 obtain ⟨h1,h2⟩:=hS.rdt j (by omega)
 exact ⟨fitT_fit1 _ _ h1 h2,fit1_GV _ _ (rdV_of GV r ⟨by simp,by simp⟩ hr j)⟩
theorem rdV_take (r : List XV) (n j : Nat) (h : j < n) : rdV (r.take n) j=rdV r j:=by
 show rd_T40 _ _=rd_T40 _ _
 by_cases hi : j < r.length
 ·rw [rdV_lt _ j (by rw [List.length_take];omega),rdV_lt r j hi,List.getElem_take]
 ·rw [rdV_ge _ j (by rw [List.length_take];omega),rdV_ge r j (by omega)]
end Go.Proofs.Ytapaldcdoahfeaa.P

/- Rows made to fit. -/
namespace Go.Proofs.Ytapaldcdoahfeaa.P
open Go.RowKit Go.Proofs.YtapaldcdoahfeaaW.PrintWords Go.Proofs.YtapaldcdoahfeaaW.PrintLast Go.Proofs.YtapaldcdoahfeaaW.PrintMore
set_option linter.unusedVariables false
set_option linter.unusedSimpArgs false
theorem fits_loop (T : List Int) (K M G : Int) (l : List (List XV)) (n : Nat) (hn : n≤1000000) (hT : T.length≤1000000) : ∀ (d i : Nat) (acc : List (List XV)),i + d=min l.length n→acc.length=i→Ev (fun k=>thresherref04_Fits.l0 k l n acc i T K M G) (acc ++ ((l.take n).drop i).map (fitRow T))
 | 0,i,acc,hi,ha=>by
  refine Ev.succ ?_
  simp only [thresherref04_Fits.l0]
  have e : (l.take n).drop i=[]:=List.drop_of_length_le (by simp;omega)
  rw [e]
  by_cases h : (i : Int) < l.length
  ·exact Ev.pos h (Ev.neg (by omega) ((Ev.now _).eq (by simp)))
  ·exact Ev.neg h ((Ev.now _).eq (by simp))
 | d + 1,i,acc,hi,ha=>by
  have h1 : i < l.length:=by omega
  have h2 : i < n:=by omega
  refine Ev.succ ?_
  simp only [thresherref04_Fits.l0]
  have e : (l.take n).drop i=l[i] :: (l.take n).drop (i + 1):=by
   rw [List.drop_eq_getElem_cons (by simp;omega)]
   simp
  rw [rdR_lt l i h1,e]
  simp (disch:=omega) only [w64]
  refine Ev.pos (by omega) (Ev.pos (by omega) (Ev.pos (by omega) (Ev.bind (fit_ev T K M G _ hT) (Ev.pos (by omega) ?_))))
  refine (fits_loop T K M G l n hn hT d (i + 1) (acc ++ [fitRow T l[i]]) (by omega) (by simp;omega)).eq ?_
  simp
theorem fits_ev (T : List Int) (K M G : Int) (l : List (List XV)) (n : Nat) (hn : n≤1000000) (hT : T.length≤1000000) : Ev (fun k=>thresherref04_Fits.f k T K M G l n) ((l.take n).map (fitRow T)):=by
 simp only [thresherref04_Fits.f]
 exact fits_loop T K M G l n hn hT (min l.length n) 0 [] (by omega) rfl
end Go.Proofs.Ytapaldcdoahfeaa.P

/- The document's Compare of values tells the same order. -/
namespace Go.Proofs.Ytapaldcdoahfeaa.P
open Go.RowKit Go.Proofs.YtapaldcdoahfeaaW.PrintWords Go.Proofs.YtapaldcdoahfeaaW.PrintLast Go.Proofs.YtapaldcdoahfeaaW.PrintMore
set_option linter.unusedVariables false
set_option linter.unusedSimpArgs false
theorem rfits_f (k : Nat) (t n : Int) (s : ByteArray) : thresherref03_Fits.f (k + 1) t n s=some (fitT t ⟨n,s⟩):=by
 unfold thresherref03_Fits.f fitT
 by_cases h1 : t=1
 ·rw [if_pos h1,if_pos (Or.inl h1)]
  subst h1
  rfl
 ·rw [if_neg h1]
  by_cases h2 : t=2
  ·rw [if_pos (Or.inr h2)]
   subst h2
   rfl
  ·rw [if_neg (by omega),show (t == 2)=false by simpa using h2]
   simp only [thresherref03_Fits.j0,Bool.false_eq_true,if_false]
   by_cases h3 : t=3
   ·rw [if_pos h3,if_pos h3]
    split <;> rfl
   ·rw [if_neg h3,if_neg h3]
theorem rfits_ev (t n : Int) (s : ByteArray) : Ev (fun k=>thresherref03_Fits.f k t n s) (fitT t ⟨n,s⟩):=Ev.succ ⟨0,fun k _=>rfits_f k t n s⟩
theorem both_ev (t : Int) (a b : XV) : Ev (fun k=>thresherref03_both.f k t a.f0 a.f1 b.f0 b.f1) (fitT t a && fitT t b):=by
 simp only [thresherref03_both.f]
 refine Ev.bind (rfits_ev t a.f0 a.f1) (Ev.bind (rfits_ev t b.f0 b.f1) ?_)
 by_cases ha : fitT t a=true
 ·exact (Ev.pos ha (Ev.now _)).eq (by rw [ha,Bool.true_and])
 ·exact (Ev.neg ha (Ev.now _)).eq (by rw [Bool.eq_false_iff.mpr ha,Bool.false_and])
theorem bt_lt (s : ByteArray) (i : Nat) (h : i < s.size) : bt s i=((s.data.toList[i]'(by simpa using h)).toNat : Int):=by
 unfold bt
 rw [dif_pos (by simpa using h)]
 rfl
theorem texts_loop (a b : ByteArray) (ha : a.size≤9223372036854775807) : ∀ (d i : Nat),i + d=a.size→i≤b.size→Ev (fun k=>thresherref03_texts.l0 k a b i) (Lib.compareBytes (a.data.toList.drop i) (b.data.toList.drop i))
 | 0,i,hi,hb=>by
  have hn : a.data.toList.length=a.size:=by simp
  have hn2 : b.data.toList.length=b.size:=by simp
  refine Ev.succ ?_
  simp only [thresherref03_texts.l0]
  refine Ev.neg (by omega) (Ev.succ ?_)
  simp only [thresherref03_texts.j1]
  refine Ev.neg (by simp) ?_
  rw [List.drop_of_length_le (by omega : a.data.toList.length≤i)]
  by_cases h : i < b.size
  ·rw [List.drop_eq_getElem_cons (by omega : i < b.data.toList.length)]
   exact Ev.pos (by omega) (Ev.now _)
  ·rw [List.drop_of_length_le (by omega : b.data.toList.length≤i)]
   exact Ev.neg (by omega) (Ev.neg (by omega) (Ev.now _))
 | d + 1,i,hi,hb=>by
  have hn : a.data.toList.length=a.size:=by simp
  have hn2 : b.data.toList.length=b.size:=by simp
  have h1 : i < a.data.toList.length:=by omega
  refine Ev.succ ?_
  simp only [thresherref03_texts.l0]
  refine Ev.pos (by omega) (Ev.succ ?_)
  simp only [thresherref03_texts.j1]
  rw [List.drop_eq_getElem_cons h1]
  by_cases h : i < b.size
  ·have h2 : i < b.data.toList.length:=by omega
   rw [List.drop_eq_getElem_cons h2,bt_lt a i (by omega),bt_lt b i h]
   simp (disch:=omega) only [w64]
   unfold Lib.compareBytes
   refine Ev.pos (by simpa using h) (Ev.pos (by omega) (Ev.pos (by omega) (Ev.pos (by omega) ?_)))
   by_cases p : a.data.toList[i] < b.data.toList[i]
   ·rw [if_pos p]
    exact Ev.pos (by have:=UInt8.lt_iff_toNat_lt.mp p;omega) (Ev.now _)
   ·rw [if_neg p]
    refine Ev.neg (fun q=>p (UInt8.lt_iff_toNat_lt.mpr (by omega))) ?_
    by_cases r : b.data.toList[i] < a.data.toList[i]
    ·rw [if_pos r]
     exact Ev.pos (by have:=UInt8.lt_iff_toNat_lt.mp r;omega) (Ev.now _)
    ·rw [if_neg r]
     exact Ev.neg (fun q=>r (UInt8.lt_iff_toNat_lt.mpr (by omega))) (texts_loop a b ha d (i + 1) (by omega) (by omega))
  ·rw [List.drop_of_length_le (by omega : b.data.toList.length≤i)]
   exact Ev.neg (by simpa using h) (Ev.neg (by omega) (Ev.pos (by omega) (Ev.now _)))
theorem texts_ev (a b : ByteArray) (ha : a.size≤9223372036854775807) : Ev (fun k=>thresherref03_texts.f k a b) (Lib.compareBytes a.data.toList b.data.toList):=by
 simp only [thresherref03_texts.f]
 exact texts_loop a b ha a.size 0 (by omega) (by omega)
theorem rcmpj_ev (p q : Bool) (r : Int) (h : r=if p=true then -1 else if q=true then 1 else 0) : Ev (fun k=>thresherref03_Compare.j0 k p q) r:=by
 refine Ev.succ ⟨0,fun k _=>?_⟩
 simp only [thresherref03_Compare.j0]
 rw [h]
 cases p <;> cases q <;> rfl
theorem rcmp_ev (t : Int) (a b : XV) (ga : GV a) (gb : GV b) (hs : a.f1.size≤9223372036854775807) : Ev (fun k=>thresherref03_Compare.f k t a.f0 a.f1 b.f0 b.f1) (cmpV t a b):=by
 obtain ⟨g1,g2⟩:=ga
 obtain ⟨g3,g4⟩:=gb
 simp only [thresherref03_Compare.f]
 refine Ev.bind (both_ev t a b) ?_
 by_cases h : fitT t a=true∧fitT t b=true
 ·rw [cmpV_fit h.1 h.2]
  refine Ev.pos (by rw [h.1,h.2];rfl) ?_
  by_cases e2 : t=2
  ·have ec : cmpC t a b=sgn (un a.f0) (un b.f0):=by unfold cmpC;rw [if_neg (by omega),if_pos e2]
   rw [ec]
   refine Ev.pos e2 ?_
   by_cases hn : ((decide (a.f0 < 0)) != (decide (b.f0 < 0)))=true
   ·refine Ev.pos hn (rcmpj_ev _ _ _ ?_)
    simp only [decide_eq_true_eq]
    unfold sgn un
    by_cases p : a.f0 < 0
    ·by_cases q : b.f0 < 0
     ·simp [p,q] at hn
     ·repeat' split
      all_goals omega
    ·by_cases q : b.f0 < 0
     ·repeat' split
      all_goals omega
     ·simp [p,q] at hn
   ·refine Ev.neg hn (rcmpj_ev _ _ _ ?_)
    simp only [decide_eq_true_eq]
    unfold sgn un
    by_cases p : a.f0 < 0
    ·by_cases q : b.f0 < 0
     ·repeat' split
      all_goals omega
     ·simp [p,q] at hn
    ·by_cases q : b.f0 < 0
     ·simp [p,q] at hn
     ·repeat' split
      all_goals omega
  ·refine Ev.neg e2 ?_
   by_cases e3 : t=3
   ·exact (Ev.pos e3 (Ev.bind (texts_ev _ _ hs) (Ev.now _))).eq (by unfold cmpC;rw [if_pos e3])
   ·have ec : cmpC t a b=sgn a.f0 b.f0:=by unfold cmpC;rw [if_neg e3,if_neg e2]
    rw [ec]
    refine Ev.neg e3 (rcmpj_ev _ _ _ ?_)
    simp only [decide_eq_true_eq]
    rfl
 ·exact (Ev.neg (fun q=>h (by simpa using q)) (Ev.now _)).eq (by unfold cmpV;rw [if_neg h])
def GR (r : List XV) : Prop:=∀ v ∈ r,GV v∧v.f1.size≤9223372036854775807
theorem GR.rdV {r : List XV} (h : GR r) (i : Nat) : GV (rdV r i)∧(P.rdV r i).f1.size≤9223372036854775807:=by
 by_cases hi : i < r.length
 ·show GV (rd_T40 r i)∧(rd_T40 r i).f1.size≤_
  rw [rdV_lt r i hi]
  exact h _ (List.getElem_mem hi)
 ·show GV (rd_T40 r i)∧(rd_T40 r i).f1.size≤_
  rw [rdV_ge r i (by omega)]
  exact ⟨⟨by simp,by simp⟩,by decide⟩
end Go.Proofs.Ytapaldcdoahfeaa.P

/- A schema of a shape. -/
namespace Go.Proofs.Ytapaldcdoahfeaa.P
open Go.RowKit Go.Proofs.YtapaldcdoahfeaaW.PrintWords Go.Proofs.YtapaldcdoahfeaaW.PrintLast Go.Proofs.YtapaldcdoahfeaaW.PrintMore
theorem u8_of {x : Int} (h : (Lit.int .u8 x).wf=true) : U8 x:=wf_u8 h
theorem shape_ev {x : S24} (h : gd24 x) : ∃ T K M G,Ev (fun k=>thresherref04_Made.f k x.f0.f0 x.f0.f1 x.f0.f2 x.f0.f3 x.f0.f4 x.f0.f5 x.f0.f6 x.f0.f7 x.f1 x.f2 x.f3 x.f4) (T,K,M,G)∧Sch T K M G:=by
 obtain ⟨⟨h0,h1,h2,h3,h4,h5,h6,h7⟩,ha,hb,hc,hd⟩:=h
 exact made_ev _ _ _ _ _ _ _ _ _ _ _ _ (u8_of h0) (u8_of h1) (u8_of h2) (u8_of h3) (u8_of h4) (u8_of h5) (u8_of h6) (u8_of h7) (u8_of ha) (u8_of hb) (u8_of hc) (u8_of hd)
end Go.Proofs.Ytapaldcdoahfeaa.P

/- value.Compare tells the order of values. -/
namespace Go.Proofs.Ytapaldcdoahfeaa.P
open Go.RowKit Go.Proofs.YtapaldcdoahfeaaW.PrintWords Go.Proofs.YtapaldcdoahfeaaW.PrintLast Go.Proofs.YtapaldcdoahfeaaW.PrintMore
set_option linter.unusedVariables false
set_option linter.unusedSimpArgs false
theorem vfits_f (k : Nat) (t n : Int) (s : ByteArray) : value_Fits.f (k + 1) t n s=some (fitT t ⟨n,s⟩):=by
 unfold value_Fits.f fitT
 by_cases h1 : t=1
 ·rw [if_pos h1,if_pos (Or.inl h1)]
  subst h1
  rfl
 ·rw [if_neg h1]
  by_cases h2 : t=2
  ·rw [if_pos (Or.inr h2)]
   subst h2
   rfl
  ·rw [if_neg (by omega),show (t == 2)=false by simpa using h2]
   simp only [value_Fits.j0,Bool.false_eq_true,if_false]
   by_cases h3 : t=3
   ·rw [if_pos h3,if_pos h3]
    split <;> rfl
   ·rw [if_neg h3,if_neg h3]
theorem vfits_ev (t n : Int) (s : ByteArray) : Ev (fun k=>value_Fits.f k t n s) (fitT t ⟨n,s⟩):=Ev.succ ⟨0,fun k _=>vfits_f k t n s⟩
theorem cmpu_f (x y : Int) : cmp_Compare_uint64.f x y=some (sgn x y):=by
 simp only [cmp_Compare_uint64.f,cmp_isNaN_uint64.f,bne_self_eq_false,Option.bind_some,Bool.false_eq_true,if_false]
 unfold sgn
 split
 ·rfl
 ·split <;> rfl
theorem cmpi_f (x y : Int) : cmp_Compare_int64.f x y=some (sgn x y):=by
 simp only [cmp_Compare_int64.f,cmp_isNaN_int64.f,bne_self_eq_false,Option.bind_some,Bool.false_eq_true,if_false]
 unfold sgn
 split
 ·rfl
 ·split <;> rfl
theorem vcmp_ev (t : Int) (a b : XV) : Ev (fun k=>value_Compare.f k t a.f0 a.f1 b.f0 b.f1) (cmpV t a b):=by
 simp only [value_Compare.f]
 refine Ev.bind (vfits_ev t a.f0 a.f1) ?_
 by_cases ha : fitT t a=true
 ·refine Ev.pos ha (Ev.bind (vfits_ev t b.f0 b.f1) (Ev.succ ?_))
  simp only [value_Compare.j0]
  by_cases hb : fitT t b=true
  ·rw [cmpV_fit ha hb]
   refine Ev.neg (fun h=>?_) ?_
   ·rw [show fitT t ⟨b.f0,b.f1⟩=true from hb] at h
    exact absurd h (by simp)
   ·by_cases e3 : t=3
    ·refine (Ev.pos e3 (Ev.bindc rfl (Ev.now _))).eq ?_
     unfold cmpC
     rw [if_pos e3]
    ·refine Ev.neg e3 ?_
     by_cases e2 : t=2
     ·refine (Ev.pos e2 (Ev.bindc (cmpu_f _ _) (Ev.now _))).eq ?_
      unfold cmpC
      rw [if_neg e3,if_pos e2]
      rfl
     ·refine (Ev.neg e2 (Ev.bindc (cmpi_f _ _) (Ev.now _))).eq ?_
      unfold cmpC
      rw [if_neg e3,if_neg e2]
  ·refine (Ev.pos ?_ (Ev.now _)).eq ?_
   ·rw [show fitT t ⟨b.f0,b.f1⟩=false from Bool.eq_false_iff.mpr hb]
    rfl
   ·unfold cmpV
    rw [if_neg (fun h=>hb h.2)]
 ·refine Ev.neg ha (Ev.succ ?_)
  simp only [value_Compare.j0]
  refine (Ev.pos (by simp) (Ev.now _)).eq ?_
  unfold cmpV
  rw [if_neg (fun h=>ha h.1)]
end Go.Proofs.Ytapaldcdoahfeaa.P

/- The document's Compare of rows tells the same order. -/
namespace Go.Proofs.Ytapaldcdoahfeaa.P
open Go.RowKit Go.Proofs.YtapaldcdoahfeaaW.PrintWords Go.Proofs.YtapaldcdoahfeaaW.PrintLast Go.Proofs.YtapaldcdoahfeaaW.PrintMore
set_option linter.unusedVariables false
set_option linter.unusedSimpArgs false
theorem rowcmp_loop (T : List Int) (K M G : Int) (a b : List XV) (ga : GR a) (gb : GR b) (m : Nat) (hm : min (min (min K.toNat T.length) a.length) b.length=m) (hT : T.length≤1000000000) : ∀ (d i : Nat),i + d=m→Ev (fun k=>thresherref04_Compare.l0 k a b i T K M G) (cmpFrom T a b d i)
 | 0,i,hi=>by
  have hj : Ev (fun k=>thresherref04_Compare.j1 k a b i false T K M G) 0:=by
   refine Ev.succ ?_
   simp only [thresherref04_Compare.j1]
   exact Ev.neg (by simp) (Ev.now _)
  refine Ev.succ ?_
  simp only [thresherref04_Compare.l0]
  unfold cmpFrom
  by_cases h1 : (i : Int) < K
  ·refine Ev.pos h1 ?_
   by_cases h2 : (i : Int) < (T.length : Int)
   ·refine Ev.pos h2 ?_
    by_cases h3 : (i : Int) < (a.length : Int)
    ·refine Ev.pos h3 ?_
     rw [decide_eq_false (by omega : ¬ (i : Int) < (b.length : Int))]
     exact hj
    ·exact Ev.neg h3 hj
   ·exact Ev.neg h2 hj
  ·exact Ev.neg h1 hj
 | d + 1,i,hi=>by
  refine Ev.succ ?_
  simp only [thresherref04_Compare.l0]
  unfold cmpFrom
  refine Ev.pos (by omega) (Ev.pos (by omega) (Ev.pos (by omega) (Ev.succ ?_)))
  simp only [thresherref04_Compare.j1]
  simp (disch:=omega) only [w64]
  refine Ev.pos (decide_eq_true (by omega)) (Ev.pos (by omega) (Ev.pos (by omega) (Ev.pos (by omega) (Ev.pos (by omega) (Ev.bind (rcmp_ev _ _ _ (ga.rdV i).1 (gb.rdV i).1 (ga.rdV i).2) ?_)))))
  by_cases h : cmpV (rd T i) (rdV a i) (rdV b i)=0
  ·rw [if_pos h]
   exact Ev.pos h (rowcmp_loop T K M G a b ga gb m hm hT d (i + 1) (by omega))
  ·rw [if_neg h]
   exact Ev.neg h (Ev.now _)
theorem rowcmp_ev (T : List Int) (K M G : Int) (a b : List XV) (ga : GR a) (gb : GR b) (hT : T.length≤1000000000) : Ev (fun k=>thresherref04_Compare.f k T K M G a b) (cmpRow T K a b):=by
 simp only [thresherref04_Compare.f]
 exact rowcmp_loop T K M G a b ga gb _ rfl hT _ 0 (by omega)
end Go.Proofs.Ytapaldcdoahfeaa.P

/- Rows that fit, as far as they go: their order. -/
namespace Go.Proofs.Ytapaldcdoahfeaa.P
open Go.RowKit Go.Proofs.YtapaldcdoahfeaaW.PrintWords Go.Proofs.YtapaldcdoahfeaaW.PrintLast Go.Proofs.YtapaldcdoahfeaaW.PrintMore
set_option linter.unusedVariables false
set_option linter.unusedSimpArgs false
structure RowOk (T : List Int) (a : List XV) : Prop where
 len : a.length≤T.length
 fit : FitAt T a a.length 0
 gr : GR a
theorem FitAt.mono {T : List Int} {a : List XV} {m m' : Nat} (h : FitAt T a m 0) (hm : m'≤m) : FitAt T a m' 0:=fun j h1 h2=>h j h1 (by omega)
theorem fit1_size (t : Int) (v : XV) (h : v.f1.size≤9223372036854775807) : (fit1 t v).f1.size≤9223372036854775807:=by
 unfold fit1
 split
 ·show (if (v.f1.size : Int) > 60 then v.f1.extract 0 60 else v.f1).size≤_
  split
  ·rw [ByteArray.size_extract];omega
  ·exact h
 ·show (0 : Nat)≤_;omega
theorem fitRow_ok {T : List Int} {K M G : Int} (hS : Sch T K M G) (r : List XV) (hr : GR r) : RowOk T (fitRow T r):=by
 refine ⟨by rw [fitRow_length];omega,by rw [fitRow_length];exact fitRow_at hS r (fun v h=>(hr v h).1) _ (Nat.le_refl _),fun v hv=>?_⟩
 obtain ⟨i,hi,rfl⟩:=List.getElem_of_mem hv
 have hi2 : i < T.length:=by rwa [fitRow_length] at hi
 have e:=rdV_fitRow T r i hi2
 rw [show rdV (fitRow T r) i=(fitRow T r)[i] from rdV_lt _ i hi] at e
 rw [e]
 have:=hr.rdV i
 exact ⟨fit1_GV _ _ this.1,fit1_size _ _ this.2⟩
theorem RowOk.take {T : List Int} {a : List XV} (h : RowOk T a) (n : Nat) : RowOk T (a.take n):=by
 have hl : (a.take n).length≤a.length:=by rw [List.length_take];omega
 refine ⟨by have:=h.len;omega,fun j h1 h2=>?_,fun v hv=>h.gr v (List.mem_of_mem_take hv)⟩
 rw [List.length_take] at h2
 rw [rdV_take a n j (by omega)]
 exact h.fit j h1 (by omega)
theorem cmpFrom_pre (T : List Int) (a b : List XV) : ∀ m' m i,m'≤m→cmpFrom T a b m i≤0→cmpFrom T a b m' i≤0
 | 0,_,_,_,_=>by simp [cmpFrom]
 | m' + 1,0,_,h,_=>by omega
 | m' + 1,m + 1,i,h,hc=>by
  simp only [cmpFrom] at hc ⊢
  split
  ·rename_i h0
   rw [if_pos h0] at hc
   exact cmpFrom_pre T a b m' m (i + 1) (by omega) hc
  ·rename_i h0
   rw [if_neg h0] at hc
   exact hc
theorem cmpRow_anti (T : List Int) (K : Int) (a b : List XV) : cmpRow T K b a=- cmpRow T K a b:=by
 unfold cmpRow
 rw [cmpFrom_anti,show min (min (min K.toNat T.length) b.length) a.length=min (min (min K.toNat T.length) a.length) b.length by omega]
theorem cmpRow_tr (T : List Int) (K : Int) {a b c : List XV} (ha : RowOk T a) (hb : RowOk T b) (hc : RowOk T c) (hf : min K.toNat T.length≤b.length) : cmpRow T K a b≤0→cmpRow T K b c≤0→cmpRow T K a c≤0:=by
 unfold cmpRow
 intro h1 h2
 exact cmpFrom_trans T a b c _ 0 (ha.fit.mono (by omega)) (hb.fit.mono (by omega)) (hc.fit.mono (by omega)) (cmpFrom_pre T a b _ _ 0 (by omega) h1) (cmpFrom_pre T b c _ _ 0 (by omega) h2)
theorem cmpRow_self (T : List Int) (K : Int) (a : List XV) : cmpRow T K a a=0:=by have:=cmpRow_anti T K a a;omega
structure Full (T : List Int) (K : Int) (a : List XV) : Prop where
 ok : RowOk T a
 key : min K.toNat T.length≤a.length
theorem fitRow_full {T : List Int} {K M G : Int} (hS : Sch T K M G) (r : List XV) (hr : GR r) : Full T K (fitRow T r):=⟨fitRow_ok hS r hr,by rw [fitRow_length];omega⟩
def InOrd (T : List Int) (K : Int) (l : List (List XV)) : Prop:=l.Pairwise (fun a b=>cmpRow T K a b≤0)
theorem InOrd.at {T : List Int} {K : Int} {l : List (List XV)} (h : InOrd T K l) {i j : Nat} (hij : i≤j) (hj : j < l.length) : cmpRow T K (rdR l i) (rdR l j)≤0:=by
 rw [show rdR l i=l[i] from rdR_lt l i (by omega),show rdR l j=l[j] from rdR_lt l j hj]
 rcases Nat.eq_or_lt_of_le hij with e|h1
 ·subst e;rw [cmpRow_self];omega
 ·exact List.pairwise_iff_getElem.mp h i j (by omega) hj h1
end Go.Proofs.Ytapaldcdoahfeaa.P

/- The aggregates, plain: what agg.Rows tells, and that the order of rows does not matter. -/
namespace Go.Proofs.Ytapaldcdoahfeaa.P
open Go.RowKit Go.Proofs.YtapaldcdoahfeaaW.PrintWords Go.Proofs.YtapaldcdoahfeaaW.PrintLast Go.Proofs.YtapaldcdoahfeaaW.PrintMore
set_option linter.unusedVariables false
set_option linter.unusedSimpArgs false
abbrev XC:=S42
abbrev XG:=S33
def pickV (q : XV→XV→Int) (a b : XV) : XV:=if q b a < 0 then b else a
def plusV (a b : XV) : XV:=⟨wrap64 (a.f0 + b.f0),⟨#[]⟩⟩
def joinV (kd t : Int) (a b : XV) : XV:=if kd≤2 then plusV a b else if kd=3 then pickV (cmpV t) a b else pickV (fun x y=>cmpV t y x) a b
def bothV (kd t : Int) (c : XC) (v : XV) : XC:=if c.f0=true then ⟨true,joinV kd t c.f1 v⟩ else ⟨true,v⟩
def foldV (kd t col : Int) (c : XC) (rows : List (List XV)) : XC:=rows.foldl (fun c r=>bothV kd t c (aggOf kd (rd_T40 r col))) c
def oneV (T : List Int) (rows : List (List XV)) (x : XG) : XC:=foldV x.f0 (rd T x.f1) x.f1 (aggFirst x.f0) rows
def OkAgg (T : List Int) (x : XG) : Prop:=1≤x.f0∧x.f0≤4∧0≤x.f1∧x.f1 < (T.length : Int)
theorem aggJ_ev (kd t : Int) (a b : XV) : Ev (fun k=>aggJ k kd t a b) ((joinV kd t a b).f0,(joinV kd t a b).f1):=by
 unfold aggJ joinV
 by_cases h2 : kd≤2
 ·simp only [if_pos h2]
  exact Ev.now _
 ·simp only [if_neg h2]
  by_cases h3 : kd=3
  ·simp only [if_pos h3]
   unfold agg_least.f pickV
   refine Ev.bind (vcmp_ev t b a) ?_
   by_cases h : cmpV t b a < 0
   ·simp only [if_pos h];exact Ev.now _
   ·simp only [if_neg h];exact Ev.now _
  ·simp only [if_neg h3]
   unfold agg_most.f pickV
   refine Ev.bind (vcmp_ev t b a) ?_
   have e:=cmpV_anti t a b
   by_cases h : cmpV t b a > 0
   ·rw [if_pos (show cmpV t a b < 0 by omega)]
    simp only [if_pos h];exact Ev.now _
   ·rw [if_neg (show ¬ cmpV t a b < 0 by omega)]
    simp only [if_neg h];exact Ev.now _
theorem aggBoth_ev (kd t : Int) (c : XC) (v : XV) : Ev (fun k=>aggBoth k kd t c v) (bothV kd t c v):=by
 unfold aggBoth bothV
 by_cases h : c.f0=true
 ·simp only [if_pos h]
  exact Ev.bind (aggJ_ev kd t c.f1 v) (Ev.now _)
 ·simp only [if_neg h]
  exact Ev.now _
theorem aggFold_ev (kd t col : Int) : ∀ (rows : List (List XV)) (c : XC),(∀ r ∈ rows,col < (r.length : Int))→Ev (fun k=>aggFold k kd t col c rows) (foldV kd t col c rows)
 | [],c,_=>Ev.now _
 | r :: rs,c,h=>by
  simp only [aggFold]
  refine Ev.pos (h r List.mem_cons_self) (Ev.bind (aggBoth_ev kd t c _) ?_)
  exact aggFold_ev kd t col rs _ (fun r' hr'=>h r' (List.mem_cons_of_mem _ hr'))
theorem aggAll_ev (T : List Int) (rows : List (List XV)) (hw : ∀ r ∈ rows,r.length=T.length) : ∀ l : List XG,(∀ x ∈ l,OkAgg T x)→Ev (fun k=>aggAll k T rows l) (l.map (oneV T rows))
 | [],_=>Ev.now _
 | x :: l,h=>by
  obtain ⟨h1,h2,h3,h4⟩:=h x List.mem_cons_self
  simp only [aggAll]
  refine Ev.bind (a:=oneV T rows x) ?_ (Ev.bind (aggAll_ev T rows hw l (fun y hy=>h y (List.mem_cons_of_mem _ hy))) (Ev.now _))
  unfold aggOne
  exact Ev.pos ⟨h1,h2,h3,h4⟩ (aggFold_ev _ _ _ _ _ (fun r hr=>by rw [hw r hr];exact h4))
theorem agg_ev (T : List Int) (a b d : Int) (rows : List (List XV)) (hw : ∀ r ∈ rows,r.length=T.length) (hn : rows.length≤1000) (l : List XG) (hl : l.length≤1000) (h : ∀ x ∈ l,OkAgg T x) : Ev (fun k=>agg_Rows.f k T a b d l rows) (l.map (oneV T rows)):=by
 unfold agg_Rows.f
 exact Ev.pos ⟨by omega,by omega⟩ (aggAll_ev T rows hw l h)
theorem wrap_add (x y z : Int) : wrap64 (wrap64 (x + y) + z)=wrap64 (wrap64 (x + z) + y):=by unfold wrap64;omega
theorem wrap_add2 (x y : Int) : wrap64 (x + y)=wrap64 (y + x):=by rw [Int.add_comm]
theorem pickV_comm (q : XV→XV→Int) (x y z : XV) (ht : ∀ a b c,(a=x ∨ a=y ∨ a=z)→(b=x ∨ b=y ∨ b=z)→(c=x ∨ c=y ∨ c=z)→q a b≤0→q b c≤0→q a c≤0) (ha : ∀ a b,q b a=- q a b) (h0 : q x y=0→x=y) : pickV q (pickV q z x) y=pickV q (pickV q z y) x:=by
 have a1:=ha x z
 have a2:=ha y z
 have a3:=ha x y
 unfold pickV
 by_cases c1 : q x z < 0
 ·rw [if_pos c1]
  by_cases c2 : q y z < 0
  ·rw [if_pos c2]
   by_cases c3 : q y x < 0
   ·rw [if_pos c3,if_neg (by omega)]
   ·rw [if_neg c3]
    by_cases c4 : q x y < 0
    ·rw [if_pos c4]
    ·rw [if_neg c4]
     exact h0 (by omega)
  ·rw [if_neg c2,if_pos c1]
   by_cases c3 : q y x < 0
   ·exfalso
    have:=ht z y x (by simp) (by simp) (by simp) (by omega) (by omega)
    omega
   ·rw [if_neg c3]
 ·rw [if_neg c1]
  by_cases c2 : q y z < 0
  ·rw [if_pos c2]
   by_cases c3 : q x y < 0
   ·exfalso
    have:=ht z x y (by simp) (by simp) (by simp) (by omega) (by omega)
    omega
   ·rw [if_neg c3]
  ·rw [if_neg c2,if_neg c1]
theorem pick_unfit {t : Int} {q : XV→XV→Int} (hq : ∀ a b,¬ (fitT t a=true∧fitT t b=true)→q a b=0) {z : XV} (hz : ¬ fitT t z=true) (x : XV) : pickV q z x=z:=by
 unfold pickV
 rw [if_neg (by rw [hq x z (fun h=>hz h.2)];omega)]
theorem cmpV_unfit (t : Int) (a b : XV) (h : ¬ (fitT t a=true∧fitT t b=true)) : cmpV t a b=0:=by
 unfold cmpV
 rw [if_neg h]
theorem joinV_comm (kd t : Int) (x y z : XV) (hx : fitT t x=true) (hy : fitT t y=true) (gx : GV x) (gy : GV y) : joinV kd t (joinV kd t z x) y=joinV kd t (joinV kd t z y) x:=by
 unfold joinV
 by_cases h2 : kd≤2
 ·simp only [if_pos h2]
  unfold plusV
  rw [wrap_add]
 ·simp only [if_neg h2]
  by_cases h3 : kd=3
  ·simp only [if_pos h3]
   by_cases hz : fitT t z=true
   ·refine pickV_comm _ x y z (fun a b c ha hb hc=>?_) (fun a b=>cmpV_anti t a b) (fun h=>(cmpV_zero t x y hx hy gx gy).mp h)
    have f : ∀ a,(a=x ∨ a=y ∨ a=z)→fitT t a=true:=fun a h=>by rcases h with rfl|rfl|rfl <;> assumption
    exact cmpV_trans t a b c (f a ha) (f b hb) (f c hc)
   ·rw [pick_unfit (cmpV_unfit t) hz,pick_unfit (cmpV_unfit t) hz,pick_unfit (cmpV_unfit t) hz]
  ·simp only [if_neg h3]
   by_cases hz : fitT t z=true
   ·refine pickV_comm _ x y z (fun a b c ha hb hc h1 h2=>?_) (fun a b=>cmpV_anti t b a) (fun h=>((cmpV_zero t y x hy hx gy gx).mp h).symm)
    have f : ∀ a,(a=x ∨ a=y ∨ a=z)→fitT t a=true:=fun a h=>by rcases h with rfl|rfl|rfl <;> assumption
    exact cmpV_trans t c b a (f c hc) (f b hb) (f a ha) h2 h1
   ·have hq : ∀ a b : XV,¬ (fitT t a=true∧fitT t b=true)→(fun x y=>cmpV t y x) a b=0:=fun a b h=>cmpV_unfit t b a (fun h'=>h ⟨h'.2,h'.1⟩)
    rw [pick_unfit hq hz,pick_unfit hq hz,pick_unfit hq hz]
theorem joinV_comm0 (kd t : Int) (x y : XV) (hx : fitT t x=true) (hy : fitT t y=true) (gx : GV x) (gy : GV y) : joinV kd t x y=joinV kd t y x:=by
 unfold joinV
 by_cases h2 : kd≤2
 ·simp only [if_pos h2]
  unfold plusV
  rw [wrap_add2]
 ·simp only [if_neg h2]
  have e:=cmpV_anti t x y
  have z:=cmpV_zero t x y hx hy gx gy
  by_cases h3 : kd=3
  ·simp only [if_pos h3]
   unfold pickV
   by_cases c1 : cmpV t y x < 0
   ·rw [if_pos c1,if_neg (by omega)]
   ·rw [if_neg c1]
    by_cases c2 : cmpV t x y < 0
    ·rw [if_pos c2]
    ·rw [if_neg c2];exact z.mp (by omega)
  ·simp only [if_neg h3,pickV]
   by_cases c1 : cmpV t x y < 0
   ·rw [if_pos c1,if_neg (by omega)]
   ·rw [if_neg c1]
    by_cases c2 : cmpV t y x < 0
    ·rw [if_pos c2]
    ·rw [if_neg c2];exact z.mp (by omega)
theorem bothV_comm (kd t : Int) (x y : XV) (c : XC) (h : kd≤2 ∨ (fitT t x=true∧fitT t y=true∧GV x∧GV y)) : bothV kd t (bothV kd t c x) y=bothV kd t (bothV kd t c y) x:=by
 obtain ⟨c0,c1⟩:=c
 have key : (∀ z,joinV kd t (joinV kd t z x) y=joinV kd t (joinV kd t z y) x)∧joinV kd t x y=joinV kd t y x:=by
  rcases h with h|⟨h1,h2,h3,h4⟩
  ·refine ⟨fun z=>?_,?_⟩
   ·simp only [joinV,if_pos h,plusV,wrap_add]
   ·simp only [joinV,if_pos h,plusV];rw [wrap_add2]
  ·exact ⟨fun z=>joinV_comm kd t x y z h1 h2 h3 h4,joinV_comm0 kd t x y h1 h2 h3 h4⟩
 cases c0 with
 | true=>simp only [bothV,if_true];rw [key.1]
 | false=>simp only [bothV,if_true,Bool.false_eq_true,if_false];rw [key.2]
theorem oneV_perm {T : List Int} {K M G : Int} (hS : Sch T K M G) {rows rows' : List (List XV)} (hp : rows.Perm rows') (hr : ∀ r ∈ rows,RowOk T r∧r.length=T.length) (x : XG) (hx : OkAgg T x) : oneV T rows x=oneV T rows' x:=by
 unfold oneV foldV
 refine hp.foldl_eq' (fun a ha b hb z=>?_) _
 refine bothV_comm _ _ _ _ _ ?_
 by_cases h : x.f0≤2
 ·exact Or.inl h
 ·right
  obtain ⟨h1,h2,h3,h4⟩:=hx
  obtain ⟨j,hj⟩ : ∃ j : Nat,x.f1=j:=⟨x.f1.toNat,by omega⟩
  have e : ∀ v : XV,aggOf x.f0 v=v:=fun v=>by unfold aggOf;rw [if_neg (by omega)]
  rw [e,e,hj]
  have f:=fun r (hr_ : r ∈ rows)=>(hr r hr_).1.fit j (Nat.zero_le _) (by rw [(hr r hr_).2];omega)
  exact ⟨(f a ha).1,(f b hb).1,(f a ha).2,(f b hb).2⟩
end Go.Proofs.Ytapaldcdoahfeaa.P

/- The document's Sort puts rows in order. -/
namespace Go.Proofs.Ytapaldcdoahfeaa.P
open Go.RowKit Go.Proofs.YtapaldcdoahfeaaW.PrintWords Go.Proofs.YtapaldcdoahfeaaW.PrintLast Go.Proofs.YtapaldcdoahfeaaW.PrintMore
set_option linter.unusedVariables false
set_option linter.unusedSimpArgs false
def insR (T : List Int) (K : Int) (x : List XV) : List (List XV)→List (List XV)
 | []=>[x]
 | y :: l=>if cmpRow T K y x > 0 then x :: y :: l else y :: insR T K x l
theorem insR_cons (T : List Int) (K : Int) (x y : List XV) (l : List (List XV)) : insR T K x (y :: l)=if cmpRow T K y x > 0 then x :: y :: l else y :: insR T K x l:=rfl
def sortR (T : List Int) (K : Int) (l acc : List (List XV)) : List (List XV):=l.foldl (fun a x=>insR T K x a) acc
theorem insR_length (T : List Int) (K : Int) (x : List XV) : ∀ l,(insR T K x l).length=l.length + 1
 | []=>rfl
 | y :: l=>by
  unfold insR
  split
  ·simp
  ·simp [insR_length T K x l]
theorem insR_mem (T : List Int) (K : Int) (x : List XV) : ∀ l z,z ∈ insR T K x l ↔ z=x ∨ z ∈ l
 | [],z=>by simp [insR]
 | y :: l,z=>by
  unfold insR
  split
  ·simp
  ·rw [List.mem_cons,insR_mem T K x l z,List.mem_cons]
   constructor
   ·rintro (h|h|h)
    ·exact Or.inr (Or.inl h)
    ·exact Or.inl h
    ·exact Or.inr (Or.inr h)
   ·rintro (h|h|h)
    ·exact Or.inr (Or.inl h)
    ·exact Or.inl h
    ·exact Or.inr (Or.inr h)
theorem insR_ord (T : List Int) (K : Int) (x : List XV) (hx : Full T K x) : ∀ l,(∀ r ∈ l,Full T K r)→InOrd T K l→InOrd T K (insR T K x l)
 | [],_,_=>List.pairwise_singleton _ _
 | y :: l,hl,ho=>by
  have ho2:=List.pairwise_cons.mp ho
  have hy:=hl y List.mem_cons_self
  unfold insR
  split
  ·rename_i h
   have h2 : cmpRow T K x y≤0:=by rw [cmpRow_anti];omega
   refine List.pairwise_cons.mpr ⟨fun z hz=>?_,ho⟩
   rcases List.mem_cons.mp hz with rfl|hz
   ·exact h2
   ·exact cmpRow_tr T K hx.ok hy.ok (hl z (List.mem_cons_of_mem _ hz)).ok hy.key h2 (ho2.1 z hz)
  ·rename_i h
   refine List.pairwise_cons.mpr ⟨fun z hz=>?_,insR_ord T K x hx l (fun r hr=>hl r (List.mem_cons_of_mem _ hr)) ho2.2⟩
   rcases (insR_mem T K x l z).mp hz with rfl|hz
   ·omega
   ·exact ho2.1 z hz
theorem sortR_all (T : List Int) (K : Int) : ∀ (l acc : List (List XV)),(∀ r ∈ l,Full T K r)→(∀ r ∈ acc,Full T K r)→InOrd T K acc→InOrd T K (sortR T K l acc)∧(sortR T K l acc).length=l.length + acc.length∧∀ z,z ∈ sortR T K l acc ↔ z ∈ l ∨ z ∈ acc
 | [],acc,_,_,ho=>⟨ho,by simp [sortR],fun z=>by simp [sortR]⟩
 | x :: l,acc,hl,ha,ho=>by
  have hx:=hl x List.mem_cons_self
  obtain ⟨a1,a2,a3⟩:=sortR_all T K l (insR T K x acc) (fun r hr=>hl r (List.mem_cons_of_mem _ hr)) (fun r hr=>by
   rcases (insR_mem T K x acc r).mp hr with rfl|h
   ·exact hx
   ·exact ha r h) (insR_ord T K x hx acc ha ho)
  refine ⟨a1,?_,fun z=>?_⟩
  ·show (sortR T K l (insR T K x acc)).length=_
   rw [a2,insR_length,List.length_cons];omega
  ·show z ∈ sortR T K l (insR T K x acc) ↔ _
   rw [a3,insR_mem,List.mem_cons]
   constructor
   ·rintro (h|h|h)
    ·exact Or.inl (Or.inr h)
    ·exact Or.inl (Or.inl h)
    ·exact Or.inr h
   ·rintro ((h|h)|h)
    ·exact Or.inr (Or.inl h)
    ·exact Or.inl h
    ·exact Or.inr (Or.inr h)
theorem sort_in (T : List Int) (K M G : Int) (hT : T.length≤1000000000) (l out : List (List XV)) (i : Nat) (hi : i < l.length) (hl : l.length≤1000000) (ho : out.length≤1000000) (gl : ∀ r ∈ l,GR r) (go : ∀ r ∈ out,GR r) {R : List (List XV)} (hR : Ev (fun k=>thresherref09_Sort.l0 k l (insR T K l[i] out) ((i + 1 : Nat) : Int) T K M G) R) :
  ∀ (d j : Nat) (next : List (List XV)) (put : Bool),j + d=out.length→next.length≤2 * j + 1→(put=true→next ++ out.drop j=insR T K l[i] out)→(put=false→next ++ insR T K l[i] (out.drop j)=insR T K l[i] out)→Ev (fun k=>thresherref09_Sort.l1 k l out i next put j T K M G) R
 | 0,j,next,put,hj,hn,hp,hq=>by
  refine Ev.succ ?_
  simp only [thresherref09_Sort.l1]
  have e0 : out.drop j=[]:=List.drop_of_length_le (by omega)
  rw [e0] at hp hq
  refine Ev.neg (by omega) ?_
  cases put
  ·have h:=hq rfl
   refine Ev.neg (by simp) (Ev.pos (by omega) (Ev.pos (by omega) (Ev.pos (by omega) ?_)))
   rw [rdR_lt l i hi]
   simp (disch:=omega) only [w64]
   rw [show next ++ [l[i]]=insR T K l[i] out from h]
   exact hR
  ·have h:=hp rfl
   rw [List.append_nil] at h
   refine Ev.pos rfl ?_
   simp (disch:=omega) only [w64]
   rw [h]
   exact hR
 | d + 1,j,next,put,hj,hn,hp,hq=>by
  have h : j < out.length:=by omega
  refine Ev.succ ?_
  simp only [thresherref09_Sort.l1]
  rw [List.drop_eq_getElem_cons h] at hp hq
  rw [rdR_lt out j h,rdR_lt l i hi]
  simp (disch:=omega) only [w64]
  refine Ev.pos (by omega) ?_
  cases put
  ·refine Ev.neg (by simp) (Ev.pos (by omega) (Ev.pos (by omega) (Ev.pos (by omega) (Ev.bind (rowcmp_ev T K M G out[j] l[i] (go _ (List.getElem_mem h)) (gl _ (List.getElem_mem hi)) hT) ?_))))
   have hq2:=hq rfl
   rw [insR_cons] at hq2
   by_cases hc : cmpRow T K out[j] l[i] > 0
   ·rw [if_pos hc] at hq2
    refine Ev.pos hc (Ev.pos (by omega) (Ev.bindc rfl (Ev.pos (by simp;omega) ?_)))
    refine sort_in T K M G hT l out i hi hl ho gl go hR d (j + 1) _ true (by omega) (by simp;omega) (fun _=>?_) (fun h=>absurd h (by simp))
    rw [← hq2];simp
   ·rw [if_neg hc] at hq2
    refine Ev.neg hc (Ev.pos (by omega) ?_)
    refine sort_in T K M G hT l out i hi hl ho gl go hR d (j + 1) _ false (by omega) (by simp;omega) (fun h=>absurd h (by simp)) (fun _=>?_)
    rw [← hq2];simp
  ·refine Ev.pos rfl (Ev.pos (by omega) (Ev.pos (by omega) ?_))
   refine sort_in T K M G hT l out i hi hl ho gl go hR d (j + 1) _ true (by omega) (by simp;omega) (fun _=>?_) (fun h=>absurd h (by simp))
   rw [← hp rfl];simp
theorem sort_loop (T : List Int) (K M G : Int) (hT : T.length≤1000000000) (l : List (List XV)) (hl : l.length≤500000) (gl : ∀ r ∈ l,GR r) : ∀ (d i : Nat) (acc : List (List XV)),i + d=l.length→acc.length≤i→(∀ r ∈ acc,GR r)→Ev (fun k=>thresherref09_Sort.l0 k l acc i T K M G) (sortR T K (l.drop i) acc)
 | 0,i,acc,hi,ha,ga=>by
  refine Ev.succ ?_
  simp only [thresherref09_Sort.l0]
  rw [List.drop_of_length_le (by omega)]
  exact Ev.neg (by omega) (Ev.now _)
 | d + 1,i,acc,hi,ha,ga=>by
  have h : i < l.length:=by omega
  refine Ev.succ ?_
  simp only [thresherref09_Sort.l0]
  refine Ev.pos (by omega) ?_
  rw [List.drop_eq_getElem_cons h]
  have hR:=sort_loop T K M G hT l hl gl d (i + 1) (insR T K l[i] acc) (by omega) (by rw [insR_length];omega) (fun r hr=>by
   rcases (insR_mem T K l[i] acc r).mp hr with rfl|h2
   ·exact gl _ (List.getElem_mem h)
   ·exact ga r h2)
  exact sort_in T K M G hT l acc i h (by omega) (by omega) gl ga hR acc.length 0 [] false (by omega) (by simp) (fun h=>absurd h (by simp)) (fun _=>rfl)
theorem sort_ev (T : List Int) (K M G : Int) (hT : T.length≤1000000000) (l : List (List XV)) (hl : l.length≤500000) (gl : ∀ r ∈ l,GR r) : Ev (fun k=>thresherref09_Sort.f k T K M G l) (sortR T K l []):=by
 simp only [thresherref09_Sort.f]
 exact sort_loop T K M G hT l hl gl l.length 0 [] (by omega) (by simp) (by simp)
end Go.Proofs.Ytapaldcdoahfeaa.P

/- thresherref20: Same, Fit; the example; the schema of a shape: plain. -/
namespace Go.Proofs.Ytapaldcdoahfeaa.P
open Go.RowKit Go.Proofs.YtapaldcdoahfeaaW.PrintWords Go.Proofs.YtapaldcdoahfeaaW.PrintLast Go.Proofs.YtapaldcdoahfeaaW.PrintMore
set_option linter.unusedVariables false
set_option linter.unusedSimpArgs false
theorem shown20_ev : Ev (fun k=>thresherlaw20_shown.f k) true:=Ev.of thresherlaw20_shown.mono (k:=12) (by kernel_rfl)
theorem made20_ev {x : S24} (h : gd24 x) : ∃ T K M G,Ev (fun k=>thresherlaw20_made.f k x.f0.f0 x.f0.f1 x.f0.f2 x.f0.f3 x.f0.f4 x.f0.f5 x.f0.f6 x.f0.f7 x.f1 x.f2 x.f3 x.f4) (T,K,M,G)∧Sch T K M G:=by
 obtain ⟨T,K,M,G,h1,h2⟩:=shape_ev h
 exact ⟨T,K,M,G,Ev.bind h1 (Ev.now _),h2⟩
theorem same20_loop (a : List XC) (ha : a.length≤1000000) : ∀ (d i : Nat),i + d=a.length→Ev (fun k=>thresherref20_Same.l0 k a a i) true
 | 0,i,hi=>by
  refine Ev.succ ?_
  simp only [thresherref20_Same.l0]
  exact Ev.neg (by omega) (Ev.now _)
 | d + 1,i,hi=>by
  refine Ev.succ ?_
  simp only [thresherref20_Same.l0]
  simp (disch:=omega) only [w64]
  exact Ev.pos (by omega) (Ev.pos (by omega) (Ev.pos (by omega) (Ev.neg (by simp) (same20_loop a ha d (i + 1) (by omega)))))
theorem same20_ev (a : List XC) (ha : a.length≤1000000) : Ev (fun k=>thresherref20_Same.f k a a) true:=by
 simp only [thresherref20_Same.f]
 exact Ev.pos (by simp) (same20_loop a ha a.length 0 (by omega))
end Go.Proofs.Ytapaldcdoahfeaa.P

/- Rows made to fit, and put in order. -/
namespace Go.Proofs.Ytapaldcdoahfeaa.P
open Go.RowKit Go.Proofs.YtapaldcdoahfeaaW.PrintWords Go.Proofs.YtapaldcdoahfeaaW.PrintLast Go.Proofs.YtapaldcdoahfeaaW.PrintMore
set_option linter.unusedVariables false
set_option linter.unusedSimpArgs false
theorem GR_gd {r : List XV} (h : ∀ v ∈ r,gd40 v) : GR r:=fun v hv=>by
 obtain ⟨h1,h2⟩:=h v hv
 exact ⟨wf_i64 h1,by unfold maxLen at h2;omega⟩
def fitsR (T : List Int) (l : List (List XV)) : List (List XV):=(l.take 60).map (fitRow T)
structure Rows60 (T : List Int) (K : Int) (l : List (List XV)) : Prop where
 len : l.length≤60
 full : ∀ r ∈ l,Full T K r
 wide : ∀ r ∈ l,r.length=T.length
theorem Rows60.gr {T : List Int} {K : Int} {l : List (List XV)} (h : Rows60 T K l) : ∀ r ∈ l,GR r:=fun r hr=>(h.full r hr).ok.gr
theorem fitsR_ok {T : List Int} {K M G : Int} (hS : Sch T K M G) (l : List (List XV)) (hl : ∀ a ∈ l,∀ v ∈ a,gd40 v) : Rows60 T K (fitsR T l):=by
 refine ⟨by unfold fitsR;rw [List.length_map,List.length_take];omega,fun r hr=>?_,fun r hr=>?_⟩
 ·obtain ⟨a,ha,rfl⟩:=List.mem_map.mp hr
  exact fitRow_full hS a (GR_gd (hl a (List.mem_of_mem_take ha)))
 ·obtain ⟨a,ha,rfl⟩:=List.mem_map.mp hr
  exact fitRow_length T a
theorem sorted_ok {T : List Int} {K : Int} {l : List (List XV)} (h : Rows60 T K l) : Rows60 T K (sortR T K l [])∧InOrd T K (sortR T K l []):=by
 obtain ⟨a1,a2,a3⟩:=sortR_all T K l [] h.full (by simp) List.Pairwise.nil
 refine ⟨⟨by have:=h.len;simp at a2;omega,fun r hr=>?_,fun r hr=>?_⟩,a1⟩
 ·rcases (a3 r).mp hr with q|q
  ·exact h.full r q
  ·exact absurd q (by simp)
 ·rcases (a3 r).mp hr with q|q
  ·exact h.wide r q
  ·exact absurd q (by simp)
end Go.Proofs.Ytapaldcdoahfeaa.P

/- The least and the greatest are the first and the last of rows in order; a count is how many there are: the plain law. -/
namespace Go.Proofs.Ytapaldcdoahfeaa.Pure
open Go.RowKit Go.Proofs.Ytapaldcdoahfeaa.P Go.Proofs.YtapaldcdoahfeaaW.PrintWords Go.Proofs.YtapaldcdoahfeaaW.PrintLast
set_option linter.unusedVariables false
set_option linter.unusedSectionVars false
theorem insR_perm (T : List Int) (K : Int) (x : List XV) : ∀ l,(insR T K x l).Perm (x :: l)
 | []=>List.Perm.refl _
 | y :: l=>by
  rw [insR_cons]
  split
  ·exact List.Perm.refl _
  ·exact ((insR_perm T K x l).cons y).trans (List.Perm.swap _ _ _)
theorem sortR_perm (T : List Int) (K : Int) : ∀ (l acc : List (List XV)),(sortR T K l acc).Perm (l ++ acc)
 | [],acc=>List.Perm.refl _
 | x :: l,acc=>by
  have h : sortR T K (x :: l) acc=sortR T K l (insR T K x acc):=rfl
  rw [h]
  refine (sortR_perm T K l _).trans ?_
  refine ((insR_perm T K x acc).append_left l).trans ?_
  exact List.perm_middle
theorem count_fold (t col : Int) : ∀ (rows : List (List XV)) (n : Nat),n + rows.length≤1000→foldV 1 t col ⟨true,⟨n,⟨#[]⟩⟩⟩ rows=⟨true,⟨((n + rows.length : Nat) : Int),⟨#[]⟩⟩⟩
 | [],n,_=>rfl
 | r :: rs,n,h=>by
  have h2 : n + (rs.length + 1)≤1000:=by simpa using h
  have e : foldV 1 t col ⟨true,⟨n,⟨#[]⟩⟩⟩ (r :: rs)=foldV 1 t col ⟨true,⟨wrap64 ((n : Int) + 1),⟨#[]⟩⟩⟩ rs:=rfl
  rw [e,w64 (by omega) (by omega)]
  have:=count_fold t col rs (n + 1) (by omega)
  rw [show ((n + 1 : Nat) : Int)=(n : Int) + 1 from rfl] at this
  rw [this]
  congr 3
  simp only [List.length_cons]
  omega
theorem min_fold (t : Int) (v : XV) : ∀ (rows : List (List XV)),(∀ r ∈ rows,cmpV t v (rdV r 0)≤0)→foldV 3 t 0 ⟨true,v⟩ rows=⟨true,v⟩
 | [],_=>rfl
 | r :: rs,h=>by
  have h1:=h r List.mem_cons_self
  have h2:=cmpV_anti t v (rdV r 0)
  have e : foldV 3 t 0 ⟨true,v⟩ (r :: rs)=foldV 3 t 0 ⟨true,pickV (cmpV t) v (rdV r 0)⟩ rs:=rfl
  rw [e]
  unfold pickV
  rw [if_neg (by omega)]
  exact min_fold t v rs (fun x hx=>h x (List.mem_cons_of_mem _ hx))
theorem max_fold (t : Int) : ∀ (rows : List (List XV)) (s : List XV),(s :: rows).Pairwise (fun a b=>cmpV t (rdV a 0) (rdV b 0)≤0)→(∀ r ∈ s :: rows,fitT t (rdV r 0)=true∧GV (rdV r 0)) →
  foldV 4 t 0 ⟨true,rdV s 0⟩ rows=⟨true,rdV ((s :: rows).getLast (by simp)) 0⟩
 | [],s,_,_=>rfl
 | r :: rs,s,h,hf=>by
  obtain ⟨h1,h2⟩:=List.pairwise_cons.mp h
  have h3:=h1 r List.mem_cons_self
  have e : foldV 4 t 0 ⟨true,rdV s 0⟩ (r :: rs)=foldV 4 t 0 ⟨true,pickV (fun x y=>cmpV t y x) (rdV s 0) (rdV r 0)⟩ rs:=rfl
  have hp : pickV (fun x y=>cmpV t y x) (rdV s 0) (rdV r 0)=rdV r 0:=by
   simp only [pickV]
   by_cases c : cmpV t (rdV s 0) (rdV r 0) < 0
   ·rw [if_pos c]
   ·rw [if_neg c]
    obtain ⟨f1,g1⟩:=hf s List.mem_cons_self
    obtain ⟨f2,g2⟩:=hf r (List.mem_cons_of_mem _ List.mem_cons_self)
    exact (cmpV_zero t _ _ f1 f2 g1 g2).mp (by omega)
  rw [e,hp,max_fold t rs r h2 (fun x hx=>hf x (List.mem_cons_of_mem _ hx))]
  rfl
theorem cmpRow_one {T : List Int} {a b : List XV} (hT : 1≤T.length) (ha : a.length=T.length) (hb : b.length=T.length) : cmpRow T 1 a b=cmpV (rd T 0) (rdV a 0) (rdV b 0):=by
 unfold cmpRow
 rw [show min (min (min (1 : Int).toNat T.length) a.length) b.length=1 by rw [ha,hb];simp;omega]
 unfold cmpFrom
 split
 ·next h=>rw [show cmpFrom T a b 0 (0 + 1)=0 from rfl];exact h.symm
 ·rfl
def threeG : List XG:=[⟨3,0⟩,⟨4,0⟩,⟨1,0⟩]
theorem AggEnds : thresherlaw20_AggEnds.PureG:=by
 intro x r hx ⟨hr,hr2⟩
 obtain ⟨T,K0,M,G,hmade,hS0⟩:=made20_ev hx
 have n1:=hS0.n1
 have n8:=hS0.n8
 have hS : Sch T 1 M G:=⟨hS0.n1,hS0.n8,hS0.ty,by omega,by omega,hS0.m1,hS0.m3,hS0.g1,hS0.g8⟩
 have hfo:=fitsR_ok hS r (fun a h=>(hr2 a h).2)
 have hf:=fits_ev T 1 M G r 60 (by omega) (by omega)
 have hs:=sort_ev T 1 M G (by omega) (fitsR T r) (by have:=hfo.len;omega) hfo.gr
 obtain ⟨ho,hord⟩:=sorted_ok hfo
 have hperm:=sortR_perm T 1 (fitsR T r) []
 rw [List.append_nil] at hperm
 obtain ⟨srt,hsrt⟩ : ∃ srt,sortR T 1 (fitsR T r) []=srt:=⟨_,rfl⟩
 rw [hsrt] at hs ho hord hperm
 obtain ⟨rows,hrows⟩ : ∃ rows,rows=fitsR T r:=⟨_,rfl⟩
 have hf' : Ev (fun k=>thresherref04_Fits.f k T 1 M G r 60) rows:=by rw [hrows];exact hf
 rw [← hrows] at hs hfo hperm
 clear hf hsrt hrows
 have hlen:=hfo.len
 have hlen2:=ho.len
 have hok : ∀ x ∈ threeG,OkAgg T x:=fun x hx=>by
  simp only [threeG,List.mem_cons,List.not_mem_nil,or_false] at hx
  rcases hx with rfl|rfl|rfl <;> exact ⟨by decide,by decide,by decide,by show (0 : Int) < _;omega⟩
 have h1:=agg_ev T 1 M G rows hfo.wide (by omega) threeG (by decide) hok
 have h2:=agg_ev T 1 M G srt ho.wide (by omega) threeG (by decide) hok
 have e12 : threeG.map (oneV T rows)=threeG.map (oneV T srt):=by
  apply List.map_congr_left
  intro x hx
  exact oneV_perm hS hperm.symm (fun r h=>⟨(hfo.full r h).ok,hfo.wide r h⟩) x (hok x hx)
 rw [e12] at h1
 have hll : rows.length=srt.length:=hperm.length_eq.symm
 have hc : oneV T srt ⟨1,0⟩=⟨true,⟨(srt.length : Int),⟨#[]⟩⟩⟩:=by
  have:=count_fold (rd T 0) 0 srt 0 (by omega)
  rw [Nat.zero_add] at this
  exact this
 apply Ev.rounds
 simp only [thresherlaw20_AggEnds.f]
 refine Ev.bind shown20_ev (Ev.bind hmade (Ev.bind hf' (Ev.bind (Ev.now threeG) (Ev.bind h1 (Ev.bind hs (Ev.bind h2 (Ev.bind (same20_ev _ (by simp [threeG])) (Ev.pos (by simp) (Ev.pos (by simp [threeG]) (Ev.pos (by simp [threeG]) ?_))))))))))
 have e3 : rd_T42 (threeG.map (oneV T srt)) 2=oneV T srt ⟨1,0⟩:=rfl
 have e1 : rd_T42 (threeG.map (oneV T srt)) 0=oneV T srt ⟨3,0⟩:=rfl
 have e2 : rd_T42 (threeG.map (oneV T srt)) 1=oneV T srt ⟨4,0⟩:=rfl
 rw [e3,hc]
 refine Ev.pos (by show (srt.length : Int)=_;omega) (Ev.succ ?_)
 simp only [thresherlaw20_AggEnds.j0]
 rw [e1,e2]
 refine Ev.neg (by simp) ?_
 cases srt with
 | nil =>
  have z1 : oneV T [] ⟨3,0⟩=⟨false,⟨0,⟨#[]⟩⟩⟩:=rfl
  have z2 : oneV T [] ⟨4,0⟩=⟨false,⟨0,⟨#[]⟩⟩⟩:=rfl
  rw [z1,z2]
  refine Ev.pos (by rw [hll];rfl) (Ev.pos (by simp) (Ev.pos (by simp [threeG]) (Ev.pos (by simp) (Ev.pos (by simp [threeG]) (Ev.succ ?_)))))
  simp only [thresherlaw20_AggEnds.j1]
  exact (Ev.now _).eq (by simp)
 | cons s rest =>
  have hw:=ho.wide
  have hpw : (s :: rest).Pairwise (fun a b=>cmpV (rd T 0) (rdV a 0) (rdV b 0)≤0):=by
   refine List.Pairwise.imp_of_mem (fun {a b} ha hb h=>?_) hord
   rw [cmpRow_one n1 (hw a ha) (hw b hb)] at h
   exact h
  have hfit : ∀ r ∈ s :: rest,fitT (rd T 0) (rdV r 0)=true∧GV (rdV r 0):=fun r h=>(ho.full r h).ok.fit 0 (Nat.le_refl _) (by rw [hw r h];omega)
  have hmin : oneV T (s :: rest) ⟨3,0⟩=⟨true,rdV s 0⟩:=min_fold (rd T 0) (rdV s 0) rest (fun r h=>(List.pairwise_cons.mp hpw).1 r h)
  have hmax : oneV T (s :: rest) ⟨4,0⟩=⟨true,rdV ((s :: rest).getLast (by simp)) 0⟩:=max_fold (rd T 0) rest s hpw hfit
  have hl0 : rest.length + 1≤60:=hlen2
  have ew : wrap64 (((s :: rest).length : Int) - 1)=(rest.length : Int):=by
   simp only [List.length_cons]
   rw [w64 (by omega) (by omega)]
   omega
  have el : rdR (s :: rest) (rest.length : Nat)=(s :: rest).getLast (by simp):=by
   rw [show rdR (s :: rest) (rest.length : Nat)=_ from rdR_lt (s :: rest) rest.length (by simp),List.getLast_eq_getElem]
   simp
  have es : rdR (s :: rest) 0=s:=rdR_lt (s :: rest) 0 (by simp)
  rw [hmin,hmax,ew,show rd_L7 (s :: rest) ((rest.length : Nat) : Int)=_ from el,show rd_L7 (s :: rest) 0=_ from es]
  clear ew
  have w1:=hw s List.mem_cons_self
  have w2:=hw ((s :: rest).getLast (by simp)) (List.getLast_mem _)
  simp only [List.length_cons]
  have hl3 : ((threeG.map (oneV T (s :: rest))).length : Int)=3:=by simp [threeG]
  refine Ev.neg (by rw [hll];simp;omega) (Ev.pos (by simp) (Ev.pos (by omega) (Ev.pos (by simp) (Ev.pos (by omega) (Ev.pos (by simp) (Ev.pos (by omega) (Ev.pos (by omega) (Ev.pos (by simp) (Ev.pos (by omega) (Ev.pos (by omega) (Ev.pos (by omega) (Ev.succ ?_))))))))))))
  simp only [thresherlaw20_AggEnds.j2]
  exact (Ev.now _).eq (by simp)
end Go.Proofs.Ytapaldcdoahfeaa.Pure

namespace Go.Proofs.Ytapaldcdoahfeaa.aggEnds
open Go.ChangeShapes Go.WideShapes Go.ChangeAt Go.RowKit Go.Proofs.Ytapaldcdoahfeaa.P Go.Proofs.YtapaldcdoahfeaaW.PrintWords
set_option linter.unusedVariables false
set_option linter.unusedSimpArgs false
theorem own : ownKnob Try.prog.godebug=none:=by kernel_rfl
theorem laidOut : laidOutB Try.prog=true:=by kernel_rfl
set_option maxRecDepth 100000 in
theorem lifted (os : Os) (started : os.Started) (H : Type) (enc : TypeId × Value→H) :
  ReturnsInHanded {} Try.checked os 3 .any (Rows.aggEndsSpec.pre6 enc Try.prog Try.f3 Rows.aggEndsRow.domain false) (Rows.aggEndsSpec.post enc Try.prog Try.f3 false true false false):=by
 refine returnsInHanded_of_change_sized (C:=Try.checked) own started (by kernel_rfl) Try.func3
  (ChangeSpec.witness6 (enc:=enc) (C:=Try.checked) false ⟨#[],#[.agg #[.int .u8 0,.int .u8 0,.int .u8 0,.int .u8 0,.int .u8 0,.int .u8 0,.int .u8 0,.int .u8 0,.int .u8 0,.int .u8 0,.int .u8 0,.int .u8 0],.slice none 0 0],[]⟩ 8 (by kernel_rfl) (by kernel_rfl) (by kernel_rfl) (by kernel_rfl)) ?_
 intro W base args ds gs before hval0 hW hcnd hsz0 _
 have hval : ∀ (j : Nat) t v,Try.f3.params[j]?=some t→args[j]?=some v→Value.okWide Try.prog W .any base t v:=hval0
 have hW':=hW
 obtain ⟨p,q,hA0,hV,rfl,hfz,hnd⟩:=hW
 have hA : DataW.TrodAll enc Try.prog W 0 (fun _=>true) true Try.f3.params.toList args.toList ds p:=hA0
 rw [Try.params3] at hA hval
 obtain ⟨v0,vs0,d0,ds0,p0,q0,hargs,rfl,rfl,h0,r0⟩:=trodAll_cons hA
 obtain ⟨v1,vs1,d1,ds1,p1,q1,rfl,rfl,rfl,h1,r1⟩:=trodAll_cons r0
 obtain ⟨rfl,rfl,rfl⟩:=trodAll_nil r1
 obtain rfl : args=#[v0,v1]:=by cases args;simp_all
 obtain ⟨rfl,rfl⟩:=trodVars_none hV
 have lt0 : ∀ x ∈ p0,x.block < W.heap.size:=by obtain ⟨m,hm⟩:=h0;exact DataW.trod_lt m _ _ _ hm
 obtain ⟨x0,K0,g0⟩:=(op24).arg h0
 obtain ⟨cs0,rfl⟩:=okWide_agg Try.underlying24 (hval 0 24 v0 rfl rfl)
 have e0:=k24_open K0
 replace e0:=agg_of e0
 have lt1 : ∀ x ∈ p1,x.block < W.heap.size:=by obtain ⟨m,hm⟩:=h1;exact DataW.trod_lt m _ _ _ hm
 obtain ⟨x1,K1,g1⟩:=((opens_slice Try.underlying25 (by kernel_rfl) (opens_slice Try.underlying44 (by kernel_rfl) op40))).arg h1
 obtain ⟨a1,len1,cap1,rfl⟩:=okWide_slice Try.underlying25 (hval 1 25 v1 rfl rfl)
 obtain ⟨A1,c1,e1,hl1,hr1⟩:=K1
 simp [Value.cells] at e1
 obtain ⟨rfl,rfl,rfl⟩:=e1
 obtain ⟨k,hk⟩:=Pure.AggEnds x0 x1 g0 g1
 have call : Calls Try.prog 3 #[.agg cs0,.slice a1 x1.length cap1] W fun e W'=>e=.returned (.bool true)∧Below W.heap.size W W':=by
  rw [e0]
  refine (thresherlaw20_AggEnds.calls k _ _ _ _ _ _ _ _ _ _ _ _ _ _ _ true W hr1 hl1 hk).mono ?_
  rintro e w' ⟨rfl,hd⟩
  exact ⟨rfl,hd⟩
 refine call.mono fun e W' ⟨he,bel⟩=>?_
 subst he
 exact ⟨_,rfl,_,_,_,[],_,[],hW',trodAll_mk1 (shut_bool Try.underlying4 _),(trodAll_cons_mk (Below.trod laidOut (by kernel_rfl) (of_decide_eq_true (by kernel_rfl)) h0 bel lt0) (trodAll_cons_mk (Below.trod laidOut (by kernel_rfl) (of_decide_eq_true (by kernel_rfl)) h1 bel lt1) trodAll_mk0)),rfl,bel.frame _,fun h=>by cases h⟩
theorem over : Rows.aggEndsRow.holds Try.pinned (OpenSpec.ofChange Rows.aggEndsSpec) :=
 OpenClaim.holds_of_wide 3 Try.f3 rfl rfl rfl rfl rfl rfl rfl ⟨rfl,rfl,rfl,rfl,rfl⟩ rfl rfl rfl rfl rfl (by kernel_rfl) Try.func3 (by kernel_rfl)
  (of_decide_eq_true (by kernel_rfl)) (by unfold Func.isWrapper;first|(rw [if_pos (by decide +kernel)];kernel_rfl)|(rw [if_neg (by decide +kernel)];exact ⟨rfl,rfl⟩))
  (fun os started H enc _=>lifted os started H enc)
theorem proved : Rows.AggEndsSaid:=over
#print axioms proved
end Go.Proofs.Ytapaldcdoahfeaa.aggEnds
namespace Go.Proofs.Ytapaldcdoahfeaa
theorem aggEnds_holds : Rows.AggEndsSaid:=aggEnds.proved
end Go.Proofs.Ytapaldcdoahfeaa

