/- The row of FilterSides. Merged: SFilterSides, XBase, XFit, XMade, XOne, XOrd, XFitOk, XFits, XRVal, XShape, XVal, XHolds, XFFit, PureFilterSides, RFilterSides. -/
import Derived.Test.YtbkpifcjgedjaaaQFilterSidesPx14
import Derived.Test.YtbkpifcjgedjaaaQFilterSidesO
import Derived.Test.YtbkpifcjgedjaaaQFilterSidesPx0
import Derived.Test.YtbkpifcjgedjaaaQFilterSidesHBase
import Derived.Test.YtbkpifcjgedjaaaQFilterSidesPx7
import Derived.Test.YtbkpifcjgedjaaaQFilterSidesPx5
import Derived.Test.YtbkpifcjgedjaaaQFilterSidesPx11
import Derived.Test.YtbkpifcjgedjaaaQFilterSidesPx13
import Derived.Lib.Bytealg
import Derived.Test.YtbkpifcjgedjaaaQFilterSidesPx8
import Derived.Test.YtbkpifcjgedjaaaQFilterSidesPx3
import Derived.Test.YtbkpifcjgedjaaaQFilterSidesPx2
import Derived.Test.YtbkpifcjgedjaaaQFilterSidesPx6
import Derived.Test.YtbkpifcjgedjaaaQFilterSidesPx9
import Derived.Test.YtbkpifcjgedjaaaQFilterSidesPx10
import Derived.Test.YtbkpifcjgedjaaaQFilterSidesPx4
import Derived.Test.YtbkpifcjgedjaaaRows
import Derived.WalkKit
import Derived.ProofKit
import Derived.OpenShut
import Derived.ShutString
import Derived.ChangeOld
import Derived.Below
import Derived.SizedLaws
namespace Go.Proofs.Ytbkpifcjgedjaaa.P
open Go.RowKit Go.Proofs.YtbkpifcjgedjaaaW.PrintWords
def thresherlaw19_FilterSides.PureG : Prop:=∀ (x0 : S24) (x1 : S47) (x2 : List (List (S37))),gd24 x0→gd47 x1→(x2.length≤maxLen∧∀ a ∈ x2,(a.length≤maxLen∧∀ aa ∈ a,gd37 aa))→∃ k,thresherlaw19_FilterSides.f k x0.f0.f0 x0.f0.f1 x0.f0.f2 x0.f0.f3 x0.f0.f4 x0.f0.f5 x0.f0.f6 x0.f0.f7 x0.f1 x0.f2 x0.f3 x0.f4 x1.f0.f0 x1.f0.f1 x1.f0.f2.f0 x1.f0.f2.f1 x1.f1.f0 x1.f1.f1 x1.f1.f2.f0 x1.f1.f2.f1 x2=some true
end Go.Proofs.Ytbkpifcjgedjaaa.P

/- Words of the laws about rows. -/
namespace Go.Proofs.Ytbkpifcjgedjaaa.P
open Go.RowKit Go.Proofs.YtbkpifcjgedjaaaW.PrintWords Go.Proofs.YtbkpifcjgedjaaaW.PrintLast Go.Proofs.YtbkpifcjgedjaaaW.PrintMore
set_option linter.unusedVariables false
set_option linter.unusedSimpArgs false
abbrev XV:=S37
abbrev rdV (l : List XV) (i : Int) : XV:=rd_T37 l i
abbrev rdR (l : List (List XV)) (i : Int) : List XV:=rd_L4 l i
theorem rd_lt (l : List Int) (i : Nat) (h : i < l.length) : rd l i=l[i]:=by unfold rd;simp [List.getD,h]
theorem rdV_lt (l : List XV) (i : Nat) (h : i < l.length) : rd_T37 l i=l[i]:=by unfold rd_T37;simp [List.getD,h]
theorem rdV_ge (l : List XV) (i : Nat) (h : l.length≤i) : rd_T37 l i=⟨0,⟨#[]⟩⟩:=by unfold rd_T37;simp [List.getD,h];rfl
theorem rdR_lt (l : List (List XV)) (i : Nat) (h : i < l.length) : rd_L4 l i=l[i]:=by unfold rd_L4;simp [List.getD,h]
structure Sch (T : List Int) (K M G : Int) : Prop where
 n1 : 1≤T.length
 n8 : T.length≤8
 ty : ∀ t ∈ T,1≤t∧t≤3
 k1 : 1≤K
 kn : K≤T.length
 m1 : 1≤M
 m3 : M≤3
 g1 : 1≤G
 g8 : G≤8
def fitT (t : Int) (v : XV) : Bool:=if t=1 ∨ t=2 then v.f1.toList == ([] : List UInt8) else if t=3 then (if v.f0=0 then decide ((v.f1.size : Int)≤60) else false) else false
def rowOkB (T : List Int) (r : List XV) : Bool:=decide (T.length=r.length) && (List.range T.length).all fun (i : Nat)=>fitT (rd T i) (rdV r i)
def fit1 (t : Int) (v : XV) : XV:=if t=3 then ⟨0,if (v.f1.size : Int) > 60 then v.f1.extract 0 60 else v.f1⟩ else ⟨v.f0,⟨#[]⟩⟩
def fitRow (T : List Int) (r : List XV) : List XV:=(List.range' 0 T.length).map fun (i : Nat)=>fit1 (rd T i) (rdV r i)
theorem fitRow_length (T : List Int) (r : List XV) : (fitRow T r).length=T.length:=by simp [fitRow]
theorem bytes_eq {a b : ByteArray} (h : a.toList=b.toList) : a=b:=by
 rw [ByteArray.toList_eq,ByteArray.toList_eq] at h
 exact ByteArray.ext (Array.toList_inj.mp h)
theorem XV.same {a b : XV} : (!(a.f0 == b.f0) || (!(a.f1.toList == b.f1.toList)))=true ↔ a≠b:=by
 constructor
 ·rintro h rfl
  simp at h
 ·intro h
  by_cases h0 : a.f0=b.f0
  ·by_cases h1 : a.f1.toList=b.f1.toList
   ·exact absurd (by cases a;cases b;simp only at h0 h1;rw [h0,bytes_eq h1]) h
   ·simp [h1]
  ·simp [h0]
instance : DecidableEq XV:=fun a b=>if h : (!(a.f0 == b.f0) || (!(a.f1.toList == b.f1.toList)))=true then isFalse (XV.same.mp h) else isTrue (Classical.byContradiction fun e=>h (XV.same.mpr e))
end Go.Proofs.Ytbkpifcjgedjaaa.P

/- A row made to fit. -/
namespace Go.Proofs.Ytbkpifcjgedjaaa.P
open Go.RowKit Go.Proofs.YtbkpifcjgedjaaaW.PrintWords Go.Proofs.YtbkpifcjgedjaaaW.PrintLast Go.Proofs.YtbkpifcjgedjaaaW.PrintMore
set_option linter.unusedVariables false
set_option linter.unusedSimpArgs false
theorem fit_turn (T : List Int) (K M G : Int) (r : List XV) (i : Nat) (acc : List XV) (v0 : Int) (v1 : ByteArray) (hi : i < T.length) (hT : T.length≤1000000) (ha : acc.length=i) {R : List XV} (h : Ev (fun k=>thresherref04_Fit.l0 k r (acc ++ [fit1 (rd T i) ⟨v0,v1⟩]) ((i + 1 : Nat) : Int) T K M G) R) : Ev (fun k=>thresherref04_Fit.j1 k r acc i T K M G v0 v1) R:=by
 refine Ev.succ ?_
 simp only [thresherref04_Fit.j1]
 simp (disch:=omega) only [w64]
 refine Ev.pos (by omega) (Ev.pos (by omega) ?_)
 unfold fit1 at h
 by_cases e : rd T i=3
 ·rw [if_pos e] at h
  refine Ev.pos e ?_
  by_cases s : (v1.size : Int) > 60
  ·simp only [if_pos s] at h
   exact Ev.pos s (Ev.pos (by omega) (Ev.pos (by omega) (Ev.pos (by omega) h)))
  ·simp only [if_neg s] at h
   exact Ev.neg s (Ev.pos (by omega) h)
 ·rw [if_neg e] at h
  exact Ev.neg e (Ev.pos (by omega) h)
theorem fit_loop (T : List Int) (K M G : Int) (r : List XV) (hT : T.length≤1000000) : ∀ (d i : Nat) (acc : List XV),i + d=T.length→acc.length=i→Ev (fun k=>thresherref04_Fit.l0 k r acc i T K M G) (acc ++ (List.range' i d).map fun (j : Nat)=>fit1 (rd T j) (rdV r j))
 | 0,i,acc,hi,ha=>by
  refine Ev.succ ?_
  simp only [thresherref04_Fit.l0]
  exact Ev.neg (by omega) ((Ev.now _).eq (by simp))
 | d + 1,i,acc,hi,ha=>by
  refine Ev.succ ?_
  simp only [thresherref04_Fit.l0]
  refine Ev.pos (by omega) ?_
  have hl : (acc ++ [fit1 (rd T i) (rdV r i)]).length=i + 1:=by simp;omega
  have h:=(fit_loop T K M G r hT d (i + 1) (acc ++ [fit1 (rd T i) (rdV r i)]) (by omega) hl).eq (r':=acc ++ (List.range' i (d + 1)).map fun (j : Nat)=>fit1 (rd T j) (rdV r j)) (by rw [List.append_assoc,List.range'_succ];rfl)
  by_cases e : i < r.length
  ·exact Ev.pos (by omega) (Ev.pos (by omega) (fit_turn T K M G r i acc _ _ (by omega) hT ha h))
  ·refine Ev.neg (by omega) (fit_turn T K M G r i acc _ _ (by omega) hT ha ?_)
   have e2 : rdV r i=⟨0,⟨#[]⟩⟩:=rdV_ge r i (by omega)
   rw [e2] at h
   exact h
theorem fit_ev (T : List Int) (K M G : Int) (r : List XV) (hT : T.length≤1000000) : Ev (fun k=>thresherref04_Fit.f k T K M G r) (fitRow T r):=by
 simp only [thresherref04_Fit.f]
 exact fit_loop T K M G r hT T.length 0 [] (by omega) rfl
end Go.Proofs.Ytbkpifcjgedjaaa.P

/- A schema made of any numbers. -/
namespace Go.Proofs.Ytbkpifcjgedjaaa.P
open Go.RowKit Go.Proofs.YtbkpifcjgedjaaaW.PrintWords Go.Proofs.YtbkpifcjgedjaaaW.PrintLast Go.Proofs.YtbkpifcjgedjaaaW.PrintMore
set_option linter.unusedVariables false
set_option linter.unusedSimpArgs false
def U8 (x : Int) : Prop:=0≤x∧x≤255
theorem made_one {x : Int} {m : Int} (h : U8 x) (hm : 0 < m) (hm2 : m≤1000) : wrap64 (1 + Int.tmod (wrap64 x) m)=1 + x % m∧1≤1 + x % m∧1 + x % m≤m:=by
 obtain ⟨h0,h1⟩:=h
 have e1 : wrap64 x=x:=w64 (by omega) (by omega)
 have h2:=Int.emod_nonneg x (show m≠0 by omega)
 have h3:=Int.emod_lt_of_pos x hm
 rw [e1,Int.tmod_eq_emod_of_nonneg h0]
 exact ⟨w64 (by omega) (by omega),by omega,by omega⟩
theorem made_loop (x0 x1 x2 x3 x4 x5 x6 x7 K M G : Int) (hx : ∀ x ∈ [x0,x1,x2,x3,x4,x5,x6,x7],U8 x) (n : Nat) (hn : n≤8) : ∀ (d i : Nat) (T : List Int),i + d=n→T.length=i→(∀ t ∈ T,1≤t∧t≤3)→∃ T',Ev (fun k=>thresherref04_Made.l0 k n i x0 x1 x2 x3 x4 x5 x6 x7 T K M G) (T',K,M,G)∧T'.length=n∧∀ t ∈ T',1≤t∧t≤3
 | 0,i,T,hi,hT,ht=>by
  refine ⟨T,Ev.succ ?_,by omega,ht⟩
  simp only [thresherref04_Made.l0]
  exact Ev.neg (by omega) (Ev.now _)
 | d + 1,i,T,hi,hT,ht=>by
  have hr : U8 (rd [x0,x1,x2,x3,x4,x5,x6,x7] i):=by
   rw [rd_lt _ i (by simp;omega)]
   exact hx _ (List.getElem_mem _)
  obtain ⟨e,l1,l2⟩:=made_one (m:=3) hr (by omega) (by omega)
  obtain ⟨T',h1,h2,h3⟩:=made_loop x0 x1 x2 x3 x4 x5 x6 x7 K M G hx n hn d (i + 1) (T ++ [1 + rd [x0,x1,x2,x3,x4,x5,x6,x7] i % 3]) (by omega) (by simp;omega) (by
   intro t h
   rcases List.mem_append.mp h with h|h
   ·exact ht t h
   ·rw [List.mem_singleton.mp h];exact ⟨l1,l2⟩)
  refine ⟨T',Ev.succ ?_,h2,h3⟩
  simp only [thresherref04_Made.l0]
  rw [e]
  clear e
  simp (disch:=omega) only [w64]
  exact Ev.pos (by omega) (Ev.pos (by omega) (Ev.pos (by omega) (Ev.pos (by omega) h1)))
theorem made_ev (x0 x1 x2 x3 x4 x5 x6 x7 a b c d : Int) (h0 : U8 x0) (h1 : U8 x1) (h2 : U8 x2) (h3 : U8 x3) (h4 : U8 x4) (h5 : U8 x5) (h6 : U8 x6) (h7 : U8 x7) (ha : U8 a) (hb : U8 b) (hc : U8 c) (hd : U8 d) : ∃ T K M G,Ev (fun k=>thresherref04_Made.f k x0 x1 x2 x3 x4 x5 x6 x7 a b c d) (T,K,M,G)∧Sch T K M G:=by
 obtain ⟨ea,a1,a2⟩:=made_one (m:=8) ha (by omega) (by omega)
 obtain ⟨n,hn⟩ : ∃ n : Nat,1 + a % 8=n:=⟨(1 + a % 8).toNat,by omega⟩
 obtain ⟨eb,b1,b2⟩:=made_one (m:=1 + a % 8) hb (by omega) (by omega)
 obtain ⟨ec,c1,c2⟩:=made_one (m:=3) hc (by omega) (by omega)
 obtain ⟨ed,d1,d2⟩:=made_one (m:=8) hd (by omega) (by omega)
 simp only [thresherref04_Made.f,ea,eb,ec,ed]
 clear ea eb ec ed
 rw [hn] at b1 b2 a1 a2 ⊢
 obtain ⟨T,e,l,t⟩:=made_loop x0 x1 x2 x3 x4 x5 x6 x7 (1 + b % n) (1 + c % 3) (1 + d % 8) (by
  intro x hx
  simp only [List.mem_cons,List.not_mem_nil,or_false] at hx
  rcases hx with rfl|rfl|rfl|rfl|rfl|rfl|rfl|rfl <;> assumption) n (by omega) n 0 [] (by omega) rfl (by simp)
 exact ⟨T,_,_,_,Ev.neg (by omega) e,⟨by omega,by omega,t,b1,by omega,c1,c2,d1,d2⟩⟩
end Go.Proofs.Ytbkpifcjgedjaaa.P

/- Are two rows the same, and two lists of rows? -/
namespace Go.Proofs.Ytbkpifcjgedjaaa.P
open Go.RowKit Go.Proofs.YtbkpifcjgedjaaaW.PrintWords Go.Proofs.YtbkpifcjgedjaaaW.PrintLast Go.Proofs.YtbkpifcjgedjaaaW.PrintMore
set_option linter.unusedVariables false
set_option linter.unusedSimpArgs false
theorem one_loop (a b : List XV) (hl : a.length=b.length) (hb : a.length≤1000000000) : ∀ (d i : Nat),i + d=a.length→Ev (fun k=>thresherref04_One.l0 k a b i) (decide (a.drop i=b.drop i))
 | 0,i,hi=>by
  refine Ev.succ ?_
  simp only [thresherref04_One.l0]
  refine Ev.neg (by omega) ((Ev.now _).eq ?_)
  rw [List.drop_of_length_le (by omega),List.drop_of_length_le (by omega)]
  simp
 | d + 1,i,hi=>by
  have h1 : i < a.length:=by omega
  have h2 : i < b.length:=by omega
  refine Ev.succ ?_
  simp only [thresherref04_One.l0]
  simp (disch:=omega) only [w64]
  rw [rdV_lt a i h1,rdV_lt b i h2]
  rw [List.drop_eq_getElem_cons h1,List.drop_eq_getElem_cons h2]
  refine Ev.pos (by omega) (Ev.pos (by omega) (Ev.pos (by omega) ?_))
  by_cases e : a[i]=b[i]
  ·refine Ev.neg (fun h=>XV.same.mp h e) ((one_loop a b hl hb d (i + 1) (by omega)).eq ?_)
   rw [e]
   exact decide_eq_decide.mpr ⟨fun h=>by rw [h],fun h=>(List.cons.inj h).2⟩
  ·refine Ev.pos (XV.same.mpr e) ((Ev.now _).eq ?_)
   symm
   rw [decide_eq_false_iff_not]
   intro h
   exact e (List.cons.inj h).1
theorem one_ev (a b : List XV) (hb : a.length≤1000000000) : Ev (fun k=>thresherref04_One.f k a b) (decide (a=b)):=by
 simp only [thresherref04_One.f]
 by_cases hl : a.length=b.length
 ·refine Ev.pos (by omega) ?_
  have:=one_loop a b hl hb a.length 0 (by omega)
  simpa using this
 ·refine Ev.neg (by omega) ((Ev.now _).eq ?_)
  symm
  rw [decide_eq_false_iff_not]
  rintro rfl
  exact hl rfl
theorem rows_loop (a b : List (List XV)) (hl : a.length=b.length) (hb : a.length≤1000000000) (hr : ∀ r ∈ a,r.length≤1000000000) : ∀ (d i : Nat),i + d=a.length→Ev (fun k=>thresherref04_Rows.l0 k a b i) (decide (a.drop i=b.drop i))
 | 0,i,hi=>by
  refine Ev.succ ?_
  simp only [thresherref04_Rows.l0]
  refine Ev.neg (by omega) ((Ev.now _).eq ?_)
  rw [List.drop_of_length_le (by omega),List.drop_of_length_le (by omega)]
  simp
 | d + 1,i,hi=>by
  have h1 : i < a.length:=by omega
  have h2 : i < b.length:=by omega
  refine Ev.succ ?_
  simp only [thresherref04_Rows.l0]
  simp (disch:=omega) only [w64]
  rw [rdR_lt a i h1,rdR_lt b i h2]
  rw [List.drop_eq_getElem_cons h1,List.drop_eq_getElem_cons h2]
  refine Ev.pos (by omega) (Ev.pos (by omega) (Ev.pos (by omega) (Ev.bind (one_ev _ _ (hr _ (List.getElem_mem h1))) ?_)))
  by_cases e : a[i]=b[i]
  ·refine Ev.pos (decide_eq_true e) ((rows_loop a b hl hb hr d (i + 1) (by omega)).eq ?_)
   rw [e]
   exact decide_eq_decide.mpr ⟨fun h=>by rw [h],fun h=>(List.cons.inj h).2⟩
  ·refine Ev.neg (by simpa using e) ((Ev.now _).eq ?_)
   symm
   rw [decide_eq_false_iff_not]
   intro h
   exact e (List.cons.inj h).1
theorem rows_ev (a b : List (List XV)) (hb : a.length≤1000000000) (hr : ∀ r ∈ a,r.length≤1000000000) : Ev (fun k=>thresherref04_Rows.f k a b) (decide (a=b)):=by
 simp only [thresherref04_Rows.f]
 by_cases hl : a.length=b.length
 ·refine Ev.pos (by omega) ?_
  have:=rows_loop a b hl hb hr a.length 0 (by omega)
  simpa using this
 ·refine Ev.neg (by omega) ((Ev.now _).eq ?_)
  symm
  rw [decide_eq_false_iff_not]
  rintro rfl
  exact hl rfl
end Go.Proofs.Ytbkpifcjgedjaaa.P

/- The order of values and of rows. -/
namespace Go.Proofs.Ytbkpifcjgedjaaa.P
open Go.RowKit Go.Proofs.YtbkpifcjgedjaaaW.PrintWords Go.Proofs.YtbkpifcjgedjaaaW.PrintLast Go.Proofs.YtbkpifcjgedjaaaW.PrintMore
set_option linter.unusedVariables false
set_option linter.unusedSimpArgs false
def GV (v : XV) : Prop:=-9223372036854775808≤v.f0∧v.f0≤9223372036854775807
def sgn (x y : Int) : Int:=if x < y then -1 else if x > y then 1 else 0
def un (x : Int) : Int:=x % 18446744073709551616
def cmpV (t : Int) (a b : XV) : Int:=if fitT t a=true∧fitT t b=true then (if t=3 then Lib.compareBytes a.f1.data.toList b.f1.data.toList else if t=2 then sgn (un a.f0) (un b.f0) else sgn a.f0 b.f0) else 0
def cmpC (t : Int) (a b : XV) : Int:=if t=3 then Lib.compareBytes a.f1.data.toList b.f1.data.toList else if t=2 then sgn (un a.f0) (un b.f0) else sgn a.f0 b.f0
theorem cmpV_fit {t : Int} {a b : XV} (ha : fitT t a=true) (hb : fitT t b=true) : cmpV t a b=cmpC t a b:=by
 unfold cmpV cmpC
 rw [if_pos ⟨ha,hb⟩]
def cmpFrom (T : List Int) (a b : List XV) : Nat→Nat→Int
 | 0,_=>0
 | m + 1,i=>if cmpV (rd T i) (rdV a i) (rdV b i)=0 then cmpFrom T a b m (i + 1) else cmpV (rd T i) (rdV a i) (rdV b i)
def cmpRow (T : List Int) (K : Int) (a b : List XV) : Int:=cmpFrom T a b (min (min (min K.toNat T.length) a.length) b.length) 0
def FitAt (T : List Int) (a : List XV) (m i : Nat) : Prop:=∀ j : Nat,i≤j→j < i + m→fitT (rd T j) (rdV a j)=true∧GV (rdV a j)
end Go.Proofs.Ytbkpifcjgedjaaa.P

/- A row made to fit fits. -/
namespace Go.Proofs.Ytbkpifcjgedjaaa.P
open Go.RowKit Go.Proofs.YtbkpifcjgedjaaaW.PrintWords Go.Proofs.YtbkpifcjgedjaaaW.PrintLast Go.Proofs.YtbkpifcjgedjaaaW.PrintMore
set_option linter.unusedVariables false
set_option linter.unusedSimpArgs false
end Go.Proofs.Ytbkpifcjgedjaaa.P

/- Rows made to fit. -/
namespace Go.Proofs.Ytbkpifcjgedjaaa.P
open Go.RowKit Go.Proofs.YtbkpifcjgedjaaaW.PrintWords Go.Proofs.YtbkpifcjgedjaaaW.PrintLast Go.Proofs.YtbkpifcjgedjaaaW.PrintMore
set_option linter.unusedVariables false
set_option linter.unusedSimpArgs false
theorem fits_loop (T : List Int) (K M G : Int) (l : List (List XV)) (n : Nat) (hn : n≤1000000) (hT : T.length≤1000000) : ∀ (d i : Nat) (acc : List (List XV)),i + d=min l.length n→acc.length=i→Ev (fun k=>thresherref04_Fits.l0 k l n acc i T K M G) (acc ++ ((l.take n).drop i).map (fitRow T))
 | 0,i,acc,hi,ha=>by
  refine Ev.succ ?_
  simp only [thresherref04_Fits.l0]
  have e : (l.take n).drop i=[]:=List.drop_of_length_le (by simp;omega)
  rw [e]
  by_cases h : (i : Int) < l.length
  ·exact Ev.pos h (Ev.neg (by omega) ((Ev.now _).eq (by simp)))
  ·exact Ev.neg h ((Ev.now _).eq (by simp))
 | d + 1,i,acc,hi,ha=>by
  have h1 : i < l.length:=by omega
  have h2 : i < n:=by omega
  refine Ev.succ ?_
  simp only [thresherref04_Fits.l0]
  have e : (l.take n).drop i=l[i] :: (l.take n).drop (i + 1):=by
   rw [List.drop_eq_getElem_cons (by simp;omega)]
   simp
  rw [rdR_lt l i h1,e]
  simp (disch:=omega) only [w64]
  refine Ev.pos (by omega) (Ev.pos (by omega) (Ev.pos (by omega) (Ev.bind (fit_ev T K M G _ hT) (Ev.pos (by omega) ?_))))
  refine (fits_loop T K M G l n hn hT d (i + 1) (acc ++ [fitRow T l[i]]) (by omega) (by simp;omega)).eq ?_
  simp
theorem fits_ev (T : List Int) (K M G : Int) (l : List (List XV)) (n : Nat) (hn : n≤1000000) (hT : T.length≤1000000) : Ev (fun k=>thresherref04_Fits.f k T K M G l n) ((l.take n).map (fitRow T)):=by
 simp only [thresherref04_Fits.f]
 exact fits_loop T K M G l n hn hT (min l.length n) 0 [] (by omega) rfl
end Go.Proofs.Ytbkpifcjgedjaaa.P

/- The document's Compare of values tells the same order. -/
namespace Go.Proofs.Ytbkpifcjgedjaaa.P
open Go.RowKit Go.Proofs.YtbkpifcjgedjaaaW.PrintWords Go.Proofs.YtbkpifcjgedjaaaW.PrintLast Go.Proofs.YtbkpifcjgedjaaaW.PrintMore
set_option linter.unusedVariables false
set_option linter.unusedSimpArgs false
def GR (r : List XV) : Prop:=∀ v ∈ r,GV v∧v.f1.size≤9223372036854775807
theorem GR.rdV {r : List XV} (h : GR r) (i : Nat) : GV (rdV r i)∧(P.rdV r i).f1.size≤9223372036854775807:=by
 by_cases hi : i < r.length
 ·show GV (rd_T37 r i)∧(rd_T37 r i).f1.size≤_
  rw [rdV_lt r i hi]
  exact h _ (List.getElem_mem hi)
 ·show GV (rd_T37 r i)∧(rd_T37 r i).f1.size≤_
  rw [rdV_ge r i (by omega)]
  exact ⟨⟨by simp,by simp⟩,by decide⟩
end Go.Proofs.Ytbkpifcjgedjaaa.P

/- A schema of a shape. -/
namespace Go.Proofs.Ytbkpifcjgedjaaa.P
open Go.RowKit Go.Proofs.YtbkpifcjgedjaaaW.PrintWords Go.Proofs.YtbkpifcjgedjaaaW.PrintLast Go.Proofs.YtbkpifcjgedjaaaW.PrintMore
theorem u8_of {x : Int} (h : (Lit.int .u8 x).wf=true) : U8 x:=wf_u8 h
theorem shape_ev {x : S24} (h : gd24 x) : ∃ T K M G,Ev (fun k=>thresherref04_Made.f k x.f0.f0 x.f0.f1 x.f0.f2 x.f0.f3 x.f0.f4 x.f0.f5 x.f0.f6 x.f0.f7 x.f1 x.f2 x.f3 x.f4) (T,K,M,G)∧Sch T K M G:=by
 obtain ⟨⟨h0,h1,h2,h3,h4,h5,h6,h7⟩,ha,hb,hc,hd⟩:=h
 exact made_ev _ _ _ _ _ _ _ _ _ _ _ _ (u8_of h0) (u8_of h1) (u8_of h2) (u8_of h3) (u8_of h4) (u8_of h5) (u8_of h6) (u8_of h7) (u8_of ha) (u8_of hb) (u8_of hc) (u8_of hd)
end Go.Proofs.Ytbkpifcjgedjaaa.P

/- value.Compare tells the order of values. -/
namespace Go.Proofs.Ytbkpifcjgedjaaa.P
open Go.RowKit Go.Proofs.YtbkpifcjgedjaaaW.PrintWords Go.Proofs.YtbkpifcjgedjaaaW.PrintLast Go.Proofs.YtbkpifcjgedjaaaW.PrintMore
set_option linter.unusedVariables false
set_option linter.unusedSimpArgs false
theorem vfits_f (k : Nat) (t n : Int) (s : ByteArray) : value_Fits.f (k + 1) t n s=some (fitT t ⟨n,s⟩):=by
 unfold value_Fits.f fitT
 by_cases h1 : t=1
 ·rw [if_pos h1,if_pos (Or.inl h1)]
  subst h1
  rfl
 ·rw [if_neg h1]
  by_cases h2 : t=2
  ·rw [if_pos (Or.inr h2)]
   subst h2
   rfl
  ·rw [if_neg (by omega),show (t == 2)=false by simpa using h2]
   simp only [value_Fits.j0,Bool.false_eq_true,if_false]
   by_cases h3 : t=3
   ·rw [if_pos h3,if_pos h3]
    split <;> rfl
   ·rw [if_neg h3,if_neg h3]
theorem vfits_ev (t n : Int) (s : ByteArray) : Ev (fun k=>value_Fits.f k t n s) (fitT t ⟨n,s⟩):=Ev.succ ⟨0,fun k _=>vfits_f k t n s⟩
theorem cmpu_f (x y : Int) : cmp_Compare_uint64.f x y=some (sgn x y):=by
 simp only [cmp_Compare_uint64.f,cmp_isNaN_uint64.f,bne_self_eq_false,Option.bind_some,Bool.false_eq_true,if_false]
 unfold sgn
 split
 ·rfl
 ·split <;> rfl
theorem cmpi_f (x y : Int) : cmp_Compare_int64.f x y=some (sgn x y):=by
 simp only [cmp_Compare_int64.f,cmp_isNaN_int64.f,bne_self_eq_false,Option.bind_some,Bool.false_eq_true,if_false]
 unfold sgn
 split
 ·rfl
 ·split <;> rfl
theorem vcmp_ev (t : Int) (a b : XV) : Ev (fun k=>value_Compare.f k t a.f0 a.f1 b.f0 b.f1) (cmpV t a b):=by
 simp only [value_Compare.f]
 refine Ev.bind (vfits_ev t a.f0 a.f1) ?_
 by_cases ha : fitT t a=true
 ·refine Ev.pos ha (Ev.bind (vfits_ev t b.f0 b.f1) (Ev.succ ?_))
  simp only [value_Compare.j0]
  by_cases hb : fitT t b=true
  ·rw [cmpV_fit ha hb]
   refine Ev.neg (fun h=>?_) ?_
   ·rw [show fitT t ⟨b.f0,b.f1⟩=true from hb] at h
    exact absurd h (by simp)
   ·by_cases e3 : t=3
    ·refine (Ev.pos e3 (Ev.bindc rfl (Ev.now _))).eq ?_
     unfold cmpC
     rw [if_pos e3]
    ·refine Ev.neg e3 ?_
     by_cases e2 : t=2
     ·refine (Ev.pos e2 (Ev.bindc (cmpu_f _ _) (Ev.now _))).eq ?_
      unfold cmpC
      rw [if_neg e3,if_pos e2]
      rfl
     ·refine (Ev.neg e2 (Ev.bindc (cmpi_f _ _) (Ev.now _))).eq ?_
      unfold cmpC
      rw [if_neg e3,if_neg e2]
  ·refine (Ev.pos ?_ (Ev.now _)).eq ?_
   ·rw [show fitT t ⟨b.f0,b.f1⟩=false from Bool.eq_false_iff.mpr hb]
    rfl
   ·unfold cmpV
    rw [if_neg (fun h=>hb h.2)]
 ·refine Ev.neg ha (Ev.succ ?_)
  simp only [value_Compare.j0]
  refine (Ev.pos (by simp) (Ev.now _)).eq ?_
  unfold cmpV
  rw [if_neg (fun h=>ha h.1)]
end Go.Proofs.Ytbkpifcjgedjaaa.P

/- What a filter says of a value, and which rows filters keep. -/
namespace Go.Proofs.Ytbkpifcjgedjaaa.P
open Go.RowKit Go.Proofs.YtbkpifcjgedjaaaW.PrintWords Go.Proofs.YtbkpifcjgedjaaaW.PrintLast Go.Proofs.YtbkpifcjgedjaaaW.PrintMore
set_option linter.unusedVariables false
set_option linter.unusedSimpArgs false
abbrev XFl:=S39
abbrev rdFl (l : List XFl) (i : Int) : XFl:=rd_T39 l i
theorem rdFl_lt (l : List XFl) (i : Nat) (h : i < l.length) : rd_T39 l i=l[i]:=by unfold rd_T39;simp [List.getD,h]
def isPre (p s : ByteArray) : Bool:=decide (p.size≤s.size) && ((s.extract 0 p.size).toList == p.toList)
theorem pre_f (s p : ByteArray) : strings_HasPrefix.f s p=some (isPre p s):=by
 unfold strings_HasPrefix.f stringslite_HasPrefix.f isPre
 by_cases h : p.size≤s.size
 ·rw [if_pos (by omega),if_pos (by omega),if_pos (by omega),decide_eq_true h,Bool.true_and];rfl
 ·rw [if_neg (by omega),decide_eq_false h];rfl
def holdsV (t op : Int) (fv v : XV) : Bool :=
 if op=1 then cmpV t v fv == 0 else if op=2 then cmpV t v fv != 0 else if op=3 then decide (cmpV t v fv < 0) else if op=4 then decide (cmpV t v fv≤0) else if op=5 then decide (cmpV t v fv > 0) else if op=6 then decide (cmpV t v fv ≥ 0) else if op=7 then isPre fv.f1 v.f1 else false
theorem hold0 (c : Int) : Ev (fun k=>filter_holds.j0 k c) (c == 0):=Ev.succ (Ev.now _)
theorem holds_ev (t col op : Int) (fv v : XV) : Ev (fun k=>filter_holds.f k t col op fv.f0 fv.f1 v.f0 v.f1) (holdsV t op fv v):=by
 simp only [filter_holds.f]
 unfold holdsV
 refine Ev.bind (vcmp_ev t v fv) ?_
 obtain ⟨c,hc⟩ : ∃ c,cmpV t v fv=c:=⟨_,rfl⟩
 rw [hc]
 by_cases h3 : op=3
 ·subst h3;exact Ev.pos rfl (Ev.now _)
 refine Ev.neg h3 ?_
 by_cases h5 : op=5
 ·subst h5;exact Ev.pos rfl (Ev.now _)
 refine Ev.neg h5 ?_
 by_cases h2 : op=2
 ·subst h2;exact Ev.pos rfl (Ev.now _)
 refine Ev.neg h2 ?_
 by_cases h7 : op=7
 ·subst h7;exact Ev.pos rfl (Ev.bindc (pre_f _ _) (Ev.now _))
 refine Ev.neg h7 ?_
 by_cases h4 : op=4
 ·subst h4
  refine Ev.pos rfl ?_
  by_cases q : c < 0
  ·exact Ev.pos q ((Ev.now _).eq (by simp;omega))
  ·refine Ev.neg q ((hold0 _).eq ?_)
   simp
   by_cases e : c=0
   ·subst e;rfl
   ·rw [show (c == 0)=false by simpa using e,decide_eq_false (by omega)]
 refine Ev.neg h4 ?_
 by_cases h1 : op=1
 ·subst h1;exact Ev.pos rfl (hold0 _)
 refine Ev.neg h1 ?_
 by_cases h6 : op=6
 ·subst h6;exact Ev.pos rfl (Ev.now _)
 refine Ev.neg h6 ((Ev.now _).eq ?_)
 rw [if_neg h1,if_neg h2,if_neg h3,if_neg h4,if_neg h5,if_neg h6,if_neg h7]
def holdsF (T : List Int) (r : List XV) (f : XFl) : Bool:=holdsV (rd T f.f0) f.f1 f.f2 (rdV r f.f0)
def keepV (T : List Int) (fs : List XFl) (r : List XV) : Bool:=fs.all (holdsF T r)
theorem keep_in (T : List Int) (K M G : Int) (fs : List XFl) (hfs : fs.length≤1000000) (hT : ∀ f ∈ fs,0≤f.f0∧f.f0 < T.length) (rows : List (List XV)) (hrows : rows.length≤1000000) (i : Nat) (hi : i < rows.length) (r : List XV) (hr : ∀ f ∈ fs,f.f0 < r.length) (acc : List (List XV)) (hacc : acc.length≤1000000) {R : List (List XV)}
  (hR : Ev (fun k=>filter_Keep.l0 k fs (if keepV T fs r=true then acc ++ [r] else acc) rows rows.length ((i + 1 : Nat) : Int) T K M G) R) :
  ∀ (d j : Nat),j + d=fs.length→(fs.take j).all (holdsF T r)=true→Ev (fun k=>filter_Keep.l1 k fs acc r rows rows.length i fs fs.length j T K M G) R
 | 0,j,hj,ha=>by
  refine Ev.succ ?_
  simp only [filter_Keep.l1]
  rw [List.take_of_length_le (by omega)] at ha
  rw [show keepV T fs r=true from ha,if_pos rfl] at hR
  simp (disch:=omega) only [w64]
  exact Ev.neg (by omega) (Ev.pos (by omega) hR)
 | d + 1,j,hj,ha=>by
  have h : j < fs.length:=by omega
  refine Ev.succ ?_
  simp only [filter_Keep.l1]
  rw [rdFl_lt fs j h]
  obtain ⟨c1,c2⟩:=hT _ (List.getElem_mem h)
  have c3:=hr _ (List.getElem_mem h)
  have hh:=holds_ev (rd T fs[j].f0) fs[j].f0 fs[j].f1 fs[j].f2 (rdV r fs[j].f0)
  simp (disch:=omega) only [w64]
  refine Ev.pos (by omega) (Ev.pos (by omega) (Ev.pos (by omega) (Ev.pos (by omega) (Ev.pos (by omega) (Ev.pos (by omega) (Ev.bind hh ?_))))))
  by_cases q : holdsF T r fs[j]=true
  ·refine Ev.pos q ?_
   exact keep_in T K M G fs hfs hT rows hrows i hi r hr acc hacc hR d (j + 1) (by omega) (by rw [List.take_succ_eq_append_getElem h,List.all_append,ha];simp [q])
  ·refine Ev.neg q ?_
   have e : keepV T fs r=false:=by
    unfold keepV
    rw [Bool.eq_false_iff]
    intro h2
    exact q (List.all_eq_true.mp h2 _ (List.getElem_mem h))
   rw [e,if_neg (by simp)] at hR
   exact hR
theorem keep_loop (T : List Int) (K M G : Int) (fs : List XFl) (hfs : fs.length≤1000000) (hT : ∀ f ∈ fs,0≤f.f0∧f.f0 < T.length) (rows : List (List XV)) (hrows : rows.length≤1000000) (hr : ∀ r ∈ rows,∀ f ∈ fs,f.f0 < r.length) : ∀ (d i : Nat) (acc : List (List XV)),i + d=rows.length→acc.length≤i→Ev (fun k=>filter_Keep.l0 k fs acc rows rows.length i T K M G) (acc ++ (rows.drop i).filter (keepV T fs))
 | 0,i,acc,hi,ha=>by
  refine Ev.succ ?_
  simp only [filter_Keep.l0]
  rw [List.drop_of_length_le (by omega)]
  exact Ev.neg (by omega) ((Ev.now _).eq (by simp))
 | d + 1,i,acc,hi,ha=>by
  have h : i < rows.length:=by omega
  refine Ev.succ ?_
  simp only [filter_Keep.l0]
  rw [rdR_lt rows i h,List.drop_eq_getElem_cons h]
  refine Ev.pos (by omega) (Ev.pos (by omega) (Ev.pos (by omega) ?_))
  refine keep_in T K M G fs hfs hT rows hrows i h rows[i] (hr _ (List.getElem_mem h)) acc (by omega) ?_ fs.length 0 (by omega) (by simp)
  have hl:=keep_loop T K M G fs hfs hT rows hrows hr d (i + 1)
  by_cases q : keepV T fs rows[i]=true
  ·rw [if_pos q,List.filter_cons,if_pos q]
   exact (hl (acc ++ [rows[i]]) (by omega) (by simp;omega)).eq (by simp)
  ·rw [if_neg q,List.filter_cons,if_neg q]
   exact hl acc (by omega) (by omega)
theorem keep_ev (T : List Int) (K M G : Int) (fs : List XFl) (hfs : fs.length≤1000000) (hT : ∀ f ∈ fs,0≤f.f0∧f.f0 < T.length) (rows : List (List XV)) (hrows : rows.length≤1000000) (hr : ∀ r ∈ rows,∀ f ∈ fs,f.f0 < r.length) : Ev (fun k=>filter_Keep.f k T K M G fs rows) (rows.filter (keepV T fs)):=by
 simp only [filter_Keep.f]
 have:=keep_loop T K M G fs hfs hT rows hrows hr rows.length 0 [] (by omega) (by simp)
 simpa using this
end Go.Proofs.Ytbkpifcjgedjaaa.P

/- Filters made to fit; what the document's filters say. -/
namespace Go.Proofs.Ytbkpifcjgedjaaa.P
open Go.RowKit Go.Proofs.YtbkpifcjgedjaaaW.PrintWords Go.Proofs.YtbkpifcjgedjaaaW.PrintLast Go.Proofs.YtbkpifcjgedjaaaW.PrintMore
set_option linter.unusedVariables false
set_option linter.unusedSimpArgs false
theorem tmod_rng (x n : Int) (h : 0 < n) : -n < Int.tmod x n∧Int.tmod x n < n:=by
 rcases Int.le_total 0 x with hx|hx
 ·rw [Int.tmod_eq_emod_of_nonneg hx]
  have:=Int.emod_nonneg x (show n≠0 by omega)
  have:=Int.emod_lt_of_pos x h
  omega
 ·obtain ⟨y,rfl⟩ : ∃ y,x=-y:=⟨-x,by omega⟩
  rw [Int.neg_tmod,Int.tmod_eq_emod_of_nonneg (by omega : 0≤y)]
  have:=Int.emod_nonneg y (show n≠0 by omega)
  have:=Int.emod_lt_of_pos y h
  omega
def md (x n : Int) : Int:=if Int.tmod x n < 0 then Int.tmod x n + n else Int.tmod x n
theorem md_rng (x n : Int) (h : 0 < n) : 0≤md x n∧md x n < n:=by
 have:=tmod_rng x n h
 unfold md
 split <;> omega
def cut60 (s : ByteArray) : ByteArray:=s.extract 0 (min s.size 60)
theorem mn_toNat (s : ByteArray) : (mn (s.size : Int) 60).toNat=min s.size 60:=by unfold mn;split <;> omega
theorem mn_lo (s : ByteArray) : 0≤mn (s.size : Int) 60∧mn (s.size : Int) 60≤(s.size : Int):=by unfold mn;split <;> omega
def fitF (T : List Int) (f : XFl) : XFl :=
 if rd T (md f.f0 T.length)=3 then ⟨md f.f0 T.length,1 + md f.f1 7,⟨0,cut60 f.f2.f1⟩⟩ else ⟨md f.f0 T.length,if 1 + md f.f1 7=7 then 1 else 1 + md f.f1 7,⟨f.f2.f0,⟨#[]⟩⟩⟩
theorem fitF_col (T : List Int) (hT : 1≤T.length) (f : XFl) : 0≤(fitF T f).f0∧(fitF T f).f0 < T.length:=by
 have:=md_rng f.f0 T.length (by omega)
 unfold fitF
 split <;> exact this
theorem ffit_loop (T : List Int) (K M G : Int) (hT1 : 1≤T.length) (hT : T.length≤1000000) (l : List XFl) (m : Nat) (hm : m≤1000000) : ∀ (d i : Nat) (acc : List XFl),i + d=min l.length m→acc.length=i→Ev (fun k=>thresherref19_Fit.l0 k l m acc i T K M G) (acc ++ ((l.take m).drop i).map (fitF T))
 | 0,i,acc,hi,ha=>by
  refine Ev.succ ?_
  simp only [thresherref19_Fit.l0]
  rw [List.drop_of_length_le (by rw [List.length_take];omega)]
  have hj : Ev (fun k=>thresherref19_Fit.j1 k l m acc i false T K M G) (acc ++ List.map (fitF T) []):=by
   refine Ev.succ ?_
   simp only [thresherref19_Fit.j1]
   exact Ev.neg (by simp) ((Ev.now _).eq (by simp))
  by_cases h : (i : Int) < l.length
  ·refine Ev.pos h ?_
   rw [decide_eq_false (by omega)]
   exact hj
  ·exact Ev.neg h hj
 | d + 1,i,acc,hi,ha=>by
  have h : i < l.length:=by omega
  have h' : i < (l.take m).length:=by rw [List.length_take];omega
  rw [List.drop_eq_getElem_cons h',List.getElem_take,List.map_cons]
  have hn : Ev (fun k=>thresherref19_Fit.l0 k l m (acc ++ [fitF T l[i]]) ((i + 1 : Nat) : Int) T K M G) (acc ++ (fitF T l[i] :: ((l.take m).drop (i + 1)).map (fitF T))) :=
   (ffit_loop T K M G hT1 hT l m hm d (i + 1) (acc ++ [fitF T l[i]]) (by omega) (by simp;omega)).eq (by simp)
  obtain ⟨R,hR⟩ : ∃ R,acc ++ (fitF T l[i] :: ((l.take m).drop (i + 1)).map (fitF T))=R:=⟨_,rfl⟩
  rw [hR] at hn ⊢
  clear hR
  have e:=rdFl_lt l i h
  have hj5 : ∀ a b c s,(⟨a,b,⟨c,s⟩⟩ : XFl)=fitF T l[i]→Ev (fun k=>thresherref19_Fit.j5 k l m acc i T K M G a b c s) R:=fun a b c s hf=>by
   refine Ev.succ ?_
   simp only [thresherref19_Fit.j5]
   rw [hf]
   simp (disch:=omega) only [w64]
   exact Ev.pos (by omega) hn
  have hc:=md_rng l[i].f0 T.length (by omega)
  have ho:=md_rng l[i].f1 7 (by omega)
  have hj3 : Ev (fun k=>thresherref19_Fit.j3 k l m acc i (md l[i].f0 T.length) (md l[i].f1 7) T K M G) R:=by
   refine Ev.succ ?_
   simp only [thresherref19_Fit.j3]
   rw [e,mn_toNat]
   obtain ⟨m1,m2⟩:=mn_lo l[i].f2.f1
   refine Ev.pos (by omega) (Ev.pos (by omega) (Ev.pos hc.1 (Ev.pos hc.2 ?_)))
   by_cases q : rd T (md l[i].f0 T.length)=3
   ·refine Ev.pos q (Ev.pos m1 (Ev.pos m2 ?_))
    clear m1 m2
    simp (disch:=omega) only [w64]
    exact hj5 _ _ _ _ (by unfold fitF;rw [if_pos q];rfl)
   ·refine Ev.neg q ?_
    clear m1 m2
    simp (disch:=omega) only [w64]
    by_cases q7 : 1 + md l[i].f1 7=7
    ·refine Ev.pos q7 (Ev.succ ?_)
     simp only [thresherref19_Fit.j4]
     exact hj5 _ _ _ _ (by unfold fitF;rw [if_neg q,if_pos q7])
    ·refine Ev.neg q7 (Ev.succ ?_)
     simp only [thresherref19_Fit.j4]
     exact hj5 _ _ _ _ (by unfold fitF;rw [if_neg q,if_neg q7])
  have hj2 : Ev (fun k=>thresherref19_Fit.j2 k l m acc i (md l[i].f0 T.length) T K M G) R:=by
   refine Ev.succ ?_
   simp only [thresherref19_Fit.j2]
   rw [e]
   have ht:=tmod_rng l[i].f1 7 (by omega)
   refine Ev.pos (by omega) (Ev.pos (by omega) ?_)
   by_cases q : Int.tmod l[i].f1 7 < 0
   ·refine Ev.pos q ?_
    have em : md l[i].f1 7=Int.tmod l[i].f1 7 + 7:=by unfold md;rw [if_pos q]
    rw [em] at hj3
    simp (disch:=omega) only [w64]
    exact hj3
   ·refine Ev.neg q ?_
    have em : md l[i].f1 7=Int.tmod l[i].f1 7:=by unfold md;rw [if_neg q]
    rw [em] at hj3
    exact hj3
  refine Ev.succ ?_
  simp only [thresherref19_Fit.l0]
  refine Ev.pos (by omega) ?_
  rw [decide_eq_true (by omega)]
  refine Ev.succ ?_
  simp only [thresherref19_Fit.j1]
  rw [e]
  have ht:=tmod_rng l[i].f0 T.length (by omega)
  refine Ev.pos (by simp) (Ev.pos (by omega) (Ev.pos (by omega) (Ev.neg (by omega) ?_)))
  by_cases q : Int.tmod l[i].f0 T.length < 0
  ·refine Ev.pos q ?_
   have em : md l[i].f0 T.length=Int.tmod l[i].f0 T.length + T.length:=by unfold md;rw [if_pos q]
   rw [em] at hj2
   simp (disch:=omega) only [w64]
   exact hj2
  ·refine Ev.neg q ?_
   have em : md l[i].f0 T.length=Int.tmod l[i].f0 T.length:=by unfold md;rw [if_neg q]
   rw [em] at hj2
   exact hj2
theorem ffit_ev (T : List Int) (K M G : Int) (hT1 : 1≤T.length) (hT : T.length≤1000000) (l : List XFl) (m : Nat) (hm : m≤1000000) : Ev (fun k=>thresherref19_Fit.f k T K M G l m) ((l.take m).map (fitF T)):=by
 simp only [thresherref19_Fit.f]
 have:=ffit_loop T K M G hT1 hT l m hm (min l.length m) 0 [] (by omega) rfl
 simpa using this
def selP (t op : Int) (fv : XV) (col : List XV) (a : Int) : Bool:=decide (0≤a) && (decide (a < col.length) && holdsV t op fv (rdV col a))
end Go.Proofs.Ytbkpifcjgedjaaa.P

/- A row is kept by just one of two filters that are each other's opposite, and by just one of below, as, and above; filters do not hang on their order, nor on how often they stand: the plain law. -/
namespace Go.Proofs.Ytbkpifcjgedjaaa.Pure
open Go.RowKit Go.Proofs.Ytbkpifcjgedjaaa.P Go.Proofs.YtbkpifcjgedjaaaW.PrintWords Go.Proofs.YtbkpifcjgedjaaaW.PrintLast
set_option linter.unusedVariables false
set_option linter.unusedSectionVars false
theorem shown_ev : Ev (fun k=>thresherlaw19_shown.f k) true:=Ev.of thresherlaw19_shown.mono (k:=10) (by kernel_rfl)
theorem cnt {α : Type} (c : α→Int) : ∀ l : List α,(l.filter fun r=>decide (c r < 0)).length + (l.filter fun r=>decide (c r > 0)).length=(l.filter fun r=>c r != 0).length∧(l.filter fun r=>c r == 0).length + (l.filter fun r=>c r != 0).length=l.length∧(l.filter fun r=>decide (c r≤0)).length + (l.filter fun r=>decide (c r ≥ 0)).length=l.length + (l.filter fun r=>c r == 0).length
 | []=>by simp
 | r :: l=>by
  obtain ⟨h1,h2,h3⟩:=cnt c l
  rcases Int.lt_trichotomy (c r) 0 with h|h|h
  ·have e1 : decide (c r < 0)=true:=by simpa using h
   have e2 : decide (c r > 0)=false:=by simp;omega
   have e3 : (c r != 0)=true:=by simp;omega
   have e4 : (c r == 0)=false:=by simp;omega
   have e5 : decide (c r≤0)=true:=by simp;omega
   have e6 : decide (c r ≥ 0)=false:=by simp;omega
   simp only [List.filter_cons,e1,e2,e3,e4,e5,e6,if_true,Bool.false_eq_true,if_false,List.length_cons]
   omega
  ·have e1 : decide (c r < 0)=false:=by simp;omega
   have e2 : decide (c r > 0)=false:=by simp;omega
   have e3 : (c r != 0)=false:=by simp;omega
   have e4 : (c r == 0)=true:=by simp;omega
   have e5 : decide (c r≤0)=true:=by simp;omega
   have e6 : decide (c r ≥ 0)=true:=by simp;omega
   simp only [List.filter_cons,e1,e2,e3,e4,e5,e6,if_true,Bool.false_eq_true,if_false,List.length_cons]
   omega
  ·have e1 : decide (c r < 0)=false:=by simp;omega
   have e2 : decide (c r > 0)=true:=by simp;omega
   have e3 : (c r != 0)=true:=by simp;omega
   have e4 : (c r == 0)=false:=by simp;omega
   have e5 : decide (c r≤0)=false:=by simp;omega
   have e6 : decide (c r ≥ 0)=true:=by simp;omega
   simp only [List.filter_cons,e1,e2,e3,e4,e5,e6,if_true,Bool.false_eq_true,if_false,List.length_cons]
   omega
theorem keep_nil (T : List Int) (r : List XV) : keepV T [] r=true:=rfl
theorem keep_one (T : List Int) (r : List XV) (f : XFl) : keepV T [f] r=holdsF T r f:=by simp [keepV]
theorem keep_two (T : List Int) (r : List XV) (f g : XFl) : keepV T [f,g] r=(holdsF T r f && holdsF T r g):=by simp [keepV]
theorem keep_three (T : List Int) (r : List XV) (f g : XFl) : keepV T [g,f,g] r=(holdsF T r f && holdsF T r g):=by
 simp only [keepV,List.all_cons,List.all_nil,Bool.and_true]
 cases holdsF T r f <;> cases holdsF T r g <;> rfl
section
variable (T : List Int) (n : Nat) (M G : Int) (rows : List (List XV)) (hrows : rows.length≤60) (hwide : ∀ r ∈ rows,r.length=T.length) (hT8 : T.length≤8) (a b : XFl) (ha : 0≤a.f0∧a.f0 < T.length) (hb : 0≤b.f0∧b.f0 < T.length)
include hrows hwide hT8 ha hb
def at_ (a : XFl) (op : Int) : XFl:=⟨a.f0,op,a.f2⟩
omit hb in
theorem k_one (op : Int) : Ev (fun k=>filter_Keep.f k T n M G [(⟨a.f0,op,⟨a.f2.f0,a.f2.f1⟩⟩ : XFl)] rows) (rows.filter fun r=>holdsV (rd T a.f0) op a.f2 (rdV r a.f0)):=by
 have h:=keep_ev T n M G [at_ a op] (by simp) (fun f hf=>by simp at hf;subst hf;exact ha) rows (by omega) (fun r h f hf=>by have:=hwide r h;simp at hf;subst hf;show a.f0 < _;omega)
 refine h.eq (List.filter_congr fun r _=>?_)
 rw [keep_one]
 rfl
theorem l0_end (x13 x14 x1 : Int) (h14 : ¬ x14≤5) (hx : x13=((rows.filter fun r=>cmpV (rd T a.f0) (rdV r a.f0) a.f2 != 0).length : Int)) : Ev (fun k=>thresherlaw19_FilterSides.l0 k true rows x13 x14 T n M G a.f0 x1 a.f2.f0 a.f2.f1 b.f0 b.f1 b.f2.f0 b.f2.f1) true:=by
 refine Ev.succ ?_
 simp only [thresherlaw19_FilterSides.l0]
 have e1:=k_one T n M G rows hrows hwide hT8 a ha 1
 have e2:=k_one T n M G rows hrows hwide hT8 a ha 2
 have e4:=k_one T n M G rows hrows hwide hT8 a ha 4
 have e6:=k_one T n M G rows hrows hwide hT8 a ha 6
 have hw : ∀ fs : List XFl,(∀ f ∈ fs,0≤f.f0∧f.f0 < T.length)→∀ r ∈ rows,∀ f ∈ fs,f.f0 < r.length:=fun fs h r hr f hf=>by have:=hwide r hr;have:=h f hf;omega
 have c2 : ∀ f ∈ [at_ a 6,b],0≤f.f0∧f.f0 < T.length:=fun f hf=>by simp at hf;rcases hf with rfl|rfl;exact ha;exact hb
 have c3 : ∀ f ∈ [b,at_ a 6,b],0≤f.f0∧f.f0 < T.length:=fun f hf=>by simp at hf;rcases hf with rfl|rfl|rfl;exact hb;exact ha;exact hb
 have k2:=keep_ev T n M G [at_ a 6,b] (by simp) c2 rows (by omega) (hw _ c2)
 have k3:=keep_ev T n M G [b,at_ a 6,b] (by simp) c3 rows (by omega) (hw _ c3)
 have q3 : rows.filter (keepV T [b,at_ a 6,b])=rows.filter (keepV T [at_ a 6,b]):=List.filter_congr fun r _=>by rw [keep_three,keep_two]
 rw [q3] at k3
 obtain ⟨ge,hge⟩ : ∃ l,l=rows.filter fun r=>holdsV (rd T a.f0) 6 a.f2 (rdV r a.f0):=⟨_,rfl⟩
 rw [← hge] at e6
 have gel : ge.length≤60:=by rw [hge];exact Nat.le_trans (List.length_filter_le _ _) hrows
 have gem : ∀ r ∈ ge,r ∈ rows:=fun r h=>by rw [hge] at h;exact (List.mem_filter.mp h).1
 have kb:=keep_ev T n M G [b] (by simp) (fun f hf=>by simp at hf;subst hf;exact hb) ge (by omega) (fun r h f hf=>by have:=hwide r (gem r h);simp at hf;subst hf;omega)
 have qb : ge.filter (keepV T [b])=rows.filter (keepV T [at_ a 6,b]):=by
  rw [hge,List.filter_filter]
  exact List.filter_congr fun r _=>by rw [keep_one,keep_two];exact Bool.and_comm _ _
 rw [qb] at kb
 have kn:=keep_ev T n M G [] (by simp) (by simp) rows (by omega) (fun r _ f hf=>by simp at hf)
 have qn : rows.filter (keepV T [])=rows:=List.filter_eq_self.mpr fun r _=>keep_nil T r
 rw [qn] at kn
 obtain ⟨one,hone⟩ : ∃ l,l=rows.filter (keepV T [at_ a 6,b]):=⟨_,rfl⟩
 rw [← hone] at k2 k3 kb
 have onel : one.length≤60:=by rw [hone];exact Nat.le_trans (List.length_filter_le _ _) hrows
 have onew : ∀ r ∈ one,r.length≤1000000000:=fun r h=>by rw [hone] at h;have:=hwide r (List.mem_filter.mp h).1;omega
 have oneg : one.length≤ge.length:=by rw [← qb] at hone;rw [hone];exact List.length_filter_le _ _
 have s1 : Ev (fun k=>thresherref04_Rows.f k one one) true:=(rows_ev one one (by omega) onew).eq (by simp)
 have s3 : Ev (fun k=>thresherref04_Rows.f k rows rows) true:=(rows_ev rows rows (by omega) (fun r h=>by have:=hwide r h;omega)).eq (by simp)
 obtain ⟨n1,n2,n3⟩:=cnt (fun r : List XV=>cmpV (rd T a.f0) (rdV r a.f0) a.f2) rows
 have p1 : (rows.filter fun r=>holdsV (rd T a.f0) 1 a.f2 (rdV r a.f0))=rows.filter fun r=>cmpV (rd T a.f0) (rdV r a.f0) a.f2 == 0:=rfl
 have p2 : (rows.filter fun r=>holdsV (rd T a.f0) 2 a.f2 (rdV r a.f0))=rows.filter fun r=>cmpV (rd T a.f0) (rdV r a.f0) a.f2 != 0:=rfl
 have p4 : (rows.filter fun r=>holdsV (rd T a.f0) 4 a.f2 (rdV r a.f0))=rows.filter fun r=>decide (cmpV (rd T a.f0) (rdV r a.f0) a.f2≤0):=rfl
 have p6 : ge=rows.filter fun r=>decide (cmpV (rd T a.f0) (rdV r a.f0) a.f2 ≥ 0):=hge
 rw [p1] at e1
 rw [p2] at e2
 rw [p4] at e4
 rw [← p6] at n3
 clear p1 p2 p4 p6 hge q3 qb qn hone
 have b1:=List.length_filter_le (fun r : List XV=>cmpV (rd T a.f0) (rdV r a.f0) a.f2 == 0) rows
 have b4:=List.length_filter_le (fun r : List XV=>decide (cmpV (rd T a.f0) (rdV r a.f0) a.f2≤0)) rows
 have b2:=List.length_filter_le (fun r : List XV=>cmpV (rd T a.f0) (rdV r a.f0) a.f2 != 0) rows
 refine Ev.neg h14 (Ev.bind e1 (Ev.bind e2 (Ev.bind e4 (Ev.bind e6 (Ev.bind k2 (Ev.bind k3 (Ev.bind s1 (Ev.bind e6 (Ev.bind kb (Ev.bind s1 (Ev.bind kn (Ev.bind s3 ?_))))))))))))
 simp (disch:=omega) only [w64]
 refine Ev.pos (by simp) (Ev.pos hx (Ev.pos (by omega) (Ev.pos (by omega) (Ev.pos (by simp) (Ev.pos (by simp) (Ev.pos (by simp) ?_))))))
 refine Ev.succ ?_
 simp only [thresherlaw19_FilterSides.j1]
 exact (Ev.now _).eq (by simp;omega)
theorem l0_start (x1 : Int) : Ev (fun k=>thresherlaw19_FilterSides.l0 k true rows 0 3 T n M G a.f0 x1 a.f2.f0 a.f2.f1 b.f0 b.f1 b.f2.f0 b.f2.f1) true:=by
 have e3:=k_one T n M G rows hrows hwide hT8 a ha 3
 have e5:=k_one T n M G rows hrows hwide hT8 a ha 5
 obtain ⟨n1,n2,n3⟩:=cnt (fun r : List XV=>cmpV (rd T a.f0) (rdV r a.f0) a.f2) rows
 have p3 : (rows.filter fun r=>holdsV (rd T a.f0) 3 a.f2 (rdV r a.f0))=rows.filter fun r=>decide (cmpV (rd T a.f0) (rdV r a.f0) a.f2 < 0):=rfl
 have p5 : (rows.filter fun r=>holdsV (rd T a.f0) 5 a.f2 (rdV r a.f0))=rows.filter fun r=>decide (cmpV (rd T a.f0) (rdV r a.f0) a.f2 > 0):=rfl
 rw [p3] at e3
 rw [p5] at e5
 have b3:=List.length_filter_le (fun r : List XV=>decide (cmpV (rd T a.f0) (rdV r a.f0) a.f2 < 0)) rows
 have b5:=List.length_filter_le (fun r : List XV=>decide (cmpV (rd T a.f0) (rdV r a.f0) a.f2 > 0)) rows
 refine Ev.succ ?_
 simp only [thresherlaw19_FilterSides.l0]
 refine Ev.pos (by omega) (Ev.bind e3 ?_)
 simp (disch:=omega) only [w64]
 refine Ev.succ ?_
 simp only [thresherlaw19_FilterSides.l0]
 refine Ev.pos (by omega) (Ev.bind e5 ?_)
 simp (disch:=omega) only [w64]
 exact l0_end T n M G rows hrows hwide hT8 a b ha hb _ _ _ (by omega) (by omega)
end
theorem FilterSides : thresherlaw19_FilterSides.PureG:=by
 intro x l c hx hl hc
 obtain ⟨T,K,M,G,hmade,hS⟩:=shape_ev hx
 obtain ⟨n,rfl⟩ : ∃ n : Nat,K=n:=⟨K.toNat,by have:=hS.k1;omega⟩
 have n8:=hS.n8
 have kn:=hS.kn
 have k1:=hS.k1
 have hfit:=ffit_ev T n M G (by omega) (by omega) [l.f0,l.f1] 2 (by omega)
 have hf:=fits_ev T n M G c 60 (by omega) (by omega)
 obtain ⟨rows,erows⟩ : ∃ rows,(c.take 60).map (fitRow T)=rows:=⟨_,rfl⟩
 have a2 : rows.length≤60:=by rw [← erows,List.length_map,List.length_take];omega
 have a3 : ∀ r ∈ rows,r.length=T.length:=fun r hr=>by rw [← erows] at hr;obtain ⟨q,_,rfl⟩:=List.mem_map.mp hr;exact fitRow_length T q
 rw [erows] at hf
 have e : ([l.f0,l.f1].take 2).map (fitF T)=[fitF T l.f0,fitF T l.f1]:=rfl
 rw [e] at hfit
 apply Ev.rounds
 simp only [thresherlaw19_FilterSides.f,thresherlaw19_made.f]
 refine Ev.bind shown_ev (Ev.bind (Ev.bind hmade (Ev.now _)) (Ev.bind hf (Ev.bind hfit (Ev.pos (by simp) (Ev.pos (by simp) ?_)))))
 exact l0_start T n M G rows a2 a3 (by omega) (fitF T l.f0) (fitF T l.f1) (fitF_col T (by omega) l.f0) (fitF_col T (by omega) l.f1) _
end Go.Proofs.Ytbkpifcjgedjaaa.Pure

namespace Go.Proofs.Ytbkpifcjgedjaaa.filterSides
open Go.ChangeShapes Go.WideShapes Go.ChangeAt Go.RowKit Go.Proofs.Ytbkpifcjgedjaaa.P Go.Proofs.YtbkpifcjgedjaaaW.PrintWords
set_option linter.unusedVariables false
set_option linter.unusedSimpArgs false
theorem own : ownKnob Try.prog.godebug=none:=by kernel_rfl
theorem laidOut : laidOutB Try.prog=true:=by kernel_rfl
set_option maxRecDepth 100000 in
theorem lifted (os : Os) (started : os.Started) (H : Type) (enc : TypeId × Value→H) :
  ReturnsInHanded {} Try.checked os 4 .any (Rows.filterSidesSpec.pre6 enc Try.prog Try.f4 Rows.filterSidesRow.domain false) (Rows.filterSidesSpec.post enc Try.prog Try.f4 false true false false):=by
 refine returnsInHanded_of_change_sized (C:=Try.checked) own started (by kernel_rfl) Try.func4
  (ChangeSpec.witness6 (enc:=enc) (C:=Try.checked) false ⟨#[],#[.agg #[.int .u8 0,.int .u8 0,.int .u8 0,.int .u8 0,.int .u8 0,.int .u8 0,.int .u8 0,.int .u8 0,.int .u8 0,.int .u8 0,.int .u8 0,.int .u8 0],.agg #[.int .i64 0,.int .i64 0,.int .i64 0,.string ByteArray.empty,.int .i64 0,.int .i64 0,.int .i64 0,.string ByteArray.empty],.slice none 0 0],[]⟩ 8 (by kernel_rfl) (by kernel_rfl) (by kernel_rfl) (by kernel_rfl)) ?_
 intro W base args ds gs before hval0 hW hcnd hsz0 _
 have hval : ∀ (j : Nat) t v,Try.f4.params[j]?=some t→args[j]?=some v→Value.okWide Try.prog W .any base t v:=hval0
 have hW':=hW
 obtain ⟨p,q,hA0,hV,rfl,hfz,hnd⟩:=hW
 have hA : DataW.TrodAll enc Try.prog W 0 (fun _=>true) true Try.f4.params.toList args.toList ds p:=hA0
 rw [Try.params4] at hA hval
 obtain ⟨v0,vs0,d0,ds0,p0,q0,hargs,rfl,rfl,h0,r0⟩:=trodAll_cons hA
 obtain ⟨v1,vs1,d1,ds1,p1,q1,rfl,rfl,rfl,h1,r1⟩:=trodAll_cons r0
 obtain ⟨v2,vs2,d2,ds2,p2,q2,rfl,rfl,rfl,h2,r2⟩:=trodAll_cons r1
 obtain ⟨rfl,rfl,rfl⟩:=trodAll_nil r2
 obtain rfl : args=#[v0,v1,v2]:=by cases args;simp_all
 obtain ⟨rfl,rfl⟩:=trodVars_none hV
 have lt0 : ∀ x ∈ p0,x.block < W.heap.size:=by obtain ⟨m,hm⟩:=h0;exact DataW.trod_lt m _ _ _ hm
 obtain ⟨x0,K0,g0⟩:=(op24).arg h0
 obtain ⟨cs0,rfl⟩:=okWide_agg Try.underlying24 (hval 0 24 v0 rfl rfl)
 have e0:=k24_open K0
 replace e0:=agg_of e0
 have lt1 : ∀ x ∈ p1,x.block < W.heap.size:=by obtain ⟨m,hm⟩:=h1;exact DataW.trod_lt m _ _ _ hm
 obtain ⟨x1,K1,g1⟩:=(op47).arg h1
 obtain ⟨cs1,rfl⟩:=okWide_aggA Try.underlying47 (hval 1 47 v1 rfl rfl)
 have e1:=k47_open K1
 replace e1:=agg_of e1
 have lt2 : ∀ x ∈ p2,x.block < W.heap.size:=by obtain ⟨m,hm⟩:=h2;exact DataW.trod_lt m _ _ _ hm
 obtain ⟨x2,K2,g2⟩:=((opens_slice Try.underlying26 (by kernel_rfl) (opens_slice Try.underlying41 (by kernel_rfl) op37))).arg h2
 obtain ⟨a2,len2,cap2,rfl⟩:=okWide_slice Try.underlying26 (hval 2 26 v2 rfl rfl)
 obtain ⟨A2,c2,e2,hl2,hr2⟩:=K2
 simp [Value.cells] at e2
 obtain ⟨rfl,rfl,rfl⟩:=e2
 obtain ⟨k,hk⟩:=Pure.FilterSides x0 x1 x2 g0 g1 g2
 have call : Calls Try.prog 4 #[.agg cs0,.agg cs1,.slice a2 x2.length cap2] W fun e W'=>e=.returned (.bool true)∧Below W.heap.size W W':=by
  rw [e0,e1]
  refine (thresherlaw19_FilterSides.calls k _ _ _ _ _ _ _ _ _ _ _ _ _ _ _ _ _ _ _ _ _ _ _ true W hr2 hl2 hk).mono ?_
  rintro e w' ⟨rfl,hd⟩
  exact ⟨rfl,hd⟩
 refine call.mono fun e W' ⟨he,bel⟩=>?_
 subst he
 exact ⟨_,rfl,_,_,_,[],_,[],hW',trodAll_mk1 (shut_bool Try.underlying4 _),(trodAll_cons_mk (Below.trod laidOut (by kernel_rfl) (of_decide_eq_true (by kernel_rfl)) h0 bel lt0) (trodAll_cons_mk (Below.trod laidOut (by kernel_rfl) (of_decide_eq_true (by kernel_rfl)) h1 bel lt1) (trodAll_cons_mk (Below.trod laidOut (by kernel_rfl) (of_decide_eq_true (by kernel_rfl)) h2 bel lt2) trodAll_mk0))),rfl,bel.frame _,fun h=>by cases h⟩
theorem over : Rows.filterSidesRow.holds Try.pinned (OpenSpec.ofChange Rows.filterSidesSpec) :=
 OpenClaim.holds_of_wide 4 Try.f4 rfl rfl rfl rfl rfl rfl rfl ⟨rfl,rfl,rfl,rfl,rfl⟩ rfl rfl rfl rfl rfl (by kernel_rfl) Try.func4 (by kernel_rfl)
  (of_decide_eq_true (by kernel_rfl)) (by unfold Func.isWrapper;first|(rw [if_pos (by decide +kernel)];kernel_rfl)|(rw [if_neg (by decide +kernel)];exact ⟨rfl,rfl⟩))
  (fun os started H enc _=>lifted os started H enc)
theorem proved : Rows.FilterSidesSaid:=over
#print axioms proved
end Go.Proofs.Ytbkpifcjgedjaaa.filterSides
namespace Go.Proofs.Ytbkpifcjgedjaaa
theorem filterSides_holds : Rows.FilterSidesSaid:=filterSides.proved
end Go.Proofs.Ytbkpifcjgedjaaa

