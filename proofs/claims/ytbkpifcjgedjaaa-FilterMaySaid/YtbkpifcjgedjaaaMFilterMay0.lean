/- The row of FilterMay. Merged: SFilterMay, XBase, XFit, XMade, XOrd, XRVal, XShape, XVal, XHolds, XFFit, XFMay, PureFilterMay, RFilterMay. -/
import Derived.Test.YtbkpifcjgedjaaaQFilterMayHMayL
import Derived.Test.YtbkpifcjgedjaaaQFilterMayO
import Derived.Test.YtbkpifcjgedjaaaQFilterMayPx0
import Derived.Test.YtbkpifcjgedjaaaQFilterMayHBase
import Derived.Test.YtbkpifcjgedjaaaQFilterMayPx7
import Derived.Test.YtbkpifcjgedjaaaQFilterMayPx5
import Derived.Lib.Bytealg
import Derived.Test.YtbkpifcjgedjaaaQFilterMayPx8
import Derived.Test.YtbkpifcjgedjaaaQFilterMayPx3
import Derived.Test.YtbkpifcjgedjaaaQFilterMayPx2
import Derived.Test.YtbkpifcjgedjaaaQFilterMayPx11
import Derived.Test.YtbkpifcjgedjaaaQFilterMayPx6
import Derived.Test.YtbkpifcjgedjaaaQFilterMayPx9
import Derived.Test.YtbkpifcjgedjaaaQFilterMayPx10
import Derived.Test.YtbkpifcjgedjaaaQFilterMayPx4
import Derived.Test.YtbkpifcjgedjaaaQFilterMayPx15
import Derived.Test.YtbkpifcjgedjaaaQFilterMayPx17
import Derived.Test.YtbkpifcjgedjaaaQFilterMayPx18
import Derived.Test.YtbkpifcjgedjaaaRows
import Derived.WalkKit
import Derived.ProofKit
import Derived.OpenShut
import Derived.ShutString
import Derived.ChangeOld
import Derived.Below
import Derived.SizedLaws
/- FilterMay's plain statement. -/
namespace Go.Proofs.Ytbkpifcjgedjaaa.P
open Go.RowKit Go.Proofs.YtbkpifcjgedjaaaW.PrintWords
def thresherlaw19_FilterMay.PureG : Prop:=∀ (x0 : S24) (x1 : List (S39)) (x2 : Int),gd24 x0→(x1.length≤maxLen∧∀ a ∈ x1,gd39 a)→(Lit.int .i64 x2).wf=true→∃ (k : Nat) (T : List Int) (ta tb td : Int) (fit : List (S39)) (vs : List (S37)) (col op two : Bool),MayH k x0.f0.f0 x0.f0.f1 x0.f0.f2 x0.f0.f3 x0.f0.f4 x0.f0.f5 x0.f0.f6 x0.f0.f7 x0.f1 x0.f2 x0.f3 x0.f4 x1 x2 T ta tb td fit vs col op two
end Go.Proofs.Ytbkpifcjgedjaaa.P

/- Words of the laws about rows. -/
namespace Go.Proofs.Ytbkpifcjgedjaaa.P
open Go.RowKit Go.Proofs.YtbkpifcjgedjaaaW.PrintWords Go.Proofs.YtbkpifcjgedjaaaW.PrintLast Go.Proofs.YtbkpifcjgedjaaaW.PrintMore
set_option linter.unusedVariables false
set_option linter.unusedSimpArgs false
abbrev XV:=S37
abbrev rdV (l : List XV) (i : Int) : XV:=rd_T37 l i
abbrev rdR (l : List (List XV)) (i : Int) : List XV:=rd_L4 l i
theorem rd_lt (l : List Int) (i : Nat) (h : i < l.length) : rd l i=l[i]:=by unfold rd;simp [List.getD,h]
theorem rdV_lt (l : List XV) (i : Nat) (h : i < l.length) : rd_T37 l i=l[i]:=by unfold rd_T37;simp [List.getD,h]
theorem rdV_ge (l : List XV) (i : Nat) (h : l.length≤i) : rd_T37 l i=⟨0,⟨#[]⟩⟩:=by unfold rd_T37;simp [List.getD,h];rfl
structure Sch (T : List Int) (K M G : Int) : Prop where
 n1 : 1≤T.length
 n8 : T.length≤8
 ty : ∀ t ∈ T,1≤t∧t≤3
 k1 : 1≤K
 kn : K≤T.length
 m1 : 1≤M
 m3 : M≤3
 g1 : 1≤G
 g8 : G≤8
theorem Sch.rdt {T : List Int} {K M G : Int} (h : Sch T K M G) (i : Nat) (hi : i < T.length) : 1≤rd T i∧rd T i≤3:=by
 rw [rd_lt T i hi];exact h.ty _ (List.getElem_mem hi)
def fitT (t : Int) (v : XV) : Bool:=if t=1 ∨ t=2 then v.f1.toList == ([] : List UInt8) else if t=3 then (if v.f0=0 then decide ((v.f1.size : Int)≤60) else false) else false
def rowOkB (T : List Int) (r : List XV) : Bool:=decide (T.length=r.length) && (List.range T.length).all fun (i : Nat)=>fitT (rd T i) (rdV r i)
def fit1 (t : Int) (v : XV) : XV:=if t=3 then ⟨0,if (v.f1.size : Int) > 60 then v.f1.extract 0 60 else v.f1⟩ else ⟨v.f0,⟨#[]⟩⟩
def fitRow (T : List Int) (r : List XV) : List XV:=(List.range' 0 T.length).map fun (i : Nat)=>fit1 (rd T i) (rdV r i)
theorem fitRow_length (T : List Int) (r : List XV) : (fitRow T r).length=T.length:=by simp [fitRow]
theorem rdV_fitRow (T : List Int) (r : List XV) (i : Nat) (hi : i < T.length) : rdV (fitRow T r) i=fit1 (rd T i) (rdV r i):=by
 show rd_T37 _ _=_
 rw [rdV_lt _ i (by rw [fitRow_length];exact hi)]
 simp [fitRow]
theorem fitT_fit1 (t : Int) (v : XV) (h1 : 1≤t) (h3 : t≤3) : fitT t (fit1 t v)=true:=by
 unfold fitT fit1
 by_cases e : t=3
 ·subst e
  simp only [if_true,if_pos rfl]
  rw [if_neg (by omega)]
  rw [decide_eq_true_iff]
  split
  ·simp only [ByteArray.size_extract];omega
  ·omega
 ·rw [if_pos (by omega),if_neg e]
  simp [ByteArray.toList_eq]
theorem bytes_eq {a b : ByteArray} (h : a.toList=b.toList) : a=b:=by
 rw [ByteArray.toList_eq,ByteArray.toList_eq] at h
 exact ByteArray.ext (Array.toList_inj.mp h)
theorem XV.same {a b : XV} : (!(a.f0 == b.f0) || (!(a.f1.toList == b.f1.toList)))=true ↔ a≠b:=by
 constructor
 ·rintro h rfl
  simp at h
 ·intro h
  by_cases h0 : a.f0=b.f0
  ·by_cases h1 : a.f1.toList=b.f1.toList
   ·exact absurd (by cases a;cases b;simp only at h0 h1;rw [h0,bytes_eq h1]) h
   ·simp [h1]
  ·simp [h0]
instance : DecidableEq XV:=fun a b=>if h : (!(a.f0 == b.f0) || (!(a.f1.toList == b.f1.toList)))=true then isFalse (XV.same.mp h) else isTrue (Classical.byContradiction fun e=>h (XV.same.mpr e))
end Go.Proofs.Ytbkpifcjgedjaaa.P

/- A row made to fit. -/
namespace Go.Proofs.Ytbkpifcjgedjaaa.P
open Go.RowKit Go.Proofs.YtbkpifcjgedjaaaW.PrintWords Go.Proofs.YtbkpifcjgedjaaaW.PrintLast Go.Proofs.YtbkpifcjgedjaaaW.PrintMore
set_option linter.unusedVariables false
set_option linter.unusedSimpArgs false
theorem fit_turn (T : List Int) (K M G : Int) (r : List XV) (i : Nat) (acc : List XV) (v0 : Int) (v1 : ByteArray) (hi : i < T.length) (hT : T.length≤1000000) (ha : acc.length=i) {R : List XV} (h : Ev (fun k=>thresherref04_Fit.l0 k r (acc ++ [fit1 (rd T i) ⟨v0,v1⟩]) ((i + 1 : Nat) : Int) T K M G) R) : Ev (fun k=>thresherref04_Fit.j1 k r acc i T K M G v0 v1) R:=by
 refine Ev.succ ?_
 simp only [thresherref04_Fit.j1]
 simp (disch:=omega) only [w64]
 refine Ev.pos (by omega) (Ev.pos (by omega) ?_)
 unfold fit1 at h
 by_cases e : rd T i=3
 ·rw [if_pos e] at h
  refine Ev.pos e ?_
  by_cases s : (v1.size : Int) > 60
  ·simp only [if_pos s] at h
   exact Ev.pos s (Ev.pos (by omega) (Ev.pos (by omega) (Ev.pos (by omega) h)))
  ·simp only [if_neg s] at h
   exact Ev.neg s (Ev.pos (by omega) h)
 ·rw [if_neg e] at h
  exact Ev.neg e (Ev.pos (by omega) h)
theorem fit_loop (T : List Int) (K M G : Int) (r : List XV) (hT : T.length≤1000000) : ∀ (d i : Nat) (acc : List XV),i + d=T.length→acc.length=i→Ev (fun k=>thresherref04_Fit.l0 k r acc i T K M G) (acc ++ (List.range' i d).map fun (j : Nat)=>fit1 (rd T j) (rdV r j))
 | 0,i,acc,hi,ha=>by
  refine Ev.succ ?_
  simp only [thresherref04_Fit.l0]
  exact Ev.neg (by omega) ((Ev.now _).eq (by simp))
 | d + 1,i,acc,hi,ha=>by
  refine Ev.succ ?_
  simp only [thresherref04_Fit.l0]
  refine Ev.pos (by omega) ?_
  have hl : (acc ++ [fit1 (rd T i) (rdV r i)]).length=i + 1:=by simp;omega
  have h:=(fit_loop T K M G r hT d (i + 1) (acc ++ [fit1 (rd T i) (rdV r i)]) (by omega) hl).eq (r':=acc ++ (List.range' i (d + 1)).map fun (j : Nat)=>fit1 (rd T j) (rdV r j)) (by rw [List.append_assoc,List.range'_succ];rfl)
  by_cases e : i < r.length
  ·exact Ev.pos (by omega) (Ev.pos (by omega) (fit_turn T K M G r i acc _ _ (by omega) hT ha h))
  ·refine Ev.neg (by omega) (fit_turn T K M G r i acc _ _ (by omega) hT ha ?_)
   have e2 : rdV r i=⟨0,⟨#[]⟩⟩:=rdV_ge r i (by omega)
   rw [e2] at h
   exact h
theorem fit_ev (T : List Int) (K M G : Int) (r : List XV) (hT : T.length≤1000000) : Ev (fun k=>thresherref04_Fit.f k T K M G r) (fitRow T r):=by
 simp only [thresherref04_Fit.f]
 exact fit_loop T K M G r hT T.length 0 [] (by omega) rfl
end Go.Proofs.Ytbkpifcjgedjaaa.P

/- A schema made of any numbers. -/
namespace Go.Proofs.Ytbkpifcjgedjaaa.P
open Go.RowKit Go.Proofs.YtbkpifcjgedjaaaW.PrintWords Go.Proofs.YtbkpifcjgedjaaaW.PrintLast Go.Proofs.YtbkpifcjgedjaaaW.PrintMore
set_option linter.unusedVariables false
set_option linter.unusedSimpArgs false
def U8 (x : Int) : Prop:=0≤x∧x≤255
theorem made_one {x : Int} {m : Int} (h : U8 x) (hm : 0 < m) (hm2 : m≤1000) : wrap64 (1 + Int.tmod (wrap64 x) m)=1 + x % m∧1≤1 + x % m∧1 + x % m≤m:=by
 obtain ⟨h0,h1⟩:=h
 have e1 : wrap64 x=x:=w64 (by omega) (by omega)
 have h2:=Int.emod_nonneg x (show m≠0 by omega)
 have h3:=Int.emod_lt_of_pos x hm
 rw [e1,Int.tmod_eq_emod_of_nonneg h0]
 exact ⟨w64 (by omega) (by omega),by omega,by omega⟩
theorem made_loop (x0 x1 x2 x3 x4 x5 x6 x7 K M G : Int) (hx : ∀ x ∈ [x0,x1,x2,x3,x4,x5,x6,x7],U8 x) (n : Nat) (hn : n≤8) : ∀ (d i : Nat) (T : List Int),i + d=n→T.length=i→(∀ t ∈ T,1≤t∧t≤3)→∃ T',Ev (fun k=>thresherref04_Made.l0 k n i x0 x1 x2 x3 x4 x5 x6 x7 T K M G) (T',K,M,G)∧T'.length=n∧∀ t ∈ T',1≤t∧t≤3
 | 0,i,T,hi,hT,ht=>by
  refine ⟨T,Ev.succ ?_,by omega,ht⟩
  simp only [thresherref04_Made.l0]
  exact Ev.neg (by omega) (Ev.now _)
 | d + 1,i,T,hi,hT,ht=>by
  have hr : U8 (rd [x0,x1,x2,x3,x4,x5,x6,x7] i):=by
   rw [rd_lt _ i (by simp;omega)]
   exact hx _ (List.getElem_mem _)
  obtain ⟨e,l1,l2⟩:=made_one (m:=3) hr (by omega) (by omega)
  obtain ⟨T',h1,h2,h3⟩:=made_loop x0 x1 x2 x3 x4 x5 x6 x7 K M G hx n hn d (i + 1) (T ++ [1 + rd [x0,x1,x2,x3,x4,x5,x6,x7] i % 3]) (by omega) (by simp;omega) (by
   intro t h
   rcases List.mem_append.mp h with h|h
   ·exact ht t h
   ·rw [List.mem_singleton.mp h];exact ⟨l1,l2⟩)
  refine ⟨T',Ev.succ ?_,h2,h3⟩
  simp only [thresherref04_Made.l0]
  rw [e]
  clear e
  simp (disch:=omega) only [w64]
  exact Ev.pos (by omega) (Ev.pos (by omega) (Ev.pos (by omega) (Ev.pos (by omega) h1)))
theorem made_ev (x0 x1 x2 x3 x4 x5 x6 x7 a b c d : Int) (h0 : U8 x0) (h1 : U8 x1) (h2 : U8 x2) (h3 : U8 x3) (h4 : U8 x4) (h5 : U8 x5) (h6 : U8 x6) (h7 : U8 x7) (ha : U8 a) (hb : U8 b) (hc : U8 c) (hd : U8 d) : ∃ T K M G,Ev (fun k=>thresherref04_Made.f k x0 x1 x2 x3 x4 x5 x6 x7 a b c d) (T,K,M,G)∧Sch T K M G:=by
 obtain ⟨ea,a1,a2⟩:=made_one (m:=8) ha (by omega) (by omega)
 obtain ⟨n,hn⟩ : ∃ n : Nat,1 + a % 8=n:=⟨(1 + a % 8).toNat,by omega⟩
 obtain ⟨eb,b1,b2⟩:=made_one (m:=1 + a % 8) hb (by omega) (by omega)
 obtain ⟨ec,c1,c2⟩:=made_one (m:=3) hc (by omega) (by omega)
 obtain ⟨ed,d1,d2⟩:=made_one (m:=8) hd (by omega) (by omega)
 simp only [thresherref04_Made.f,ea,eb,ec,ed]
 clear ea eb ec ed
 rw [hn] at b1 b2 a1 a2 ⊢
 obtain ⟨T,e,l,t⟩:=made_loop x0 x1 x2 x3 x4 x5 x6 x7 (1 + b % n) (1 + c % 3) (1 + d % 8) (by
  intro x hx
  simp only [List.mem_cons,List.not_mem_nil,or_false] at hx
  rcases hx with rfl|rfl|rfl|rfl|rfl|rfl|rfl|rfl <;> assumption) n (by omega) n 0 [] (by omega) rfl (by simp)
 exact ⟨T,_,_,_,Ev.neg (by omega) e,⟨by omega,by omega,t,b1,by omega,c1,c2,d1,d2⟩⟩
end Go.Proofs.Ytbkpifcjgedjaaa.P

/- The order of values and of rows. -/
namespace Go.Proofs.Ytbkpifcjgedjaaa.P
open Go.RowKit Go.Proofs.YtbkpifcjgedjaaaW.PrintWords Go.Proofs.YtbkpifcjgedjaaaW.PrintLast Go.Proofs.YtbkpifcjgedjaaaW.PrintMore
set_option linter.unusedVariables false
set_option linter.unusedSimpArgs false
def GV (v : XV) : Prop:=-9223372036854775808≤v.f0∧v.f0≤9223372036854775807
def sgn (x y : Int) : Int:=if x < y then -1 else if x > y then 1 else 0
def un (x : Int) : Int:=x % 18446744073709551616
def cmpV (t : Int) (a b : XV) : Int:=if fitT t a=true∧fitT t b=true then (if t=3 then Lib.compareBytes a.f1.data.toList b.f1.data.toList else if t=2 then sgn (un a.f0) (un b.f0) else sgn a.f0 b.f0) else 0
def cmpC (t : Int) (a b : XV) : Int:=if t=3 then Lib.compareBytes a.f1.data.toList b.f1.data.toList else if t=2 then sgn (un a.f0) (un b.f0) else sgn a.f0 b.f0
def cmpFrom (T : List Int) (a b : List XV) : Nat→Nat→Int
 | 0,_=>0
 | m + 1,i=>if cmpV (rd T i) (rdV a i) (rdV b i)=0 then cmpFrom T a b m (i + 1) else cmpV (rd T i) (rdV a i) (rdV b i)
def cmpRow (T : List Int) (K : Int) (a b : List XV) : Int:=cmpFrom T a b (min (min (min K.toNat T.length) a.length) b.length) 0
def FitAt (T : List Int) (a : List XV) (m i : Nat) : Prop:=∀ j : Nat,i≤j→j < i + m→fitT (rd T j) (rdV a j)=true∧GV (rdV a j)
end Go.Proofs.Ytbkpifcjgedjaaa.P

/- The document's Compare of values tells the same order. -/
namespace Go.Proofs.Ytbkpifcjgedjaaa.P
open Go.RowKit Go.Proofs.YtbkpifcjgedjaaaW.PrintWords Go.Proofs.YtbkpifcjgedjaaaW.PrintLast Go.Proofs.YtbkpifcjgedjaaaW.PrintMore
set_option linter.unusedVariables false
set_option linter.unusedSimpArgs false
def GR (r : List XV) : Prop:=∀ v ∈ r,GV v∧v.f1.size≤9223372036854775807
theorem GR.rdV {r : List XV} (h : GR r) (i : Nat) : GV (rdV r i)∧(P.rdV r i).f1.size≤9223372036854775807:=by
 by_cases hi : i < r.length
 ·show GV (rd_T37 r i)∧(rd_T37 r i).f1.size≤_
  rw [rdV_lt r i hi]
  exact h _ (List.getElem_mem hi)
 ·show GV (rd_T37 r i)∧(rd_T37 r i).f1.size≤_
  rw [rdV_ge r i (by omega)]
  exact ⟨⟨by simp,by simp⟩,by decide⟩
end Go.Proofs.Ytbkpifcjgedjaaa.P

/- A schema of a shape. -/
namespace Go.Proofs.Ytbkpifcjgedjaaa.P
open Go.RowKit Go.Proofs.YtbkpifcjgedjaaaW.PrintWords Go.Proofs.YtbkpifcjgedjaaaW.PrintLast Go.Proofs.YtbkpifcjgedjaaaW.PrintMore
theorem u8_of {x : Int} (h : (Lit.int .u8 x).wf=true) : U8 x:=wf_u8 h
theorem shape_ev {x : S24} (h : gd24 x) : ∃ T K M G,Ev (fun k=>thresherref04_Made.f k x.f0.f0 x.f0.f1 x.f0.f2 x.f0.f3 x.f0.f4 x.f0.f5 x.f0.f6 x.f0.f7 x.f1 x.f2 x.f3 x.f4) (T,K,M,G)∧Sch T K M G:=by
 obtain ⟨⟨h0,h1,h2,h3,h4,h5,h6,h7⟩,ha,hb,hc,hd⟩:=h
 exact made_ev _ _ _ _ _ _ _ _ _ _ _ _ (u8_of h0) (u8_of h1) (u8_of h2) (u8_of h3) (u8_of h4) (u8_of h5) (u8_of h6) (u8_of h7) (u8_of ha) (u8_of hb) (u8_of hc) (u8_of hd)
end Go.Proofs.Ytbkpifcjgedjaaa.P

/- value.Compare tells the order of values. -/
namespace Go.Proofs.Ytbkpifcjgedjaaa.P
open Go.RowKit Go.Proofs.YtbkpifcjgedjaaaW.PrintWords Go.Proofs.YtbkpifcjgedjaaaW.PrintLast Go.Proofs.YtbkpifcjgedjaaaW.PrintMore
set_option linter.unusedVariables false
set_option linter.unusedSimpArgs false
theorem vfits_f (k : Nat) (t n : Int) (s : ByteArray) : value_Fits.f (k + 1) t n s=some (fitT t ⟨n,s⟩):=by
 unfold value_Fits.f fitT
 by_cases h1 : t=1
 ·rw [if_pos h1,if_pos (Or.inl h1)]
  subst h1
  rfl
 ·rw [if_neg h1]
  by_cases h2 : t=2
  ·rw [if_pos (Or.inr h2)]
   subst h2
   rfl
  ·rw [if_neg (by omega),show (t == 2)=false by simpa using h2]
   simp only [value_Fits.j0,Bool.false_eq_true,if_false]
   by_cases h3 : t=3
   ·rw [if_pos h3,if_pos h3]
    split <;> rfl
   ·rw [if_neg h3,if_neg h3]
theorem vfits_ev (t n : Int) (s : ByteArray) : Ev (fun k=>value_Fits.f k t n s) (fitT t ⟨n,s⟩):=Ev.succ ⟨0,fun k _=>vfits_f k t n s⟩
end Go.Proofs.Ytbkpifcjgedjaaa.P

/- What a filter says of a value, and which rows filters keep. -/
namespace Go.Proofs.Ytbkpifcjgedjaaa.P
open Go.RowKit Go.Proofs.YtbkpifcjgedjaaaW.PrintWords Go.Proofs.YtbkpifcjgedjaaaW.PrintLast Go.Proofs.YtbkpifcjgedjaaaW.PrintMore
set_option linter.unusedVariables false
set_option linter.unusedSimpArgs false
abbrev XFl:=S39
abbrev rdFl (l : List XFl) (i : Int) : XFl:=rd_T39 l i
theorem rdFl_lt (l : List XFl) (i : Nat) (h : i < l.length) : rd_T39 l i=l[i]:=by unfold rd_T39;simp [List.getD,h]
def isPre (p s : ByteArray) : Bool:=decide (p.size≤s.size) && ((s.extract 0 p.size).toList == p.toList)
def holdsV (t op : Int) (fv v : XV) : Bool :=
 if op=1 then cmpV t v fv == 0 else if op=2 then cmpV t v fv != 0 else if op=3 then decide (cmpV t v fv < 0) else if op=4 then decide (cmpV t v fv≤0) else if op=5 then decide (cmpV t v fv > 0) else if op=6 then decide (cmpV t v fv ≥ 0) else if op=7 then isPre fv.f1 v.f1 else false
def holdsF (T : List Int) (r : List XV) (f : XFl) : Bool:=holdsV (rd T f.f0) f.f1 f.f2 (rdV r f.f0)
def keepV (T : List Int) (fs : List XFl) (r : List XV) : Bool:=fs.all (holdsF T r)
end Go.Proofs.Ytbkpifcjgedjaaa.P

/- Filters made to fit; what the document's filters say. -/
namespace Go.Proofs.Ytbkpifcjgedjaaa.P
open Go.RowKit Go.Proofs.YtbkpifcjgedjaaaW.PrintWords Go.Proofs.YtbkpifcjgedjaaaW.PrintLast Go.Proofs.YtbkpifcjgedjaaaW.PrintMore
set_option linter.unusedVariables false
set_option linter.unusedSimpArgs false
theorem tmod_rng (x n : Int) (h : 0 < n) : -n < Int.tmod x n∧Int.tmod x n < n:=by
 rcases Int.le_total 0 x with hx|hx
 ·rw [Int.tmod_eq_emod_of_nonneg hx]
  have:=Int.emod_nonneg x (show n≠0 by omega)
  have:=Int.emod_lt_of_pos x h
  omega
 ·obtain ⟨y,rfl⟩ : ∃ y,x=-y:=⟨-x,by omega⟩
  rw [Int.neg_tmod,Int.tmod_eq_emod_of_nonneg (by omega : 0≤y)]
  have:=Int.emod_nonneg y (show n≠0 by omega)
  have:=Int.emod_lt_of_pos y h
  omega
def md (x n : Int) : Int:=if Int.tmod x n < 0 then Int.tmod x n + n else Int.tmod x n
theorem md_rng (x n : Int) (h : 0 < n) : 0≤md x n∧md x n < n:=by
 have:=tmod_rng x n h
 unfold md
 split <;> omega
def cut60 (s : ByteArray) : ByteArray:=s.extract 0 (min s.size 60)
theorem cut60_size (s : ByteArray) : (cut60 s).size≤60:=by unfold cut60;rw [ByteArray.size_extract];omega
theorem mn_toNat (s : ByteArray) : (mn (s.size : Int) 60).toNat=min s.size 60:=by unfold mn;split <;> omega
theorem mn_lo (s : ByteArray) : 0≤mn (s.size : Int) 60∧mn (s.size : Int) 60≤(s.size : Int):=by unfold mn;split <;> omega
def fitF (T : List Int) (f : XFl) : XFl :=
 if rd T (md f.f0 T.length)=3 then ⟨md f.f0 T.length,1 + md f.f1 7,⟨0,cut60 f.f2.f1⟩⟩ else ⟨md f.f0 T.length,if 1 + md f.f1 7=7 then 1 else 1 + md f.f1 7,⟨f.f2.f0,⟨#[]⟩⟩⟩
theorem ffit_loop (T : List Int) (K M G : Int) (hT1 : 1≤T.length) (hT : T.length≤1000000) (l : List XFl) (m : Nat) (hm : m≤1000000) : ∀ (d i : Nat) (acc : List XFl),i + d=min l.length m→acc.length=i→Ev (fun k=>thresherref19_Fit.l0 k l m acc i T K M G) (acc ++ ((l.take m).drop i).map (fitF T))
 | 0,i,acc,hi,ha=>by
  refine Ev.succ ?_
  simp only [thresherref19_Fit.l0]
  rw [List.drop_of_length_le (by rw [List.length_take];omega)]
  have hj : Ev (fun k=>thresherref19_Fit.j1 k l m acc i false T K M G) (acc ++ List.map (fitF T) []):=by
   refine Ev.succ ?_
   simp only [thresherref19_Fit.j1]
   exact Ev.neg (by simp) ((Ev.now _).eq (by simp))
  by_cases h : (i : Int) < l.length
  ·refine Ev.pos h ?_
   rw [decide_eq_false (by omega)]
   exact hj
  ·exact Ev.neg h hj
 | d + 1,i,acc,hi,ha=>by
  have h : i < l.length:=by omega
  have h' : i < (l.take m).length:=by rw [List.length_take];omega
  rw [List.drop_eq_getElem_cons h',List.getElem_take,List.map_cons]
  have hn : Ev (fun k=>thresherref19_Fit.l0 k l m (acc ++ [fitF T l[i]]) ((i + 1 : Nat) : Int) T K M G) (acc ++ (fitF T l[i] :: ((l.take m).drop (i + 1)).map (fitF T))) :=
   (ffit_loop T K M G hT1 hT l m hm d (i + 1) (acc ++ [fitF T l[i]]) (by omega) (by simp;omega)).eq (by simp)
  obtain ⟨R,hR⟩ : ∃ R,acc ++ (fitF T l[i] :: ((l.take m).drop (i + 1)).map (fitF T))=R:=⟨_,rfl⟩
  rw [hR] at hn ⊢
  clear hR
  have e:=rdFl_lt l i h
  have hj5 : ∀ a b c s,(⟨a,b,⟨c,s⟩⟩ : XFl)=fitF T l[i]→Ev (fun k=>thresherref19_Fit.j5 k l m acc i T K M G a b c s) R:=fun a b c s hf=>by
   refine Ev.succ ?_
   simp only [thresherref19_Fit.j5]
   rw [hf]
   simp (disch:=omega) only [w64]
   exact Ev.pos (by omega) hn
  have hc:=md_rng l[i].f0 T.length (by omega)
  have ho:=md_rng l[i].f1 7 (by omega)
  have hj3 : Ev (fun k=>thresherref19_Fit.j3 k l m acc i (md l[i].f0 T.length) (md l[i].f1 7) T K M G) R:=by
   refine Ev.succ ?_
   simp only [thresherref19_Fit.j3]
   rw [e,mn_toNat]
   obtain ⟨m1,m2⟩:=mn_lo l[i].f2.f1
   refine Ev.pos (by omega) (Ev.pos (by omega) (Ev.pos hc.1 (Ev.pos hc.2 ?_)))
   by_cases q : rd T (md l[i].f0 T.length)=3
   ·refine Ev.pos q (Ev.pos m1 (Ev.pos m2 ?_))
    clear m1 m2
    simp (disch:=omega) only [w64]
    exact hj5 _ _ _ _ (by unfold fitF;rw [if_pos q];rfl)
   ·refine Ev.neg q ?_
    clear m1 m2
    simp (disch:=omega) only [w64]
    by_cases q7 : 1 + md l[i].f1 7=7
    ·refine Ev.pos q7 (Ev.succ ?_)
     simp only [thresherref19_Fit.j4]
     exact hj5 _ _ _ _ (by unfold fitF;rw [if_neg q,if_pos q7])
    ·refine Ev.neg q7 (Ev.succ ?_)
     simp only [thresherref19_Fit.j4]
     exact hj5 _ _ _ _ (by unfold fitF;rw [if_neg q,if_neg q7])
  have hj2 : Ev (fun k=>thresherref19_Fit.j2 k l m acc i (md l[i].f0 T.length) T K M G) R:=by
   refine Ev.succ ?_
   simp only [thresherref19_Fit.j2]
   rw [e]
   have ht:=tmod_rng l[i].f1 7 (by omega)
   refine Ev.pos (by omega) (Ev.pos (by omega) ?_)
   by_cases q : Int.tmod l[i].f1 7 < 0
   ·refine Ev.pos q ?_
    have em : md l[i].f1 7=Int.tmod l[i].f1 7 + 7:=by unfold md;rw [if_pos q]
    rw [em] at hj3
    simp (disch:=omega) only [w64]
    exact hj3
   ·refine Ev.neg q ?_
    have em : md l[i].f1 7=Int.tmod l[i].f1 7:=by unfold md;rw [if_neg q]
    rw [em] at hj3
    exact hj3
  refine Ev.succ ?_
  simp only [thresherref19_Fit.l0]
  refine Ev.pos (by omega) ?_
  rw [decide_eq_true (by omega)]
  refine Ev.succ ?_
  simp only [thresherref19_Fit.j1]
  rw [e]
  have ht:=tmod_rng l[i].f0 T.length (by omega)
  refine Ev.pos (by simp) (Ev.pos (by omega) (Ev.pos (by omega) (Ev.neg (by omega) ?_)))
  by_cases q : Int.tmod l[i].f0 T.length < 0
  ·refine Ev.pos q ?_
   have em : md l[i].f0 T.length=Int.tmod l[i].f0 T.length + T.length:=by unfold md;rw [if_pos q]
   rw [em] at hj2
   simp (disch:=omega) only [w64]
   exact hj2
  ·refine Ev.neg q ?_
   have em : md l[i].f0 T.length=Int.tmod l[i].f0 T.length:=by unfold md;rw [if_neg q]
   rw [em] at hj2
   exact hj2
theorem ffit_ev (T : List Int) (K M G : Int) (hT1 : 1≤T.length) (hT : T.length≤1000000) (l : List XFl) (m : Nat) (hm : m≤1000000) : Ev (fun k=>thresherref19_Fit.f k T K M G l m) ((l.take m).map (fitF T)):=by
 simp only [thresherref19_Fit.f]
 have:=ffit_loop T K M G hT1 hT l m hm (min l.length m) 0 [] (by omega) rfl
 simpa using this
def selP (t op : Int) (fv : XV) (col : List XV) (a : Int) : Bool:=decide (0≤a) && (decide (a < col.length) && holdsV t op fv (rdV col a))
end Go.Proofs.Ytbkpifcjgedjaaa.P

/- Which filters may be. -/
namespace Go.Proofs.Ytbkpifcjgedjaaa.P
open Go.RowKit Go.Proofs.YtbkpifcjgedjaaaW.PrintWords Go.Proofs.YtbkpifcjgedjaaaW.PrintLast Go.Proofs.YtbkpifcjgedjaaaW.PrintMore
set_option linter.unusedVariables false
set_option linter.unusedSimpArgs false
def okF (T : List Int) (f : XFl) : Bool:=decide (0≤f.f0) && (decide (f.f0 < T.length) && (fitT (rd T f.f0) f.f2 && (decide (1≤f.f1) && (decide (f.f1≤7) && (decide (f.f1≠7) || decide (rd T f.f0=3))))))
theorem okF_iff (T : List Int) (f : XFl) : okF T f=true ↔ 0≤f.f0∧f.f0 < T.length∧fitT (rd T f.f0) f.f2=true∧1≤f.f1∧f.f1≤7∧(f.f1=7→rd T f.f0=3):=by
 unfold okF
 simp only [Bool.and_eq_true,Bool.or_eq_true,decide_eq_true_eq]
 constructor
 ·rintro ⟨a,b,c,d,e,q⟩
  exact ⟨a,b,c,d,e,fun h=>q.resolve_left (fun p=>p h)⟩
 ·rintro ⟨a,b,c,d,e,q⟩
  refine ⟨a,b,c,d,e,?_⟩
  by_cases h : f.f1=7
  ·exact Or.inr (q h)
  ·exact Or.inl h
theorem okF_not {T : List Int} {f : XFl} (h : ¬ (0≤f.f0∧f.f0 < T.length∧fitT (rd T f.f0) f.f2=true∧1≤f.f1∧f.f1≤7∧(f.f1=7→rd T f.f0=3))) : okF T f=false:=by
 rw [Bool.eq_false_iff]
 exact fun q=>h ((okF_iff T f).mp q)
theorem all_drop {α : Type} (p : α→Bool) (l : List α) (i : Nat) (h : i < l.length) : (l.drop i).all p=(p l[i] && (l.drop (i + 1)).all p):=by rw [List.drop_eq_getElem_cons h,List.all_cons]
theorem may_loop (T : List Int) (K M G : Int) (l : List XFl) (hl : l.length≤1000000) : ∀ (d i : Nat),i + d=l.length→Ev (fun k=>filter_May.l0 k l l l.length i T K M G) ((l.drop i).all (okF T) && decide ((l.length : Int)≤16))
 | 0,i,hi=>by
  refine Ev.succ ?_
  simp only [filter_May.l0]
  rw [List.drop_of_length_le (by omega)]
  exact Ev.neg (by omega) ((Ev.now _).eq (by simp))
 | d + 1,i,hi=>by
  have h : i < l.length:=by omega
  have hn:=may_loop T K M G l hl d (i + 1) (by omega)
  rw [all_drop (okF T) l i h]
  refine Ev.succ ?_
  simp only [filter_May.l0]
  rw [rdFl_lt l i h]
  have bad : okF T l[i]=false→Ev (fun k=>filter_May.j1 k l l l.length i true T K M G l[i].f0 l[i].f1 l[i].f2.f0 l[i].f2.f1) ((okF T l[i] && (l.drop (i + 1)).all (okF T)) && decide ((l.length : Int)≤16)):=fun hb=>by
   refine Ev.succ ?_
   simp only [filter_May.j1]
   exact Ev.pos (by simp) ((Ev.now _).eq (by rw [hb];simp))
  have bad2 : okF T l[i]=false→Ev (fun k=>filter_May.j2 k l l l.length i true T K M G l[i].f0 l[i].f1 l[i].f2.f0 l[i].f2.f1) ((okF T l[i] && (l.drop (i + 1)).all (okF T)) && decide ((l.length : Int)≤16)):=fun hb=>by
   refine Ev.succ ?_
   simp only [filter_May.j2]
   exact Ev.pos (by simp) ((Ev.now _).eq (by rw [hb];simp))
  refine Ev.pos (by omega) (Ev.pos (by omega) (Ev.pos (by omega) ?_))
  by_cases c0 : l[i].f0 < 0
  ·exact Ev.pos c0 (bad (okF_not (fun q=>by omega)))
  refine Ev.neg c0 ?_
  by_cases c1 : l[i].f0 ≥ (T.length : Int)
  ·rw [decide_eq_true c1]
   exact bad (okF_not (fun q=>by omega))
  rw [decide_eq_false c1]
  refine Ev.succ ?_
  simp only [filter_May.j1]
  refine Ev.neg (by simp) (Ev.pos (by omega) (Ev.pos (by omega) (Ev.bind (vfits_ev (rd T l[i].f0) l[i].f2.f0 l[i].f2.f1) ?_)))
  have ef : fitT (rd T l[i].f0) ⟨l[i].f2.f0,l[i].f2.f1⟩=fitT (rd T l[i].f0) l[i].f2:=rfl
  rw [ef]
  by_cases c2 : fitT (rd T l[i].f0) l[i].f2=true
  ·refine Ev.pos c2 ?_
   by_cases c3 : l[i].f1 < 1
   ·exact Ev.pos c3 (bad2 (okF_not (fun q=>by omega)))
   refine Ev.neg c3 ?_
   by_cases c4 : l[i].f1 > 7
   ·rw [decide_eq_true c4]
    exact bad2 (okF_not (fun q=>by omega))
   rw [decide_eq_false c4]
   refine Ev.succ ?_
   simp only [filter_May.j2]
   refine Ev.neg (by simp) ?_
   simp (disch:=omega) only [w64]
   by_cases c5 : l[i].f1=7
   ·refine Ev.pos c5 (Ev.pos (by omega) (Ev.pos (by omega) ?_))
    by_cases c6 : rd T l[i].f0=3
    ·have ok : okF T l[i]=true:=(okF_iff T _).mpr ⟨by omega,by omega,c2,by omega,by omega,fun _=>c6⟩
     rw [ok,Bool.true_and]
     exact Ev.pos c6 hn
    ·have ok : okF T l[i]=false:=okF_not (fun q=>c6 (q.2.2.2.2.2 c5))
     exact Ev.neg c6 ((Ev.now _).eq (by rw [ok];simp))
   ·have ok : okF T l[i]=true:=(okF_iff T _).mpr ⟨by omega,by omega,c2,by omega,by omega,fun h=>absurd h c5⟩
    rw [ok,Bool.true_and]
    exact Ev.neg c5 hn
  ·exact Ev.neg c2 (bad2 (okF_not (fun q=>c2 q.2.2.1)))
theorem fmay_ev (T : List Int) (K M G : Int) (l : List XFl) (hl : l.length≤1000000) : Ev (fun k=>filter_May.f k T K M G l) (l.all (okF T) && decide ((l.length : Int)≤16)):=by
 simp only [filter_May.f]
 have:=may_loop T K M G l hl l.length 0 (by omega)
 simpa using this
theorem fitF_ok {T : List Int} {K M G : Int} (hS : Sch T K M G) (f : XFl) : okF T (fitF T f)=true:=by
 have kn:=hS.kn
 have k1:=hS.k1
 have hc:=md_rng f.f0 T.length (by omega)
 have ho:=md_rng f.f1 7 (by omega)
 obtain ⟨x,hx⟩ : ∃ x : Nat,md f.f0 T.length=x:=⟨(md f.f0 T.length).toNat,by omega⟩
 have ht:=hS.rdt x (by omega)
 rw [okF_iff]
 unfold fitF
 rw [hx]
 by_cases q : rd T x=3
 ·rw [if_pos q]
  refine ⟨by show (0 : Int)≤x;omega,by show (x : Int) < _;omega,?_,by show 1≤1 + md f.f1 7;omega,by show 1 + md f.f1 7≤7;omega,fun _=>q⟩
  show fitT (rd T x) ⟨0,cut60 f.f2.f1⟩=true
  rw [q]
  have:=cut60_size f.f2.f1
  unfold fitT
  simp
  omega
 ·rw [if_neg q]
  refine ⟨by show (0 : Int)≤x;omega,by show (x : Int) < _;omega,?_,?_,?_,?_⟩
  ·show fitT (rd T x) ⟨f.f2.f0,⟨#[]⟩⟩=true
   unfold fitT
   rw [if_pos (by omega)]
   simp
  ·show 1≤if 1 + md f.f1 7=7 then (1 : Int) else 1 + md f.f1 7
   split <;> omega
  ·show (if 1 + md f.f1 7=7 then (1 : Int) else 1 + md f.f1 7)≤7
   split <;> omega
  ·show (if 1 + md f.f1 7=7 then (1 : Int) else 1 + md f.f1 7)=7→rd T x=3
   split
   ·intro h;omega
   ·intro h;rename_i h2;exact absurd h h2
end Go.Proofs.Ytbkpifcjgedjaaa.P

/- One filter too many, of a column that is none, a value of another type, or an op that is none, is told: the plain law. -/
namespace Go.Proofs.Ytbkpifcjgedjaaa.Pure
open Go.RowKit Go.Proofs.Ytbkpifcjgedjaaa.P Go.Proofs.YtbkpifcjgedjaaaW.PrintWords Go.Proofs.YtbkpifcjgedjaaaW.PrintLast
set_option linter.unusedVariables false
theorem shown_ev : Ev (fun k=>thresherlaw19_shown.f k) true:=Ev.of thresherlaw19_shown.mono (k:=10) (by kernel_rfl)
theorem all_fit {T : List Int} {K M G : Int} (hS : Sch T K M G) (l : List XFl) : ((l.take 15).map (fitF T)).all (okF T)=true:=by
 rw [List.all_eq_true]
 intro f hf
 obtain ⟨g,_,rfl⟩:=List.mem_map.mp hf
 exact fitF_ok hS g
theorem FilterMay : thresherlaw19_FilterMay.PureG:=by
 intro x l n hx ⟨_,hl⟩ hn
 obtain ⟨T,K,M,G,hmade,hS⟩:=shape_ev hx
 have n8:=hS.n8
 have kn:=hS.kn
 have k1:=hS.k1
 have hT1 : 1≤T.length:=by omega
 have hT8 : T.length≤1000000:=by omega
 have e2:=ffit_ev T K M G hT1 hT8 l 15 (by omega)
 have e3:=fit_ev T K M G [] hT8
 have hall:=all_fit hS l
 have hlen : ((l.take 15).map (fitF T)).length≤15:=by rw [List.length_map,List.length_take];omega
 obtain ⟨fit,hfit⟩ : ∃ f,f=(l.take 15).map (fitF T):=⟨_,rfl⟩
 rw [← hfit] at e2 hall hlen
 clear hfit
 obtain ⟨t1,t3⟩:=hS.rdt 0 (by omega)
 have hv : fitT (rd T 0) (rdV (fitRow T []) 0)=true:=by
  have h:=fitT_fit1 (rd T ((0 : Nat) : Int)) (rdV [] ((0 : Nat) : Int)) t1 t3
  rw [← rdV_fitRow T [] 0 (by omega)] at h
  exact h
 have hvl : (fitRow T []).length=T.length:=fitRow_length T []
 obtain ⟨vs,hvs⟩ : ∃ v,v=fitRow T []:=⟨_,rfl⟩
 rw [← hvs] at e3 hv hvl
 clear hvs
 obtain ⟨v,hvv⟩ : ∃ v,v=rd_T37 vs 0:=⟨_,rfl⟩
 have hv2 : fitT (rd T 0) v=true:=by rw [hvv];exact hv
 clear hv
 have m1:=fmay_ev T K M G (fit ++ [mk39 n 1 v]) (by simp;omega)
 have m2:=fmay_ev T K M G (fit ++ [mk39 0 n v]) (by simp;omega)
 have m3:=fmay_ev T K M G (fit ++ [mk39 0 2 v] ++ [mk39 0 1 v]) (by simp;omega)
 have m4:=fmay_ev T K M G (fit ++ [mk39 0 1 ⟨1,⟨#[120]⟩⟩]) (by simp;omega)
 have m5:=fmay_ev T K M G [] (by simp)
 have ok1 : okF T (mk39 0 1 v)=true:=(okF_iff T _).mpr ⟨by show (0 : Int)≤0;omega,by show (0 : Int) < T.length;omega,hv2,by show (1 : Int)≤1;omega,by show (1 : Int)≤7;omega,fun h=>by have : (1 : Int)=7:=h;omega⟩
 have ok2 : okF T (mk39 0 2 v)=true:=(okF_iff T _).mpr ⟨by show (0 : Int)≤0;omega,by show (0 : Int) < T.length;omega,hv2,by show (1 : Int)≤2;omega,by show (2 : Int)≤7;omega,fun h=>by have : (2 : Int)=7:=h;omega⟩
 have ok4 : okF T (mk39 0 1 ⟨1,⟨#[120]⟩⟩)=false:=by
  apply okF_not
  rintro ⟨_,_,h,_⟩
  have h' : fitT (rd T 0) (⟨1,⟨#[120]⟩⟩ : XV)=true:=h
  unfold fitT at h'
  split at h'
  ·rw [ByteArray.toList_eq] at h';cases h'
  ·split at h'
   ·rw [if_neg (by decide)] at h';cases h'
   ·cases h'
 have r1 : ((fit ++ [mk39 n 1 v]).all (okF T) && decide (((fit ++ [mk39 n 1 v]).length : Int)≤16))=okF T (mk39 n 1 v):=by
  rw [List.all_append,hall,decide_eq_true (by simp;omega)]
  simp
 have r2 : ((fit ++ [mk39 0 n v]).all (okF T) && decide (((fit ++ [mk39 0 n v]).length : Int)≤16))=fineB n T:=by
  rw [List.all_append,hall,decide_eq_true (by simp;omega)]
  have : okF T (mk39 0 n v)=fineB n T:=by
   rw [Bool.eq_iff_iff,okF_iff]
   unfold fineB
   simp only [Bool.or_eq_true,Bool.and_eq_true,decide_eq_true_eq]
   constructor
   ·rintro ⟨_,_,_,h1,h7,h⟩
    have h1' : (1 : Int)≤n:=h1
    have h7' : n≤7:=h7
    by_cases e : n=7
    ·exact .inr ⟨e,h e⟩
    ·exact .inl ⟨h1',by omega⟩
   ·intro h
    refine ⟨by show (0 : Int)≤0;omega,by show (0 : Int) < T.length;omega,hv2,?_,?_,fun e=>?_⟩
    ·show (1 : Int)≤n;omega
    ·show n≤7;omega
    ·have e' : n=7:=e
     rcases h with h|h
     ·omega
     ·exact h.2
  simp [this]
 have r3 : ((fit ++ [mk39 0 2 v] ++ [mk39 0 1 v]).all (okF T) && decide (((fit ++ [mk39 0 2 v] ++ [mk39 0 1 v]).length : Int)≤16))=decide ((fit.length : Int) < 15):=by
  rw [List.all_append,List.all_append,hall]
  simp only [List.all_cons,List.all_nil,ok1,ok2,Bool.and_true,Bool.true_and]
  rw [decide_eq_decide]
  simp only [List.length_append,List.length_cons,List.length_nil]
  omega
 have r4 : ((fit ++ [mk39 0 1 ⟨1,⟨#[120]⟩⟩]).all (okF T) && decide (((fit ++ [mk39 0 1 ⟨1,⟨#[120]⟩⟩]).length : Int)≤16))=false:=by
  rw [List.all_append,hall]
  simp [ok4]
 have r5 : (([] : List XFl).all (okF T) && decide ((([] : List XFl).length : Int)≤16))=true:=by simp
 rw [r1] at m1
 rw [r2] at m2
 rw [r3] at m3
 rw [r4] at m4
 rw [r5] at m5
 clear r1 r2 r3 r4 r5
 obtain ⟨a1,b1⟩:=shown_ev
 have hmade2 : Ev (fun k=>thresherlaw19_made.f k x.f0.f0 x.f0.f1 x.f0.f2 x.f0.f3 x.f0.f4 x.f0.f5 x.f0.f6 x.f0.f7 x.f1 x.f2 x.f3 x.f4) (T,K,M,G):=by
  simp only [thresherlaw19_made.f]
  exact Ev.bind hmade (Ev.now _)
 obtain ⟨a2,b2⟩:=hmade2
 obtain ⟨a3,b3⟩:=e2
 obtain ⟨a4,b4⟩:=e3
 obtain ⟨a5,b5⟩:=m1
 obtain ⟨a6,b6⟩:=m2
 obtain ⟨a7,b7⟩:=m3
 obtain ⟨a8,b8⟩:=m4
 obtain ⟨a9,b9⟩:=m5
 refine ⟨a1 + a2 + a3 + a4 + a5 + a6 + a7 + a8 + a9,T,K,M,G,fit,vs,okF T (mk39 n 1 v),fineB n T,decide ((fit.length : Int) < 15),⟨b1 _ (by omega),b2 _ (by omega),b3 _ (by omega),b4 _ (by omega),by omega,by omega,by omega,by rw [← hvv];exact b5 _ (by omega),by rw [← hvv];exact b6 _ (by omega),by rw [← hvv];exact b7 _ (by omega),b8 _ (by omega),b9 _ (by omega),?_,?_,rfl,rfl⟩⟩
 ·intro h
  obtain ⟨h0,h1,_⟩:=(okF_iff T _).mp h
  exact ⟨h0,h1⟩
 ·intro h e
  subst e
  rw [ok1] at h
  cases h
end Go.Proofs.Ytbkpifcjgedjaaa.Pure

/- The row of FilterMay, out of its plain law and its walk (the text after myprint's row of FilterMay). -/
namespace Go.Proofs.Ytbkpifcjgedjaaa.filterMay
open Go.ChangeShapes Go.WideShapes Go.ChangeAt Go.RowKit Go.Proofs.Ytbkpifcjgedjaaa.P Go.Proofs.YtbkpifcjgedjaaaW.PrintWords
set_option linter.unusedVariables false
set_option linter.unusedSimpArgs false
theorem own : ownKnob Try.prog.godebug=none:=by kernel_rfl
theorem laidOut : laidOutB Try.prog=true:=by kernel_rfl
set_option maxRecDepth 100000 in
theorem lifted (os : Os) (started : os.Started) (H : Type) (enc : TypeId × Value→H) :
  ReturnsInHanded {} Try.checked os 5 .any (Rows.filterMaySpec.pre6 enc Try.prog Try.f5 Rows.filterMayRow.domain false) (Rows.filterMaySpec.post enc Try.prog Try.f5 false true false false):=by
 refine returnsInHanded_of_change_sized (C:=Try.checked) own started (by kernel_rfl) Try.func5
  (ChangeSpec.witness6 (enc:=enc) (C:=Try.checked) false ⟨#[],#[.agg #[.int .u8 0,.int .u8 0,.int .u8 0,.int .u8 0,.int .u8 0,.int .u8 0,.int .u8 0,.int .u8 0,.int .u8 0,.int .u8 0,.int .u8 0,.int .u8 0],.slice none 0 0,.int .i64 0],[]⟩ 8 (by kernel_rfl) (by kernel_rfl) (by kernel_rfl) (by kernel_rfl)) ?_
 intro W base args ds gs before hval0 hW hcnd hsz0 _
 have hval : ∀ (j : Nat) t v,Try.f5.params[j]?=some t→args[j]?=some v→Value.okWide Try.prog W .any base t v:=hval0
 have hW':=hW
 obtain ⟨p,q,hA0,hV,rfl,hfz,hnd⟩:=hW
 have hA : DataW.TrodAll enc Try.prog W 0 (fun _=>true) true Try.f5.params.toList args.toList ds p:=hA0
 rw [Try.params5] at hA hval
 obtain ⟨v0,vs0,d0,ds0,p0,q0,hargs,rfl,rfl,h0,r0⟩:=trodAll_cons hA
 obtain ⟨v1,vs1,d1,ds1,p1,q1,rfl,rfl,rfl,h1,r1⟩:=trodAll_cons r0
 obtain ⟨v2,vs2,d2,ds2,p2,q2,rfl,rfl,rfl,h2,r2⟩:=trodAll_cons r1
 obtain ⟨rfl,rfl,rfl⟩:=trodAll_nil r2
 obtain rfl : args=#[v0,v1,v2]:=by cases args;simp_all
 obtain ⟨rfl,rfl⟩:=trodVars_none hV
 have lt0 : ∀ x ∈ p0,x.block < W.heap.size:=by obtain ⟨m,hm⟩:=h0;exact DataW.trod_lt m _ _ _ hm
 obtain ⟨x0,K0,g0⟩:=(op24).arg h0
 obtain ⟨cs0,rfl⟩:=okWide_agg Try.underlying24 (hval 0 24 v0 rfl rfl)
 have e0:=k24_open K0
 replace e0:=agg_of e0
 have lt1 : ∀ x ∈ p1,x.block < W.heap.size:=by obtain ⟨m,hm⟩:=h1;exact DataW.trod_lt m _ _ _ hm
 obtain ⟨x1,K1,g1⟩:=((opens_slice Try.underlying25 (by kernel_rfl) op39)).arg h1
 obtain ⟨a1,len1,cap1,rfl⟩:=okWide_slice Try.underlying25 (hval 1 25 v1 rfl rfl)
 obtain ⟨A1,c1,e1,hl1,hr1⟩:=K1
 simp [Value.cells] at e1
 obtain ⟨rfl,rfl,rfl⟩:=e1
 have lt2 : ∀ x ∈ p2,x.block < W.heap.size:=by obtain ⟨m,hm⟩:=h2;exact DataW.trod_lt m _ _ _ hm
 obtain ⟨x2,K2,g2⟩:=((opens_int Try.underlying3)).arg h2
 obtain ⟨b2,rfl⟩:=okWide_int Try.underlying3 (hval 2 3 v2 rfl rfl)
 have e2 : b2=x2:=by simpa [Value.cells,Kd.int,Kd.scalar] using K2
 subst e2
 obtain ⟨k,T,ta,tb,td,fit,vs,col,op,two,hk⟩:=Pure.FilterMay x0 x1 b2 g0 g1 g2
 have call : Calls Try.prog 5 #[.agg cs0,.slice a1 x1.length cap1,.int .i64 b2] W fun e W'=>e=.returned (.bool true)∧Below W.heap.size W W':=by
  rw [e0]
  refine (FilterMay_walk k _ _ _ _ _ _ _ _ _ _ _ _ _ _ _ _ T ta tb td fit vs col op two W hr1 hl1 hk).mono ?_
  rintro e w' ⟨rfl,hd⟩
  exact ⟨rfl,hd⟩
 refine call.mono fun e W' ⟨he,bel⟩=>?_
 subst he
 exact ⟨_,rfl,_,_,_,[],_,[],hW',trodAll_mk1 (shut_bool Try.underlying4 _),(trodAll_cons_mk (Below.trod laidOut (by kernel_rfl) (of_decide_eq_true (by kernel_rfl)) h0 bel lt0) (trodAll_cons_mk (Below.trod laidOut (by kernel_rfl) (of_decide_eq_true (by kernel_rfl)) h1 bel lt1) (trodAll_cons_mk (Below.trod laidOut (by kernel_rfl) (of_decide_eq_true (by kernel_rfl)) h2 bel lt2) trodAll_mk0))),rfl,bel.frame _,fun h=>by cases h⟩
theorem over : Rows.filterMayRow.holds Try.pinned (OpenSpec.ofChange Rows.filterMaySpec) :=
 OpenClaim.holds_of_wide 5 Try.f5 rfl rfl rfl rfl rfl rfl rfl ⟨rfl,rfl,rfl,rfl,rfl⟩ rfl rfl rfl rfl rfl (by kernel_rfl) Try.func5 (by kernel_rfl)
  (of_decide_eq_true (by kernel_rfl)) (by unfold Func.isWrapper;first|(rw [if_pos (by decide +kernel)];kernel_rfl)|(rw [if_neg (by decide +kernel)];exact ⟨rfl,rfl⟩))
  (fun os started H enc _=>lifted os started H enc)
theorem proved : Rows.FilterMaySaid:=over
#print axioms proved
end Go.Proofs.Ytbkpifcjgedjaaa.filterMay
namespace Go.Proofs.Ytbkpifcjgedjaaa
theorem filterMay_holds : Rows.FilterMaySaid:=filterMay.proved
end Go.Proofs.Ytbkpifcjgedjaaa

