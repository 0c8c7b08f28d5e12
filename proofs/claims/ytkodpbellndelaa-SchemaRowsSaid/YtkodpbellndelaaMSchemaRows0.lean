/- The row of SchemaRows. Merged: SSchemaRows, XBase, XFit, XMade, XOrd, XShown04, XFitOk, XShape, PureSchemaRows, RSchemaRows. -/
import Derived.Test.YtkodpbellndelaaQSchemaRowsPx5
import Derived.Test.YtkodpbellndelaaQSchemaRowsO
import Derived.Test.YtkodpbellndelaaQSchemaRowsPx0
import Derived.Test.YtkodpbellndelaaQSchemaRowsHBase
import Derived.Test.YtkodpbellndelaaQSchemaRowsPx3
import Derived.Lib.Bytealg
import Derived.Test.YtkodpbellndelaaRows
import Derived.WalkKit
import Derived.ProofKit
import Derived.OpenShut
import Derived.ShutString
import Derived.ChangeOld
import Derived.Below
import Derived.SizedLaws
namespace Go.Proofs.Ytkodpbellndelaa.P
open Go.RowKit Go.Proofs.YtkodpbellndelaaW.PrintWords
def thresherlaw04_SchemaRows.PureG : Prop:=∀ (x0 : S24) (x1 : List (S34)) (x2 : Int),gd24 x0→(x1.length≤maxLen∧∀ a ∈ x1,gd34 a)→(Lit.int .u8 x2).wf=true→∃ k,thresherlaw04_SchemaRows.f k x0.f0.f0 x0.f0.f1 x0.f0.f2 x0.f0.f3 x0.f0.f4 x0.f0.f5 x0.f0.f6 x0.f0.f7 x0.f1 x0.f2 x0.f3 x0.f4 x1 x2=some true
end Go.Proofs.Ytkodpbellndelaa.P

/- Words of the laws about rows. -/
namespace Go.Proofs.Ytkodpbellndelaa.P
open Go.RowKit Go.Proofs.YtkodpbellndelaaW.PrintWords Go.Proofs.YtkodpbellndelaaW.PrintLast Go.Proofs.YtkodpbellndelaaW.PrintMore
set_option linter.unusedVariables false
set_option linter.unusedSimpArgs false
abbrev XV:=S34
abbrev rdV (l : List XV) (i : Int) : XV:=rd_T34 l i
abbrev rdR (l : List (List XV)) (i : Int) : List XV:=rd_L6 l i
theorem rd_lt (l : List Int) (i : Nat) (h : i < l.length) : rd l i=l[i]:=by unfold rd;simp [List.getD,h]
theorem rdV_lt (l : List XV) (i : Nat) (h : i < l.length) : rd_T34 l i=l[i]:=by unfold rd_T34;simp [List.getD,h]
theorem rdV_ge (l : List XV) (i : Nat) (h : l.length≤i) : rd_T34 l i=⟨0,⟨#[]⟩⟩:=by unfold rd_T34;simp [List.getD,h];rfl
structure Sch (T : List Int) (K M G : Int) : Prop where
 n1 : 1≤T.length
 n8 : T.length≤8
 ty : ∀ t ∈ T,1≤t∧t≤3
 k1 : 1≤K
 kn : K≤T.length
 m1 : 1≤M
 m3 : M≤3
 g1 : 1≤G
 g8 : G≤8
theorem Sch.rdt {T : List Int} {K M G : Int} (h : Sch T K M G) (i : Nat) (hi : i < T.length) : 1≤rd T i∧rd T i≤3:=by
 rw [rd_lt T i hi];exact h.ty _ (List.getElem_mem hi)
def fitT (t : Int) (v : XV) : Bool:=if t=1 ∨ t=2 then v.f1.toList == ([] : List UInt8) else if t=3 then (if v.f0=0 then decide ((v.f1.size : Int)≤60) else false) else false
def rowOkB (T : List Int) (r : List XV) : Bool:=decide (T.length=r.length) && (List.range T.length).all fun (i : Nat)=>fitT (rd T i) (rdV r i)
def fit1 (t : Int) (v : XV) : XV:=if t=3 then ⟨0,if (v.f1.size : Int) > 60 then v.f1.extract 0 60 else v.f1⟩ else ⟨v.f0,⟨#[]⟩⟩
def fitRow (T : List Int) (r : List XV) : List XV:=(List.range' 0 T.length).map fun (i : Nat)=>fit1 (rd T i) (rdV r i)
theorem fitRow_length (T : List Int) (r : List XV) : (fitRow T r).length=T.length:=by simp [fitRow]
theorem rdV_fitRow (T : List Int) (r : List XV) (i : Nat) (hi : i < T.length) : rdV (fitRow T r) i=fit1 (rd T i) (rdV r i):=by
 show rd_T34 _ _=_
 rw [rdV_lt _ i (by rw [fitRow_length];exact hi)]
 simp [fitRow]
theorem fitT_fit1 (t : Int) (v : XV) (h1 : 1≤t) (h3 : t≤3) : fitT t (fit1 t v)=true:=by
 unfold fitT fit1
 by_cases e : t=3
 ·subst e
  simp only [if_true,if_pos rfl]
  rw [if_neg (by omega)]
  rw [decide_eq_true_iff]
  split
  ·simp only [ByteArray.size_extract];omega
  ·omega
 ·rw [if_pos (by omega),if_neg e]
  simp [ByteArray.toList_eq]
theorem bytes_eq {a b : ByteArray} (h : a.toList=b.toList) : a=b:=by
 rw [ByteArray.toList_eq,ByteArray.toList_eq] at h
 exact ByteArray.ext (Array.toList_inj.mp h)
theorem XV.same {a b : XV} : (!(a.f0 == b.f0) || (!(a.f1.toList == b.f1.toList)))=true ↔ a≠b:=by
 constructor
 ·rintro h rfl
  simp at h
 ·intro h
  by_cases h0 : a.f0=b.f0
  ·by_cases h1 : a.f1.toList=b.f1.toList
   ·exact absurd (by cases a;cases b;simp only at h0 h1;rw [h0,bytes_eq h1]) h
   ·simp [h1]
  ·simp [h0]
instance : DecidableEq XV:=fun a b=>if h : (!(a.f0 == b.f0) || (!(a.f1.toList == b.f1.toList)))=true then isFalse (XV.same.mp h) else isTrue (Classical.byContradiction fun e=>h (XV.same.mpr e))
end Go.Proofs.Ytkodpbellndelaa.P

/- A row made to fit. -/
namespace Go.Proofs.Ytkodpbellndelaa.P
open Go.RowKit Go.Proofs.YtkodpbellndelaaW.PrintWords Go.Proofs.YtkodpbellndelaaW.PrintLast Go.Proofs.YtkodpbellndelaaW.PrintMore
set_option linter.unusedVariables false
set_option linter.unusedSimpArgs false
theorem fit_turn (T : List Int) (K M G : Int) (r : List XV) (i : Nat) (acc : List XV) (v0 : Int) (v1 : ByteArray) (hi : i < T.length) (hT : T.length≤1000000) (ha : acc.length=i) {R : List XV} (h : Ev (fun k=>thresherref04_Fit.l0 k r (acc ++ [fit1 (rd T i) ⟨v0,v1⟩]) ((i + 1 : Nat) : Int) T K M G) R) : Ev (fun k=>thresherref04_Fit.j1 k r acc i T K M G v0 v1) R:=by
 refine Ev.succ ?_
 simp only [thresherref04_Fit.j1]
 simp (disch:=omega) only [w64]
 refine Ev.pos (by omega) (Ev.pos (by omega) ?_)
 unfold fit1 at h
 by_cases e : rd T i=3
 ·rw [if_pos e] at h
  refine Ev.pos e ?_
  by_cases s : (v1.size : Int) > 60
  ·simp only [if_pos s] at h
   exact Ev.pos s (Ev.pos (by omega) (Ev.pos (by omega) (Ev.pos (by omega) h)))
  ·simp only [if_neg s] at h
   exact Ev.neg s (Ev.pos (by omega) h)
 ·rw [if_neg e] at h
  exact Ev.neg e (Ev.pos (by omega) h)
theorem fit_loop (T : List Int) (K M G : Int) (r : List XV) (hT : T.length≤1000000) : ∀ (d i : Nat) (acc : List XV),i + d=T.length→acc.length=i→Ev (fun k=>thresherref04_Fit.l0 k r acc i T K M G) (acc ++ (List.range' i d).map fun (j : Nat)=>fit1 (rd T j) (rdV r j))
 | 0,i,acc,hi,ha=>by
  refine Ev.succ ?_
  simp only [thresherref04_Fit.l0]
  exact Ev.neg (by omega) ((Ev.now _).eq (by simp))
 | d + 1,i,acc,hi,ha=>by
  refine Ev.succ ?_
  simp only [thresherref04_Fit.l0]
  refine Ev.pos (by omega) ?_
  have hl : (acc ++ [fit1 (rd T i) (rdV r i)]).length=i + 1:=by simp;omega
  have h:=(fit_loop T K M G r hT d (i + 1) (acc ++ [fit1 (rd T i) (rdV r i)]) (by omega) hl).eq (r':=acc ++ (List.range' i (d + 1)).map fun (j : Nat)=>fit1 (rd T j) (rdV r j)) (by rw [List.append_assoc,List.range'_succ];rfl)
  by_cases e : i < r.length
  ·exact Ev.pos (by omega) (Ev.pos (by omega) (fit_turn T K M G r i acc _ _ (by omega) hT ha h))
  ·refine Ev.neg (by omega) (fit_turn T K M G r i acc _ _ (by omega) hT ha ?_)
   have e2 : rdV r i=⟨0,⟨#[]⟩⟩:=rdV_ge r i (by omega)
   rw [e2] at h
   exact h
theorem fit_ev (T : List Int) (K M G : Int) (r : List XV) (hT : T.length≤1000000) : Ev (fun k=>thresherref04_Fit.f k T K M G r) (fitRow T r):=by
 simp only [thresherref04_Fit.f]
 exact fit_loop T K M G r hT T.length 0 [] (by omega) rfl
end Go.Proofs.Ytkodpbellndelaa.P

/- A schema made of any numbers. -/
namespace Go.Proofs.Ytkodpbellndelaa.P
open Go.RowKit Go.Proofs.YtkodpbellndelaaW.PrintWords Go.Proofs.YtkodpbellndelaaW.PrintLast Go.Proofs.YtkodpbellndelaaW.PrintMore
set_option linter.unusedVariables false
set_option linter.unusedSimpArgs false
def U8 (x : Int) : Prop:=0≤x∧x≤255
theorem made_one {x : Int} {m : Int} (h : U8 x) (hm : 0 < m) (hm2 : m≤1000) : wrap64 (1 + Int.tmod (wrap64 x) m)=1 + x % m∧1≤1 + x % m∧1 + x % m≤m:=by
 obtain ⟨h0,h1⟩:=h
 have e1 : wrap64 x=x:=w64 (by omega) (by omega)
 have h2:=Int.emod_nonneg x (show m≠0 by omega)
 have h3:=Int.emod_lt_of_pos x hm
 rw [e1,Int.tmod_eq_emod_of_nonneg h0]
 exact ⟨w64 (by omega) (by omega),by omega,by omega⟩
theorem made_loop (x0 x1 x2 x3 x4 x5 x6 x7 K M G : Int) (hx : ∀ x ∈ [x0,x1,x2,x3,x4,x5,x6,x7],U8 x) (n : Nat) (hn : n≤8) : ∀ (d i : Nat) (T : List Int),i + d=n→T.length=i→(∀ t ∈ T,1≤t∧t≤3)→∃ T',Ev (fun k=>thresherref04_Made.l0 k n i x0 x1 x2 x3 x4 x5 x6 x7 T K M G) (T',K,M,G)∧T'.length=n∧∀ t ∈ T',1≤t∧t≤3
 | 0,i,T,hi,hT,ht=>by
  refine ⟨T,Ev.succ ?_,by omega,ht⟩
  simp only [thresherref04_Made.l0]
  exact Ev.neg (by omega) (Ev.now _)
 | d + 1,i,T,hi,hT,ht=>by
  have hr : U8 (rd [x0,x1,x2,x3,x4,x5,x6,x7] i):=by
   rw [rd_lt _ i (by simp;omega)]
   exact hx _ (List.getElem_mem _)
  obtain ⟨e,l1,l2⟩:=made_one (m:=3) hr (by omega) (by omega)
  obtain ⟨T',h1,h2,h3⟩:=made_loop x0 x1 x2 x3 x4 x5 x6 x7 K M G hx n hn d (i + 1) (T ++ [1 + rd [x0,x1,x2,x3,x4,x5,x6,x7] i % 3]) (by omega) (by simp;omega) (by
   intro t h
   rcases List.mem_append.mp h with h|h
   ·exact ht t h
   ·rw [List.mem_singleton.mp h];exact ⟨l1,l2⟩)
  refine ⟨T',Ev.succ ?_,h2,h3⟩
  simp only [thresherref04_Made.l0]
  rw [e]
  clear e
  simp (disch:=omega) only [w64]
  exact Ev.pos (by omega) (Ev.pos (by omega) (Ev.pos (by omega) (Ev.pos (by omega) h1)))
theorem made_ev (x0 x1 x2 x3 x4 x5 x6 x7 a b c d : Int) (h0 : U8 x0) (h1 : U8 x1) (h2 : U8 x2) (h3 : U8 x3) (h4 : U8 x4) (h5 : U8 x5) (h6 : U8 x6) (h7 : U8 x7) (ha : U8 a) (hb : U8 b) (hc : U8 c) (hd : U8 d) : ∃ T K M G,Ev (fun k=>thresherref04_Made.f k x0 x1 x2 x3 x4 x5 x6 x7 a b c d) (T,K,M,G)∧Sch T K M G:=by
 obtain ⟨ea,a1,a2⟩:=made_one (m:=8) ha (by omega) (by omega)
 obtain ⟨n,hn⟩ : ∃ n : Nat,1 + a % 8=n:=⟨(1 + a % 8).toNat,by omega⟩
 obtain ⟨eb,b1,b2⟩:=made_one (m:=1 + a % 8) hb (by omega) (by omega)
 obtain ⟨ec,c1,c2⟩:=made_one (m:=3) hc (by omega) (by omega)
 obtain ⟨ed,d1,d2⟩:=made_one (m:=8) hd (by omega) (by omega)
 simp only [thresherref04_Made.f,ea,eb,ec,ed]
 clear ea eb ec ed
 rw [hn] at b1 b2 a1 a2 ⊢
 obtain ⟨T,e,l,t⟩:=made_loop x0 x1 x2 x3 x4 x5 x6 x7 (1 + b % n) (1 + c % 3) (1 + d % 8) (by
  intro x hx
  simp only [List.mem_cons,List.not_mem_nil,or_false] at hx
  rcases hx with rfl|rfl|rfl|rfl|rfl|rfl|rfl|rfl <;> assumption) n (by omega) n 0 [] (by omega) rfl (by simp)
 exact ⟨T,_,_,_,Ev.neg (by omega) e,⟨by omega,by omega,t,b1,by omega,c1,c2,d1,d2⟩⟩
end Go.Proofs.Ytkodpbellndelaa.P

/- The order of values and of rows. -/
namespace Go.Proofs.Ytkodpbellndelaa.P
open Go.RowKit Go.Proofs.YtkodpbellndelaaW.PrintWords Go.Proofs.YtkodpbellndelaaW.PrintLast Go.Proofs.YtkodpbellndelaaW.PrintMore
set_option linter.unusedVariables false
set_option linter.unusedSimpArgs false
def GV (v : XV) : Prop:=-9223372036854775808≤v.f0∧v.f0≤9223372036854775807
def sgn (x y : Int) : Int:=if x < y then -1 else if x > y then 1 else 0
def un (x : Int) : Int:=x % 18446744073709551616
def cmpV (t : Int) (a b : XV) : Int:=if fitT t a=true∧fitT t b=true then (if t=3 then Lib.compareBytes a.f1.data.toList b.f1.data.toList else if t=2 then sgn (un a.f0) (un b.f0) else sgn a.f0 b.f0) else 0
def cmpC (t : Int) (a b : XV) : Int:=if t=3 then Lib.compareBytes a.f1.data.toList b.f1.data.toList else if t=2 then sgn (un a.f0) (un b.f0) else sgn a.f0 b.f0
def cmpFrom (T : List Int) (a b : List XV) : Nat→Nat→Int
 | 0,_=>0
 | m + 1,i=>if cmpV (rd T i) (rdV a i) (rdV b i)=0 then cmpFrom T a b m (i + 1) else cmpV (rd T i) (rdV a i) (rdV b i)
def cmpRow (T : List Int) (K : Int) (a b : List XV) : Int:=cmpFrom T a b (min (min (min K.toNat T.length) a.length) b.length) 0
def FitAt (T : List Int) (a : List XV) (m i : Nat) : Prop:=∀ j : Nat,i≤j→j < i + m→fitT (rd T j) (rdV a j)=true∧GV (rdV a j)
end Go.Proofs.Ytkodpbellndelaa.P

/- The document's example of a schema. -/
namespace Go.Proofs.Ytkodpbellndelaa.P
open Go.RowKit Go.Proofs.YtkodpbellndelaaW.PrintWords Go.Proofs.YtkodpbellndelaaW.PrintLast Go.Proofs.YtkodpbellndelaaW.PrintMore
theorem shown04_ev : Ev (fun k=>thresherlaw04_shown.f k) true:=Ev.of thresherlaw04_shown.mono (k:=12) (by kernel_rfl)
end Go.Proofs.Ytkodpbellndelaa.P

/- A row made to fit fits. -/
namespace Go.Proofs.Ytkodpbellndelaa.P
open Go.RowKit Go.Proofs.YtkodpbellndelaaW.PrintWords Go.Proofs.YtkodpbellndelaaW.PrintLast Go.Proofs.YtkodpbellndelaaW.PrintMore
set_option linter.unusedVariables false
set_option linter.unusedSimpArgs false
end Go.Proofs.Ytkodpbellndelaa.P

/- A schema of a shape. -/
namespace Go.Proofs.Ytkodpbellndelaa.P
open Go.RowKit Go.Proofs.YtkodpbellndelaaW.PrintWords Go.Proofs.YtkodpbellndelaaW.PrintLast Go.Proofs.YtkodpbellndelaaW.PrintMore
theorem u8_of {x : Int} (h : (Lit.int .u8 x).wf=true) : U8 x:=wf_u8 h
theorem shape_ev {x : S24} (h : gd24 x) : ∃ T K M G,Ev (fun k=>thresherref04_Made.f k x.f0.f0 x.f0.f1 x.f0.f2 x.f0.f3 x.f0.f4 x.f0.f5 x.f0.f6 x.f0.f7 x.f1 x.f2 x.f3 x.f4) (T,K,M,G)∧Sch T K M G:=by
 obtain ⟨⟨h0,h1,h2,h3,h4,h5,h6,h7⟩,ha,hb,hc,hd⟩:=h
 exact made_ev _ _ _ _ _ _ _ _ _ _ _ _ (u8_of h0) (u8_of h1) (u8_of h2) (u8_of h3) (u8_of h4) (u8_of h5) (u8_of h6) (u8_of h7) (u8_of ha) (u8_of hb) (u8_of hc) (u8_of hd)
end Go.Proofs.Ytkodpbellndelaa.P

/- A row that is made to fit may be, and one with a value too much, too few, or of another type may not: the plain law. -/
namespace Go.Proofs.Ytkodpbellndelaa.Pure
open Go.RowKit Go.Proofs.Ytkodpbellndelaa.P Go.Proofs.YtkodpbellndelaaW.PrintWords Go.Proofs.YtkodpbellndelaaW.PrintLast
set_option linter.unusedVariables false
theorem rowOk_all (ts : List Int) (row : List XV) : ∀ m i,(∀ j : Nat,i≤j→j < i + m→fitsB (rd ts j) (rdV row j).f0 (rdV row j).f1=true)→rowOk ts row m i=true
 | 0,i,_=>rfl
 | m + 1,i,h=>by
  unfold rowOk
  rw [if_pos (h i (Nat.le_refl _) (by omega))]
  exact rowOk_all ts row m (i + 1) (fun j h1 h2=>h j (by omega) (by omega))
theorem rowOk_one (ts : List Int) (row : List XV) (z : Nat) (hz : fitsB (rd ts z) (rdV row z).f0 (rdV row z).f1=false) : ∀ m i,i≤z→z < i + m→rowOk ts row m i=false
 | 0,i,h1,h2=>by omega
 | m + 1,i,h1,h2=>by
  unfold rowOk
  by_cases q : i=z
  ·subst q
   rw [if_neg (by rw [show rd_T34 row i=rdV row i from rfl,hz];simp)]
  ·split
   ·exact rowOk_one ts row z hz m (i + 1) (by omega) (by omega)
   ·rfl
theorem rowB_len (ts : List Int) (row : List XV) (h : ts.length≠row.length) : rowB ts row=false:=by unfold rowB;rw [if_neg h]
theorem rowB_fit {T : List Int} {K M G : Int} (hS : Sch T K M G) (r : List XV) : rowB T (fitRow T r)=true:=by
 unfold rowB
 rw [if_pos (fitRow_length T r).symm]
 refine rowOk_all _ _ _ _ (fun j h1 h2=>?_)
 rw [rdV_fitRow T r j (by omega)]
 obtain ⟨t1,t3⟩:=hS.rdt j (by omega)
 exact fitT_fit1 _ _ t1 t3
theorem rowB_odd {T : List Int} {K M G : Int} (hS : Sch T K M G) (r : List XV) (z : Nat) (hz : z < T.length) : rowB T ((fitRow T r).set z ⟨1,(⟨#[120]⟩ : ByteArray)⟩)=false:=by
 unfold rowB
 split
 ·refine rowOk_one _ _ z ?_ _ _ (by omega) (by omega)
  have hl:=fitRow_length T r
  rw [show rdV ((fitRow T r).set z ⟨1,(⟨#[120]⟩ : ByteArray)⟩) z=⟨1,(⟨#[120]⟩ : ByteArray)⟩ by rw [show rdV ((fitRow T r).set z ⟨1,(⟨#[120]⟩ : ByteArray)⟩) z=_ from rdV_lt _ z (by rw [List.length_set];omega),List.getElem_set_self]]
  obtain ⟨t1,t3⟩:=hS.rdt z hz
  have e120 : (⟨#[120]⟩ : ByteArray).toList=[120]:=by decide +kernel
  unfold fitsB
  split
  ·show ((⟨#[120]⟩ : ByteArray).toList == ([] : List UInt8))=false
   rw [e120]
   rfl
  ·rw [if_pos (by omega),if_neg (by simp)]
 ·rfl
theorem SchemaRows : thresherlaw04_SchemaRows.PureG:=by
 intro x r at_ hx ⟨hr,hr2⟩ ha
 obtain ⟨T,K,M,G,hmade,hS⟩:=shape_ev hx
 have n8:=hS.n8
 have hk1:=hS.k1
 have hkn:=hS.kn
 have ua:=wf_u8 ha
 have hfit:=fit_ev T K M G r (by omega)
 have hlen:=fitRow_length T r
 have r1:=rowB_fit hS r
 have r2:=fun z hz=>rowB_odd hS r z hz
 obtain ⟨a,hA⟩ : ∃ a,a=fitRow T r:=⟨_,rfl⟩
 rw [← hA] at hfit hlen r1 r2
 have ew : wrap64 at_=at_:=w64 (by omega) (by omega)
 obtain ⟨y,hy⟩ : ∃ y : Nat,at_=y:=⟨at_.toNat,by omega⟩
 subst hy
 have et : Int.tmod (y : Int) (a.length : Int)=((y % a.length : Nat) : Int):=by rw [Int.tmod_eq_emod_of_nonneg (by omega)];rfl
 have hlt : y % a.length < a.length:=Nat.mod_lt _ (by omega)
 obtain ⟨z,hz⟩ : ∃ z,y % a.length=z:=⟨_,rfl⟩
 rw [hz] at et hlt
 have r3:=r2 z (by omega)
 have lo : (a.set z ⟨1,(⟨#[120]⟩ : ByteArray)⟩).length=a.length:=List.length_set
 obtain ⟨odd,hodd⟩ : ∃ odd,odd=a.set z ⟨1,(⟨#[120]⟩ : ByteArray)⟩:=⟨_,rfl⟩
 rw [← hodd] at r3 lo
 have r4 : rowB T (a ++ [(⟨0,(⟨#[]⟩ : ByteArray)⟩ : XV)])=false:=rowB_len _ _ (by rw [List.length_append];simp;omega)
 have r5 : rowB T (a.take (a.length - 1))=false:=rowB_len _ _ (by rw [List.length_take];omega)
 have b1 : batchN T [a,odd]=21:=by unfold batchN;rw [if_pos (by unfold withinB;simp),if_pos (by simp [r1,r3])]
 have b2 : batchN T [a]=0:=by unfold batchN;rw [if_pos (by unfold withinB;simp),if_neg (by simp [r1])]
 have b3 : batchN T []=22:=rfl
 apply Ev.rounds
 simp only [thresherlaw04_SchemaRows.f,thresherlaw04_made.f]
 refine Ev.bind shown04_ev (Ev.bind (Ev.bind hmade (Ev.now _)) (Ev.bind hfit ?_))
 simp only [ew,et,Int.toNat_natCast]
 refine Ev.neg (by omega) (Ev.bindc rfl (Ev.pos (by simp;omega) (Ev.bindc rfl (Ev.pos (by omega) (Ev.pos (by simp;omega) ?_)))))
 simp only [List.nil_append]
 rw [← hodd]
 refine Ev.bindc rfl (Ev.bindc (show schema_Row.f T K M G a=some true by unfold schema_Row.f;rw [r1]) (Ev.bindc rfl (Ev.pos (by simp;omega) (Ev.bindc rfl (Ev.bindc rfl (Ev.pos (by simp;omega) ?_))))))
 refine Ev.bindc (show schema_Row.f T K M G (a ++ [(⟨0,(⟨#[]⟩ : ByteArray)⟩ : XV)])=some false by unfold schema_Row.f;rw [r4]) ?_
 have e1 : wrap64 ((a.length : Int) - 1)=((a.length - 1 : Nat) : Int):=(w64 (by omega) (by omega)).trans (by omega)
 rw [e1]
 clear e1
 refine Ev.pos (by omega) (Ev.pos (by omega) ?_)
 rw [Int.toNat_natCast]
 refine Ev.bindc (show schema_Row.f T K M G (a.take (a.length - 1))=some false by unfold schema_Row.f;rw [r5]) (Ev.bindc (show schema_Row.f T K M G odd=some false by unfold schema_Row.f;rw [r3]) ?_)
 refine Ev.pos (by simp) (Ev.pos (by simp) (Ev.neg (by simp) (Ev.neg (by simp) (Ev.neg (by simp) ?_))))
 refine Ev.bindc (show schema_Batch.f T K M G [a,odd]=some 21 by unfold schema_Batch.f;rw [b1]) (Ev.pos rfl ?_)
 refine Ev.bindc (show schema_Batch.f T K M G [a]=some 0 by unfold schema_Batch.f;rw [b2]) (Ev.pos rfl ?_)
 refine Ev.bindc (show schema_Batch.f T K M G []=some 22 by unfold schema_Batch.f;rw [b3]) ?_
 exact (Ev.now _).eq (by simp)
end Go.Proofs.Ytkodpbellndelaa.Pure

namespace Go.Proofs.Ytkodpbellndelaa.schemaRows
open Go.ChangeShapes Go.WideShapes Go.ChangeAt Go.RowKit Go.Proofs.Ytkodpbellndelaa.P Go.Proofs.YtkodpbellndelaaW.PrintWords
set_option linter.unusedVariables false
set_option linter.unusedSimpArgs false
theorem own : ownKnob Try.prog.godebug=none:=by kernel_rfl
theorem laidOut : laidOutB Try.prog=true:=by kernel_rfl
set_option maxRecDepth 100000 in
theorem lifted (os : Os) (started : os.Started) (H : Type) (enc : TypeId × Value→H) :
  ReturnsInHanded {} Try.checked os 3 .any (Rows.schemaRowsSpec.pre6 enc Try.prog Try.f3 Rows.schemaRowsRow.domain false) (Rows.schemaRowsSpec.post enc Try.prog Try.f3 false true false false):=by
 refine returnsInHanded_of_change_sized (C:=Try.checked) own started (by kernel_rfl) Try.func3
  (ChangeSpec.witness6 (enc:=enc) (C:=Try.checked) false ⟨#[],#[.agg #[.int .u8 0,.int .u8 0,.int .u8 0,.int .u8 0,.int .u8 0,.int .u8 0,.int .u8 0,.int .u8 0,.int .u8 0,.int .u8 0,.int .u8 0,.int .u8 0],.slice none 0 0,.int .u8 0],[]⟩ 8 (by kernel_rfl) (by kernel_rfl) (by kernel_rfl) (by kernel_rfl)) ?_
 intro W base args ds gs before hval0 hW hcnd hsz0 _
 have hval : ∀ (j : Nat) t v,Try.f3.params[j]?=some t→args[j]?=some v→Value.okWide Try.prog W .any base t v:=hval0
 have hW':=hW
 obtain ⟨p,q,hA0,hV,rfl,hfz,hnd⟩:=hW
 have hA : DataW.TrodAll enc Try.prog W 0 (fun _=>true) true Try.f3.params.toList args.toList ds p:=hA0
 rw [Try.params3] at hA hval
 obtain ⟨v0,vs0,d0,ds0,p0,q0,hargs,rfl,rfl,h0,r0⟩:=trodAll_cons hA
 obtain ⟨v1,vs1,d1,ds1,p1,q1,rfl,rfl,rfl,h1,r1⟩:=trodAll_cons r0
 obtain ⟨v2,vs2,d2,ds2,p2,q2,rfl,rfl,rfl,h2,r2⟩:=trodAll_cons r1
 obtain ⟨rfl,rfl,rfl⟩:=trodAll_nil r2
 obtain rfl : args=#[v0,v1,v2]:=by cases args;simp_all
 obtain ⟨rfl,rfl⟩:=trodVars_none hV
 have lt0 : ∀ x ∈ p0,x.block < W.heap.size:=by obtain ⟨m,hm⟩:=h0;exact DataW.trod_lt m _ _ _ hm
 obtain ⟨x0,K0,g0⟩:=(op24).arg h0
 obtain ⟨cs0,rfl⟩:=okWide_agg Try.underlying24 (hval 0 24 v0 rfl rfl)
 have e0:=k24_open K0
 replace e0:=agg_of e0
 have lt1 : ∀ x ∈ p1,x.block < W.heap.size:=by obtain ⟨m,hm⟩:=h1;exact DataW.trod_lt m _ _ _ hm
 obtain ⟨x1,K1,g1⟩:=((opens_slice Try.underlying26 (by kernel_rfl) op34)).arg h1
 obtain ⟨a1,len1,cap1,rfl⟩:=okWide_slice Try.underlying26 (hval 1 26 v1 rfl rfl)
 obtain ⟨A1,c1,e1,hl1,hr1⟩:=K1
 simp [Value.cells] at e1
 obtain ⟨rfl,rfl,rfl⟩:=e1
 have lt2 : ∀ x ∈ p2,x.block < W.heap.size:=by obtain ⟨m,hm⟩:=h2;exact DataW.trod_lt m _ _ _ hm
 obtain ⟨x2,K2,g2⟩:=((opens_int Try.underlying5)).arg h2
 obtain ⟨b2,rfl⟩:=okWide_int Try.underlying5 (hval 2 5 v2 rfl rfl)
 have e2 : b2=x2:=by simpa [Value.cells,Kd.int,Kd.scalar] using K2
 subst e2
 obtain ⟨k,hk⟩:=Pure.SchemaRows x0 x1 b2 g0 g1 g2
 have call : Calls Try.prog 3 #[.agg cs0,.slice a1 x1.length cap1,.int .u8 b2] W fun e W'=>e=.returned (.bool true)∧Below W.heap.size W W':=by
  rw [e0]
  refine (thresherlaw04_SchemaRows.calls k _ _ _ _ _ _ _ _ _ _ _ _ _ _ _ _ true W hr1 hl1 hk).mono ?_
  rintro e w' ⟨rfl,hd⟩
  exact ⟨rfl,hd⟩
 refine call.mono fun e W' ⟨he,bel⟩=>?_
 subst he
 exact ⟨_,rfl,_,_,_,[],_,[],hW',trodAll_mk1 (shut_bool Try.underlying4 _),(trodAll_cons_mk (Below.trod laidOut (by kernel_rfl) (of_decide_eq_true (by kernel_rfl)) h0 bel lt0) (trodAll_cons_mk (Below.trod laidOut (by kernel_rfl) (of_decide_eq_true (by kernel_rfl)) h1 bel lt1) (trodAll_cons_mk (Below.trod laidOut (by kernel_rfl) (of_decide_eq_true (by kernel_rfl)) h2 bel lt2) trodAll_mk0))),rfl,bel.frame _,fun h=>by cases h⟩
theorem over : Rows.schemaRowsRow.holds Try.pinned (OpenSpec.ofChange Rows.schemaRowsSpec) :=
 OpenClaim.holds_of_wide 3 Try.f3 rfl rfl rfl rfl rfl rfl rfl ⟨rfl,rfl,rfl,rfl,rfl⟩ rfl rfl rfl rfl rfl (by kernel_rfl) Try.func3 (by kernel_rfl)
  (of_decide_eq_true (by kernel_rfl)) (by unfold Func.isWrapper;first|(rw [if_pos (by decide +kernel)];kernel_rfl)|(rw [if_neg (by decide +kernel)];exact ⟨rfl,rfl⟩))
  (fun os started H enc _=>lifted os started H enc)
theorem proved : Rows.SchemaRowsSaid:=over
#print axioms proved
end Go.Proofs.Ytkodpbellndelaa.schemaRows
namespace Go.Proofs.Ytkodpbellndelaa
theorem schemaRows_holds : Rows.SchemaRowsSaid:=schemaRows.proved
end Go.Proofs.Ytkodpbellndelaa

