/- The row of GrainBack. Merged: SGrainBack, XBase, XChunks, XCol, XFit, XMade, XOne, XOrd, XTab, XFitOk, XFits, XRVal, XRefMarks, XShape, XSplit, XMarks, XRCmp, XRowOk, XMarkOrd, PureGrainBack, RGrainBack. -/
import Derived.Test.YthoelihgpkffiaaQGrainBackPx13
import Derived.Test.YthoelihgpkffiaaQGrainBackO
import Derived.Test.YthoelihgpkffiaaQGrainBackPx0
import Derived.Test.YthoelihgpkffiaaQGrainBackHBase
import Derived.Test.YthoelihgpkffiaaQGrainBackPx9
import Derived.Test.YthoelihgpkffiaaQGrainBackPx11
import Derived.Test.YthoelihgpkffiaaQGrainBackPx6
import Derived.Test.YthoelihgpkffiaaQGrainBackPx2
import Derived.Lib.Bytealg
import Derived.Test.YthoelihgpkffiaaQGrainBackPx3
import Derived.Test.YthoelihgpkffiaaQGrainBackPx10
import Derived.Test.YthoelihgpkffiaaQGrainBackPx7
import Derived.Test.YthoelihgpkffiaaQGrainBackPx4
import Derived.Test.YthoelihgpkffiaaRows
import Derived.WalkKit
import Derived.ProofKit
import Derived.OpenShut
import Derived.ShutString
import Derived.ChangeOld
import Derived.Below
import Derived.SizedLaws
namespace Go.Proofs.Ythoelihgpkffiaa.P
open Go.RowKit Go.Proofs.YthoelihgpkffiaaW.PrintWords
def thresherlaw10_GrainBack.PureG : Prop:=∀ (x0 : S24) (x1 : List (List (S45))),gd24 x0→(x1.length≤maxLen∧∀ a ∈ x1,(a.length≤maxLen∧∀ aa ∈ a,gd45 aa))→∃ k,thresherlaw10_GrainBack.f k x0.f0.f0 x0.f0.f1 x0.f0.f2 x0.f0.f3 x0.f0.f4 x0.f0.f5 x0.f0.f6 x0.f0.f7 x0.f1 x0.f2 x0.f3 x0.f4 x1=some true
end Go.Proofs.Ythoelihgpkffiaa.P

/- Words of the laws about rows. -/
namespace Go.Proofs.Ythoelihgpkffiaa.P
open Go.RowKit Go.Proofs.YthoelihgpkffiaaW.PrintWords Go.Proofs.YthoelihgpkffiaaW.PrintLast Go.Proofs.YthoelihgpkffiaaW.PrintMore
set_option linter.unusedVariables false
set_option linter.unusedSimpArgs false
abbrev XV:=S45
abbrev rdV (l : List XV) (i : Int) : XV:=rd_T45 l i
abbrev rdR (l : List (List XV)) (i : Int) : List XV:=rd_L3 l i
theorem rd_lt (l : List Int) (i : Nat) (h : i < l.length) : rd l i=l[i]:=by unfold rd;simp [List.getD,h]
theorem rdV_lt (l : List XV) (i : Nat) (h : i < l.length) : rd_T45 l i=l[i]:=by unfold rd_T45;simp [List.getD,h]
theorem rdV_ge (l : List XV) (i : Nat) (h : l.length≤i) : rd_T45 l i=⟨0,⟨#[]⟩⟩:=by unfold rd_T45;simp [List.getD,h];rfl
theorem rdR_lt (l : List (List XV)) (i : Nat) (h : i < l.length) : rd_L3 l i=l[i]:=by unfold rd_L3;simp [List.getD,h]
structure Sch (T : List Int) (K M G : Int) : Prop where
 n1 : 1≤T.length
 n8 : T.length≤8
 ty : ∀ t ∈ T,1≤t∧t≤3
 k1 : 1≤K
 kn : K≤T.length
 m1 : 1≤M
 m3 : M≤3
 g1 : 1≤G
 g8 : G≤8
def fitT (t : Int) (v : XV) : Bool:=if t=1 ∨ t=2 then v.f1.toList == ([] : List UInt8) else if t=3 then (if v.f0=0 then decide ((v.f1.size : Int)≤60) else false) else false
def rowOkB (T : List Int) (r : List XV) : Bool:=decide (T.length=r.length) && (List.range T.length).all fun (i : Nat)=>fitT (rd T i) (rdV r i)
def fit1 (t : Int) (v : XV) : XV:=if t=3 then ⟨0,if (v.f1.size : Int) > 60 then v.f1.extract 0 60 else v.f1⟩ else ⟨v.f0,⟨#[]⟩⟩
def fitRow (T : List Int) (r : List XV) : List XV:=(List.range' 0 T.length).map fun (i : Nat)=>fit1 (rd T i) (rdV r i)
theorem fitRow_length (T : List Int) (r : List XV) : (fitRow T r).length=T.length:=by simp [fitRow]
theorem bytes_eq {a b : ByteArray} (h : a.toList=b.toList) : a=b:=by
 rw [ByteArray.toList_eq,ByteArray.toList_eq] at h
 exact ByteArray.ext (Array.toList_inj.mp h)
theorem XV.same {a b : XV} : (!(a.f0 == b.f0) || (!(a.f1.toList == b.f1.toList)))=true ↔ a≠b:=by
 constructor
 ·rintro h rfl
  simp at h
 ·intro h
  by_cases h0 : a.f0=b.f0
  ·by_cases h1 : a.f1.toList=b.f1.toList
   ·exact absurd (by cases a;cases b;simp only at h0 h1;rw [h0,bytes_eq h1]) h
   ·simp [h1]
  ·simp [h0]
instance : DecidableEq XV:=fun a b=>if h : (!(a.f0 == b.f0) || (!(a.f1.toList == b.f1.toList)))=true then isFalse (XV.same.mp h) else isTrue (Classical.byContradiction fun e=>h (XV.same.mpr e))
end Go.Proofs.Ythoelihgpkffiaa.P

/- Rows cut after every so many: plain. -/
namespace Go.Proofs.Ythoelihgpkffiaa.P
open Go.RowKit Go.Proofs.YthoelihgpkffiaaW.PrintWords Go.Proofs.YthoelihgpkffiaaW.PrintLast Go.Proofs.YthoelihgpkffiaaW.PrintMore
set_option linter.unusedVariables false
set_option linter.unusedSimpArgs false
def chunks {α : Type} (g : Nat) (l : List α) : List (List α):=if h : l=[] ∨ g=0 then [] else l.take g :: chunks g (l.drop g)
termination_by l.length
decreasing_by
 have h1 : l≠[]:=fun e=>h (Or.inl e)
 have h2:=List.length_pos_iff.mpr h1
 rw [List.length_drop]
 omega
theorem chunks_nil {α : Type} (g : Nat) : chunks g ([] : List α)=[]:=by rw [chunks];simp
theorem chunks_step {α : Type} {g : Nat} {l : List α} (hg : 1≤g) (hl : l≠[]) : chunks g l=l.take g :: chunks g (l.drop g):=by
 rw [chunks,dif_neg]
 rintro (h|h)
 ·exact hl h
 ·omega
theorem chunks_length {α : Type} {g : Nat} (hg : 1≤g) : ∀ (n : Nat) (l : List α),l.length≤n→(chunks g l).length≤l.length
 | 0,l,h=>by rw [List.length_eq_zero_iff.mp (by omega : l.length=0),chunks_nil];simp
 | n + 1,l,h=>by
  by_cases e : l=[]
  ·rw [e,chunks_nil];simp
  ·rw [chunks_step hg e]
   have h2:=List.length_pos_iff.mpr e
   have:=chunks_length hg n (l.drop g) (by rw [List.length_drop];omega)
   rw [List.length_drop] at this
   rw [List.length_cons]
   omega
theorem chunks_mem {α : Type} {g : Nat} (hg : 1≤g) : ∀ (n : Nat) (l : List α),l.length≤n→∀ c ∈ chunks g l,c≠[]∧c.length≤g∧∀ x ∈ c,x ∈ l
 | 0,l,h=>by rw [List.length_eq_zero_iff.mp (by omega : l.length=0),chunks_nil];simp
 | n + 1,l,h=>by
  by_cases e : l=[]
  ·rw [e,chunks_nil];simp
  ·rw [chunks_step hg e]
   have h2:=List.length_pos_iff.mpr e
   intro c hc
   rcases List.mem_cons.mp hc with rfl|hc
   ·refine ⟨fun h0=>?_,by rw [List.length_take];omega,fun x hx=>List.mem_of_mem_take hx⟩
    have h3:=congrArg List.length h0
    rw [List.length_take,List.length_nil] at h3
    omega
   ·obtain ⟨a1,a2,a3⟩:=chunks_mem hg n (l.drop g) (by rw [List.length_drop];omega) c hc
    exact ⟨a1,a2,fun x hx=>List.mem_of_mem_drop (a3 x hx)⟩
end Go.Proofs.Ythoelihgpkffiaa.P

/- A column of rows. -/
namespace Go.Proofs.Ythoelihgpkffiaa.P
open Go.RowKit Go.Proofs.YthoelihgpkffiaaW.PrintWords Go.Proofs.YthoelihgpkffiaaW.PrintLast Go.Proofs.YthoelihgpkffiaaW.PrintMore
set_option linter.unusedVariables false
set_option linter.unusedSimpArgs false
def colF (at_ : Int) : List (List XV)→List XV→List XV
 | [],acc=>acc
 | r :: rest,acc=>if 0≤at_∧at_ < r.length then colF at_ rest (acc ++ [rdV r at_]) else []
theorem col_loop (l : List (List XV)) (at_ : Int) (hl : l.length≤1000000) : ∀ (d i : Nat) (acc : List XV),i + d=l.length→acc.length=i→Ev (fun k=>grain_Column.l0 k at_ acc l l.length i) (colF at_ (l.drop i) acc)
 | 0,i,acc,hi,ha=>by
  refine Ev.succ ?_
  simp only [grain_Column.l0]
  rw [List.drop_of_length_le (by omega)]
  exact Ev.neg (by omega) (Ev.now _)
 | d + 1,i,acc,hi,ha=>by
  have h : i < l.length:=by omega
  refine Ev.succ ?_
  simp only [grain_Column.l0]
  rw [rdR_lt l i h,List.drop_eq_getElem_cons h]
  simp (disch:=omega) only [w64]
  unfold colF
  refine Ev.pos (by omega) (Ev.pos (by omega) (Ev.pos (by omega) ?_))
  by_cases h0 : at_ < 0
  ·rw [if_neg (by omega)]
   exact Ev.pos h0 (Ev.now _)
  ·refine Ev.neg h0 ?_
   by_cases h1 : at_ ≥ (l[i].length : Int)
   ·rw [if_neg (by omega)]
    exact Ev.pos h1 (Ev.now _)
   ·rw [if_pos (by omega)]
    exact Ev.neg h1 (Ev.pos (by omega) (Ev.pos (by omega) (Ev.pos (by omega) (col_loop l at_ hl d (i + 1) (acc ++ [rdV l[i] at_]) (by omega) (by simp;omega)))))
theorem col_ev (l : List (List XV)) (at_ : Int) (hl : l.length≤1000000) : Ev (fun k=>grain_Column.f k l at_) (colF at_ l []):=by
 simp only [grain_Column.f]
 exact col_loop l at_ hl l.length 0 [] (by omega) rfl
end Go.Proofs.Ythoelihgpkffiaa.P

/- A row made to fit. -/
namespace Go.Proofs.Ythoelihgpkffiaa.P
open Go.RowKit Go.Proofs.YthoelihgpkffiaaW.PrintWords Go.Proofs.YthoelihgpkffiaaW.PrintLast Go.Proofs.YthoelihgpkffiaaW.PrintMore
set_option linter.unusedVariables false
set_option linter.unusedSimpArgs false
theorem fit_turn (T : List Int) (K M G : Int) (r : List XV) (i : Nat) (acc : List XV) (v0 : Int) (v1 : ByteArray) (hi : i < T.length) (hT : T.length≤1000000) (ha : acc.length=i) {R : List XV} (h : Ev (fun k=>thresherref04_Fit.l0 k r (acc ++ [fit1 (rd T i) ⟨v0,v1⟩]) ((i + 1 : Nat) : Int) T K M G) R) : Ev (fun k=>thresherref04_Fit.j1 k r acc i T K M G v0 v1) R:=by
 refine Ev.succ ?_
 simp only [thresherref04_Fit.j1]
 simp (disch:=omega) only [w64]
 refine Ev.pos (by omega) (Ev.pos (by omega) ?_)
 unfold fit1 at h
 by_cases e : rd T i=3
 ·rw [if_pos e] at h
  refine Ev.pos e ?_
  by_cases s : (v1.size : Int) > 60
  ·simp only [if_pos s] at h
   exact Ev.pos s (Ev.pos (by omega) (Ev.pos (by omega) (Ev.pos (by omega) h)))
  ·simp only [if_neg s] at h
   exact Ev.neg s (Ev.pos (by omega) h)
 ·rw [if_neg e] at h
  exact Ev.neg e (Ev.pos (by omega) h)
theorem fit_loop (T : List Int) (K M G : Int) (r : List XV) (hT : T.length≤1000000) : ∀ (d i : Nat) (acc : List XV),i + d=T.length→acc.length=i→Ev (fun k=>thresherref04_Fit.l0 k r acc i T K M G) (acc ++ (List.range' i d).map fun (j : Nat)=>fit1 (rd T j) (rdV r j))
 | 0,i,acc,hi,ha=>by
  refine Ev.succ ?_
  simp only [thresherref04_Fit.l0]
  exact Ev.neg (by omega) ((Ev.now _).eq (by simp))
 | d + 1,i,acc,hi,ha=>by
  refine Ev.succ ?_
  simp only [thresherref04_Fit.l0]
  refine Ev.pos (by omega) ?_
  have hl : (acc ++ [fit1 (rd T i) (rdV r i)]).length=i + 1:=by simp;omega
  have h:=(fit_loop T K M G r hT d (i + 1) (acc ++ [fit1 (rd T i) (rdV r i)]) (by omega) hl).eq (r':=acc ++ (List.range' i (d + 1)).map fun (j : Nat)=>fit1 (rd T j) (rdV r j)) (by rw [List.append_assoc,List.range'_succ];rfl)
  by_cases e : i < r.length
  ·exact Ev.pos (by omega) (Ev.pos (by omega) (fit_turn T K M G r i acc _ _ (by omega) hT ha h))
  ·refine Ev.neg (by omega) (fit_turn T K M G r i acc _ _ (by omega) hT ha ?_)
   have e2 : rdV r i=⟨0,⟨#[]⟩⟩:=rdV_ge r i (by omega)
   rw [e2] at h
   exact h
theorem fit_ev (T : List Int) (K M G : Int) (r : List XV) (hT : T.length≤1000000) : Ev (fun k=>thresherref04_Fit.f k T K M G r) (fitRow T r):=by
 simp only [thresherref04_Fit.f]
 exact fit_loop T K M G r hT T.length 0 [] (by omega) rfl
end Go.Proofs.Ythoelihgpkffiaa.P

/- A schema made of any numbers. -/
namespace Go.Proofs.Ythoelihgpkffiaa.P
open Go.RowKit Go.Proofs.YthoelihgpkffiaaW.PrintWords Go.Proofs.YthoelihgpkffiaaW.PrintLast Go.Proofs.YthoelihgpkffiaaW.PrintMore
set_option linter.unusedVariables false
set_option linter.unusedSimpArgs false
def U8 (x : Int) : Prop:=0≤x∧x≤255
theorem made_one {x : Int} {m : Int} (h : U8 x) (hm : 0 < m) (hm2 : m≤1000) : wrap64 (1 + Int.tmod (wrap64 x) m)=1 + x % m∧1≤1 + x % m∧1 + x % m≤m:=by
 obtain ⟨h0,h1⟩:=h
 have e1 : wrap64 x=x:=w64 (by omega) (by omega)
 have h2:=Int.emod_nonneg x (show m≠0 by omega)
 have h3:=Int.emod_lt_of_pos x hm
 rw [e1,Int.tmod_eq_emod_of_nonneg h0]
 exact ⟨w64 (by omega) (by omega),by omega,by omega⟩
theorem made_loop (x0 x1 x2 x3 x4 x5 x6 x7 K M G : Int) (hx : ∀ x ∈ [x0,x1,x2,x3,x4,x5,x6,x7],U8 x) (n : Nat) (hn : n≤8) : ∀ (d i : Nat) (T : List Int),i + d=n→T.length=i→(∀ t ∈ T,1≤t∧t≤3)→∃ T',Ev (fun k=>thresherref04_Made.l0 k n i x0 x1 x2 x3 x4 x5 x6 x7 T K M G) (T',K,M,G)∧T'.length=n∧∀ t ∈ T',1≤t∧t≤3
 | 0,i,T,hi,hT,ht=>by
  refine ⟨T,Ev.succ ?_,by omega,ht⟩
  simp only [thresherref04_Made.l0]
  exact Ev.neg (by omega) (Ev.now _)
 | d + 1,i,T,hi,hT,ht=>by
  have hr : U8 (rd [x0,x1,x2,x3,x4,x5,x6,x7] i):=by
   rw [rd_lt _ i (by simp;omega)]
   exact hx _ (List.getElem_mem _)
  obtain ⟨e,l1,l2⟩:=made_one (m:=3) hr (by omega) (by omega)
  obtain ⟨T',h1,h2,h3⟩:=made_loop x0 x1 x2 x3 x4 x5 x6 x7 K M G hx n hn d (i + 1) (T ++ [1 + rd [x0,x1,x2,x3,x4,x5,x6,x7] i % 3]) (by omega) (by simp;omega) (by
   intro t h
   rcases List.mem_append.mp h with h|h
   ·exact ht t h
   ·rw [List.mem_singleton.mp h];exact ⟨l1,l2⟩)
  refine ⟨T',Ev.succ ?_,h2,h3⟩
  simp only [thresherref04_Made.l0]
  rw [e]
  clear e
  simp (disch:=omega) only [w64]
  exact Ev.pos (by omega) (Ev.pos (by omega) (Ev.pos (by omega) (Ev.pos (by omega) h1)))
theorem made_ev (x0 x1 x2 x3 x4 x5 x6 x7 a b c d : Int) (h0 : U8 x0) (h1 : U8 x1) (h2 : U8 x2) (h3 : U8 x3) (h4 : U8 x4) (h5 : U8 x5) (h6 : U8 x6) (h7 : U8 x7) (ha : U8 a) (hb : U8 b) (hc : U8 c) (hd : U8 d) : ∃ T K M G,Ev (fun k=>thresherref04_Made.f k x0 x1 x2 x3 x4 x5 x6 x7 a b c d) (T,K,M,G)∧Sch T K M G:=by
 obtain ⟨ea,a1,a2⟩:=made_one (m:=8) ha (by omega) (by omega)
 obtain ⟨n,hn⟩ : ∃ n : Nat,1 + a % 8=n:=⟨(1 + a % 8).toNat,by omega⟩
 obtain ⟨eb,b1,b2⟩:=made_one (m:=1 + a % 8) hb (by omega) (by omega)
 obtain ⟨ec,c1,c2⟩:=made_one (m:=3) hc (by omega) (by omega)
 obtain ⟨ed,d1,d2⟩:=made_one (m:=8) hd (by omega) (by omega)
 simp only [thresherref04_Made.f,ea,eb,ec,ed]
 clear ea eb ec ed
 rw [hn] at b1 b2 a1 a2 ⊢
 obtain ⟨T,e,l,t⟩:=made_loop x0 x1 x2 x3 x4 x5 x6 x7 (1 + b % n) (1 + c % 3) (1 + d % 8) (by
  intro x hx
  simp only [List.mem_cons,List.not_mem_nil,or_false] at hx
  rcases hx with rfl|rfl|rfl|rfl|rfl|rfl|rfl|rfl <;> assumption) n (by omega) n 0 [] (by omega) rfl (by simp)
 exact ⟨T,_,_,_,Ev.neg (by omega) e,⟨by omega,by omega,t,b1,by omega,c1,c2,d1,d2⟩⟩
end Go.Proofs.Ythoelihgpkffiaa.P

/- Are two rows the same, and two lists of rows? -/
namespace Go.Proofs.Ythoelihgpkffiaa.P
open Go.RowKit Go.Proofs.YthoelihgpkffiaaW.PrintWords Go.Proofs.YthoelihgpkffiaaW.PrintLast Go.Proofs.YthoelihgpkffiaaW.PrintMore
set_option linter.unusedVariables false
set_option linter.unusedSimpArgs false
theorem one_loop (a b : List XV) (hl : a.length=b.length) (hb : a.length≤1000000000) : ∀ (d i : Nat),i + d=a.length→Ev (fun k=>thresherref04_One.l0 k a b i) (decide (a.drop i=b.drop i))
 | 0,i,hi=>by
  refine Ev.succ ?_
  simp only [thresherref04_One.l0]
  refine Ev.neg (by omega) ((Ev.now _).eq ?_)
  rw [List.drop_of_length_le (by omega),List.drop_of_length_le (by omega)]
  simp
 | d + 1,i,hi=>by
  have h1 : i < a.length:=by omega
  have h2 : i < b.length:=by omega
  refine Ev.succ ?_
  simp only [thresherref04_One.l0]
  simp (disch:=omega) only [w64]
  rw [rdV_lt a i h1,rdV_lt b i h2]
  rw [List.drop_eq_getElem_cons h1,List.drop_eq_getElem_cons h2]
  refine Ev.pos (by omega) (Ev.pos (by omega) (Ev.pos (by omega) ?_))
  by_cases e : a[i]=b[i]
  ·refine Ev.neg (fun h=>XV.same.mp h e) ((one_loop a b hl hb d (i + 1) (by omega)).eq ?_)
   rw [e]
   exact decide_eq_decide.mpr ⟨fun h=>by rw [h],fun h=>(List.cons.inj h).2⟩
  ·refine Ev.pos (XV.same.mpr e) ((Ev.now _).eq ?_)
   symm
   rw [decide_eq_false_iff_not]
   intro h
   exact e (List.cons.inj h).1
theorem one_ev (a b : List XV) (hb : a.length≤1000000000) : Ev (fun k=>thresherref04_One.f k a b) (decide (a=b)):=by
 simp only [thresherref04_One.f]
 by_cases hl : a.length=b.length
 ·refine Ev.pos (by omega) ?_
  have:=one_loop a b hl hb a.length 0 (by omega)
  simpa using this
 ·refine Ev.neg (by omega) ((Ev.now _).eq ?_)
  symm
  rw [decide_eq_false_iff_not]
  rintro rfl
  exact hl rfl
theorem rows_loop (a b : List (List XV)) (hl : a.length=b.length) (hb : a.length≤1000000000) (hr : ∀ r ∈ a,r.length≤1000000000) : ∀ (d i : Nat),i + d=a.length→Ev (fun k=>thresherref04_Rows.l0 k a b i) (decide (a.drop i=b.drop i))
 | 0,i,hi=>by
  refine Ev.succ ?_
  simp only [thresherref04_Rows.l0]
  refine Ev.neg (by omega) ((Ev.now _).eq ?_)
  rw [List.drop_of_length_le (by omega),List.drop_of_length_le (by omega)]
  simp
 | d + 1,i,hi=>by
  have h1 : i < a.length:=by omega
  have h2 : i < b.length:=by omega
  refine Ev.succ ?_
  simp only [thresherref04_Rows.l0]
  simp (disch:=omega) only [w64]
  rw [rdR_lt a i h1,rdR_lt b i h2]
  rw [List.drop_eq_getElem_cons h1,List.drop_eq_getElem_cons h2]
  refine Ev.pos (by omega) (Ev.pos (by omega) (Ev.pos (by omega) (Ev.bind (one_ev _ _ (hr _ (List.getElem_mem h1))) ?_)))
  by_cases e : a[i]=b[i]
  ·refine Ev.pos (decide_eq_true e) ((rows_loop a b hl hb hr d (i + 1) (by omega)).eq ?_)
   rw [e]
   exact decide_eq_decide.mpr ⟨fun h=>by rw [h],fun h=>(List.cons.inj h).2⟩
  ·refine Ev.neg (by simpa using e) ((Ev.now _).eq ?_)
   symm
   rw [decide_eq_false_iff_not]
   intro h
   exact e (List.cons.inj h).1
theorem rows_ev (a b : List (List XV)) (hb : a.length≤1000000000) (hr : ∀ r ∈ a,r.length≤1000000000) : Ev (fun k=>thresherref04_Rows.f k a b) (decide (a=b)):=by
 simp only [thresherref04_Rows.f]
 by_cases hl : a.length=b.length
 ·refine Ev.pos (by omega) ?_
  have:=rows_loop a b hl hb hr a.length 0 (by omega)
  simpa using this
 ·refine Ev.neg (by omega) ((Ev.now _).eq ?_)
  symm
  rw [decide_eq_false_iff_not]
  rintro rfl
  exact hl rfl
end Go.Proofs.Ythoelihgpkffiaa.P

/- The order of values and of rows. -/
namespace Go.Proofs.Ythoelihgpkffiaa.P
open Go.RowKit Go.Proofs.YthoelihgpkffiaaW.PrintWords Go.Proofs.YthoelihgpkffiaaW.PrintLast Go.Proofs.YthoelihgpkffiaaW.PrintMore
set_option linter.unusedVariables false
set_option linter.unusedSimpArgs false
theorem u8_tri (a b : UInt8) : (a < b∧¬ b < a) ∨ (b < a∧¬ a < b) ∨ (a=b∧¬ a < b∧¬ b < a):=by
 rcases Nat.lt_trichotomy a.toNat b.toNat with h|h|h
 ·exact Or.inl ⟨UInt8.lt_iff_toNat_lt.mpr h,fun h2=>by have:=UInt8.lt_iff_toNat_lt.mp h2;omega⟩
 ·have e : a=b:=UInt8.toNat_inj.mp h
  subst e
  exact Or.inr (Or.inr ⟨rfl,fun h2=>by have:=UInt8.lt_iff_toNat_lt.mp h2;omega,fun h2=>by have:=UInt8.lt_iff_toNat_lt.mp h2;omega⟩)
 ·exact Or.inr (Or.inl ⟨UInt8.lt_iff_toNat_lt.mpr h,fun h2=>by have:=UInt8.lt_iff_toNat_lt.mp h2;omega⟩)
theorem cb_anti : ∀ a b : List UInt8,Lib.compareBytes b a=- Lib.compareBytes a b
 | [],[]=>by simp [Lib.compareBytes]
 | [],_ :: _=>by simp [Lib.compareBytes]
 | _ :: _,[]=>by simp [Lib.compareBytes]
 | a :: xs,b :: ys=>by
  unfold Lib.compareBytes
  rcases u8_tri a b with ⟨h1,h2⟩|⟨h1,h2⟩|⟨h0,h1,h2⟩
  ·rw [if_neg h2,if_pos h1,if_pos h1];rfl
  ·rw [if_pos h1,if_neg h2,if_pos h1]
  ·rw [if_neg h2,if_neg h1,if_neg h1,if_neg h2];exact cb_anti xs ys
def GV (v : XV) : Prop:=-9223372036854775808≤v.f0∧v.f0≤9223372036854775807
def sgn (x y : Int) : Int:=if x < y then -1 else if x > y then 1 else 0
def un (x : Int) : Int:=x % 18446744073709551616
def cmpV (t : Int) (a b : XV) : Int:=if fitT t a=true∧fitT t b=true then (if t=3 then Lib.compareBytes a.f1.data.toList b.f1.data.toList else if t=2 then sgn (un a.f0) (un b.f0) else sgn a.f0 b.f0) else 0
theorem cmpV_anti (t : Int) (a b : XV) : cmpV t b a=- cmpV t a b:=by
 unfold cmpV
 by_cases h : fitT t a=true∧fitT t b=true
 ·rw [if_pos h,if_pos h.symm]
  split
  ·exact cb_anti _ _
  ·split <;> (unfold sgn;split <;> split <;> (try split) <;> omega)
 ·rw [if_neg h,if_neg (fun q=>h q.symm)]
  rfl
def cmpC (t : Int) (a b : XV) : Int:=if t=3 then Lib.compareBytes a.f1.data.toList b.f1.data.toList else if t=2 then sgn (un a.f0) (un b.f0) else sgn a.f0 b.f0
def cmpFrom (T : List Int) (a b : List XV) : Nat→Nat→Int
 | 0,_=>0
 | m + 1,i=>if cmpV (rd T i) (rdV a i) (rdV b i)=0 then cmpFrom T a b m (i + 1) else cmpV (rd T i) (rdV a i) (rdV b i)
def cmpRow (T : List Int) (K : Int) (a b : List XV) : Int:=cmpFrom T a b (min (min (min K.toNat T.length) a.length) b.length) 0
theorem cmpFrom_anti (T : List Int) (a b : List XV) : ∀ m i,cmpFrom T b a m i=- cmpFrom T a b m i
 | 0,i=>by simp [cmpFrom]
 | m + 1,i=>by
  unfold cmpFrom
  rw [cmpV_anti _ (rdV a i) (rdV b i),cmpFrom_anti T a b m (i + 1)]
  by_cases h : cmpV (rd T i) (rdV a i) (rdV b i)=0
  ·rw [if_pos (by omega),if_pos h]
  ·rw [if_neg (by omega),if_neg h]
def FitAt (T : List Int) (a : List XV) (m i : Nat) : Prop:=∀ j : Nat,i≤j→j < i + m→fitT (rd T j) (rdV a j)=true∧GV (rdV a j)
end Go.Proofs.Ythoelihgpkffiaa.P

/- Rows out of columns. -/
namespace Go.Proofs.Ythoelihgpkffiaa.P
open Go.RowKit Go.Proofs.YthoelihgpkffiaaW.PrintWords Go.Proofs.YthoelihgpkffiaaW.PrintLast Go.Proofs.YthoelihgpkffiaaW.PrintMore
set_option linter.unusedVariables false
set_option linter.unusedSimpArgs false
def tabR (cols : List (List XV)) (n : Nat) : List (List XV):=(List.range n).map fun (j : Nat)=>cols.map fun c=>rdV c j
theorem tabR_length (cols : List (List XV)) (n : Nat) : (tabR cols n).length=n:=by simp [tabR]
def stepR (cols : List (List XV)) (c : List XV) (n j : Nat) : List (List XV):=(List.range n).map fun (q : Nat)=>if q < j then (cols.map fun c=>rdV c q) ++ [rdV c q] else cols.map fun c=>rdV c q
theorem stepR_zero (cols : List (List XV)) (c : List XV) (n : Nat) : stepR cols c n 0=tabR cols n:=by
 unfold stepR tabR
 apply List.map_congr_left
 intro q _
 rw [if_neg (by omega)]
theorem stepR_all (cols : List (List XV)) (c : List XV) (n : Nat) : stepR cols c n n=tabR (cols ++ [c]) n:=by
 unfold stepR tabR
 apply List.map_congr_left
 intro q hq
 rw [if_pos (List.mem_range.mp hq),List.map_append]
 rfl
theorem stepR_length (cols : List (List XV)) (c : List XV) (n j : Nat) : (stepR cols c n j).length=n:=by simp [stepR]
theorem stepR_at (cols : List (List XV)) (c : List XV) (n j : Nat) (h : j < n) : rdR (stepR cols c n j) j=cols.map fun c=>rdV c j:=by
 rw [show rdR (stepR cols c n j) j=_ from rdR_lt _ j (by rw [stepR_length];exact h)]
 unfold stepR
 rw [List.getElem_map,List.getElem_range,if_neg (by omega)]
theorem stepR_get (cols : List (List XV)) (c : List XV) (n j q : Nat) (h : q < (stepR cols c n j).length) : (stepR cols c n j)[q]=if q < j then (cols.map fun c=>rdV c q) ++ [rdV c q] else cols.map fun c=>rdV c q:=by simp [stepR]
theorem stepR_set (cols : List (List XV)) (c : List XV) (n j : Nat) (h : j < n) : (stepR cols c n j).set j ((cols.map fun c=>rdV c j) ++ [rdV c j])=stepR cols c n (j + 1):=by
 apply List.ext_getElem
 ·rw [List.length_set,stepR_length,stepR_length]
 ·intro q h1 h2
  rw [List.length_set] at h1
  rw [List.getElem_set,stepR_get cols c n j q h1,stepR_get cols c n (j + 1) q h2]
  by_cases e : j=q
  ·subst e
   rw [if_pos rfl,if_pos (by omega)]
  ·rw [if_neg e]
   by_cases hq : q < j
   ·rw [if_pos hq,if_pos (by omega)]
   ·rw [if_neg hq,if_neg (by omega)]
theorem grows_in (cols all : List (List XV)) (c : List XV) (n m : Nat) (i : Nat) (hn : n≤1000000) (hc : c.length=n) (hcols : cols.length≤1000000) {R : (List (List XV)) × Bool} (hR : Ev (fun k=>grain_Rows.l0 k (tabR (cols ++ [c]) n) all m (i + 1 : Nat)) R) (hi : i≤1000000) :
  ∀ (d j : Nat),j + d=n→Ev (fun k=>grain_Rows.l1 k (stepR cols c n j) all m i c n j) R
 | 0,j,hj=>by
  refine Ev.succ ?_
  simp only [grain_Rows.l1]
  obtain rfl : j=n:=by omega
  rw [stepR_all]
  simp (disch:=omega) only [w64]
  exact Ev.neg (by omega) hR
 | d + 1,j,hj=>by
  have h : j < n:=by omega
  refine Ev.succ ?_
  simp only [grain_Rows.l1]
  have e1:=stepR_at cols c n j h
  rw [show rd_L3 (stepR cols c n j) j=_ from e1]
  have e2 : (⟨(rd_T45 c j).f0,(rd_T45 c j).f1⟩ : XV)=rdV c j:=rfl
  rw [e2,Int.toNat_natCast,stepR_set cols c n j h,stepR_length]
  simp (disch:=omega) only [w64]
  refine Ev.pos (by omega) (Ev.pos (by omega) (Ev.pos (by omega) (Ev.pos (by omega) (Ev.pos (by rw [List.length_map];omega) ?_))))
  exact grows_in cols all c n m i hn hc hcols hR hi d (j + 1) (by omega)
theorem grows_loop (all : List (List XV)) (n : Nat) (hn : n≤1000000) (ha : all.length≤1000000) (hall : ∀ c ∈ all,c.length=n) : ∀ (d i : Nat),i + d=all.length→Ev (fun k=>grain_Rows.l0 k (tabR (all.take i) n) all all.length i) (tabR all n,true)
 | 0,i,hi=>by
  refine Ev.succ ?_
  simp only [grain_Rows.l0]
  rw [List.take_of_length_le (by omega)]
  exact Ev.neg (by omega) (Ev.now _)
 | d + 1,i,hi=>by
  have h : i < all.length:=by omega
  refine Ev.succ ?_
  simp only [grain_Rows.l0]
  rw [rdR_lt all i h,tabR_length]
  have hc:=hall _ (List.getElem_mem h)
  refine Ev.pos (by omega) (Ev.pos (by omega) (Ev.pos (by omega) (Ev.pos (by omega) ?_)))
  rw [hc,← stepR_zero (all.take i) all[i] n]
  refine grows_in (all.take i) all all[i] n all.length i hn hc (by rw [List.length_take];omega) ?_ (by omega) n 0 (by omega)
  rw [← List.take_succ_eq_append_getElem h]
  exact grows_loop all n hn ha hall d (i + 1) (by omega)
theorem tabR_nil (n : Nat) : tabR [] n=List.replicate n []:=by
 unfold tabR
 rw [List.eq_replicate_iff]
 refine ⟨by simp,fun b hb=>?_⟩
 obtain ⟨q,_,rfl⟩:=List.mem_map.mp hb
 rfl
theorem grows_ev (all : List (List XV)) (n : Nat) (hn : n≤1000000) (ha : all.length≤1000000) (h0 : all≠[]) (hall : ∀ c ∈ all,c.length=n) : Ev (fun k=>grain_Rows.f k all) (tabR all n,true):=by
 simp only [grain_Rows.f]
 have hp:=List.length_pos_iff.mpr h0
 have e:=rdR_lt all 0 hp
 rw [show rd_L3 all 0=all[0] from e,hall _ (List.getElem_mem hp)]
 rw [Int.toNat_natCast,← tabR_nil]
 refine Ev.neg (by omega) (Ev.pos (by omega) (Ev.pos (by omega) (Ev.pos (by omega) ?_)))
 exact grows_loop all n hn ha hall all.length 0 (by omega)
end Go.Proofs.Ythoelihgpkffiaa.P

/- A row made to fit fits. -/
namespace Go.Proofs.Ythoelihgpkffiaa.P
open Go.RowKit Go.Proofs.YthoelihgpkffiaaW.PrintWords Go.Proofs.YthoelihgpkffiaaW.PrintLast Go.Proofs.YthoelihgpkffiaaW.PrintMore
set_option linter.unusedVariables false
set_option linter.unusedSimpArgs false
theorem rdV_take (r : List XV) (n j : Nat) (h : j < n) : rdV (r.take n) j=rdV r j:=by
 show rd_T45 _ _=rd_T45 _ _
 by_cases hi : j < r.length
 ·rw [rdV_lt _ j (by rw [List.length_take];omega),rdV_lt r j hi,List.getElem_take]
 ·rw [rdV_ge _ j (by rw [List.length_take];omega),rdV_ge r j (by omega)]
end Go.Proofs.Ythoelihgpkffiaa.P

/- Rows made to fit. -/
namespace Go.Proofs.Ythoelihgpkffiaa.P
open Go.RowKit Go.Proofs.YthoelihgpkffiaaW.PrintWords Go.Proofs.YthoelihgpkffiaaW.PrintLast Go.Proofs.YthoelihgpkffiaaW.PrintMore
set_option linter.unusedVariables false
set_option linter.unusedSimpArgs false
theorem fits_loop (T : List Int) (K M G : Int) (l : List (List XV)) (n : Nat) (hn : n≤1000000) (hT : T.length≤1000000) : ∀ (d i : Nat) (acc : List (List XV)),i + d=min l.length n→acc.length=i→Ev (fun k=>thresherref04_Fits.l0 k l n acc i T K M G) (acc ++ ((l.take n).drop i).map (fitRow T))
 | 0,i,acc,hi,ha=>by
  refine Ev.succ ?_
  simp only [thresherref04_Fits.l0]
  have e : (l.take n).drop i=[]:=List.drop_of_length_le (by simp;omega)
  rw [e]
  by_cases h : (i : Int) < l.length
  ·exact Ev.pos h (Ev.neg (by omega) ((Ev.now _).eq (by simp)))
  ·exact Ev.neg h ((Ev.now _).eq (by simp))
 | d + 1,i,acc,hi,ha=>by
  have h1 : i < l.length:=by omega
  have h2 : i < n:=by omega
  refine Ev.succ ?_
  simp only [thresherref04_Fits.l0]
  have e : (l.take n).drop i=l[i] :: (l.take n).drop (i + 1):=by
   rw [List.drop_eq_getElem_cons (by simp;omega)]
   simp
  rw [rdR_lt l i h1,e]
  simp (disch:=omega) only [w64]
  refine Ev.pos (by omega) (Ev.pos (by omega) (Ev.pos (by omega) (Ev.bind (fit_ev T K M G _ hT) (Ev.pos (by omega) ?_))))
  refine (fits_loop T K M G l n hn hT d (i + 1) (acc ++ [fitRow T l[i]]) (by omega) (by simp;omega)).eq ?_
  simp
theorem fits_ev (T : List Int) (K M G : Int) (l : List (List XV)) (n : Nat) (hn : n≤1000000) (hT : T.length≤1000000) : Ev (fun k=>thresherref04_Fits.f k T K M G l n) ((l.take n).map (fitRow T)):=by
 simp only [thresherref04_Fits.f]
 exact fits_loop T K M G l n hn hT (min l.length n) 0 [] (by omega) rfl
end Go.Proofs.Ythoelihgpkffiaa.P

/- The document's Compare of values tells the same order. -/
namespace Go.Proofs.Ythoelihgpkffiaa.P
open Go.RowKit Go.Proofs.YthoelihgpkffiaaW.PrintWords Go.Proofs.YthoelihgpkffiaaW.PrintLast Go.Proofs.YthoelihgpkffiaaW.PrintMore
set_option linter.unusedVariables false
set_option linter.unusedSimpArgs false
def GR (r : List XV) : Prop:=∀ v ∈ r,GV v∧v.f1.size≤9223372036854775807
theorem GR.rdV {r : List XV} (h : GR r) (i : Nat) : GV (rdV r i)∧(P.rdV r i).f1.size≤9223372036854775807:=by
 by_cases hi : i < r.length
 ·show GV (rd_T45 r i)∧(rd_T45 r i).f1.size≤_
  rw [rdV_lt r i hi]
  exact h _ (List.getElem_mem hi)
 ·show GV (rd_T45 r i)∧(rd_T45 r i).f1.size≤_
  rw [rdV_ge r i (by omega)]
  exact ⟨⟨by simp,by simp⟩,by decide⟩
end Go.Proofs.Ythoelihgpkffiaa.P

/- The document's marks: the key of each granule's first row. -/
namespace Go.Proofs.Ythoelihgpkffiaa.P
open Go.RowKit Go.Proofs.YthoelihgpkffiaaW.PrintWords Go.Proofs.YthoelihgpkffiaaW.PrintLast Go.Proofs.YthoelihgpkffiaaW.PrintMore
set_option linter.unusedVariables false
set_option linter.unusedSimpArgs false
def markOf (K : Nat) (c : List (List XV)) : List XV:=(c.headD []).take K
end Go.Proofs.Ythoelihgpkffiaa.P

/- A schema of a shape. -/
namespace Go.Proofs.Ythoelihgpkffiaa.P
open Go.RowKit Go.Proofs.YthoelihgpkffiaaW.PrintWords Go.Proofs.YthoelihgpkffiaaW.PrintLast Go.Proofs.YthoelihgpkffiaaW.PrintMore
theorem u8_of {x : Int} (h : (Lit.int .u8 x).wf=true) : U8 x:=wf_u8 h
theorem shape_ev {x : S24} (h : gd24 x) : ∃ T K M G,Ev (fun k=>thresherref04_Made.f k x.f0.f0 x.f0.f1 x.f0.f2 x.f0.f3 x.f0.f4 x.f0.f5 x.f0.f6 x.f0.f7 x.f1 x.f2 x.f3 x.f4) (T,K,M,G)∧Sch T K M G:=by
 obtain ⟨⟨h0,h1,h2,h3,h4,h5,h6,h7⟩,ha,hb,hc,hd⟩:=h
 exact made_ev _ _ _ _ _ _ _ _ _ _ _ _ (u8_of h0) (u8_of h1) (u8_of h2) (u8_of h3) (u8_of h4) (u8_of h5) (u8_of h6) (u8_of h7) (u8_of ha) (u8_of hb) (u8_of hc) (u8_of hd)
end Go.Proofs.Ythoelihgpkffiaa.P

/- Granules: rows cut after every so many. -/
namespace Go.Proofs.Ythoelihgpkffiaa.P
open Go.RowKit Go.Proofs.YthoelihgpkffiaaW.PrintWords Go.Proofs.YthoelihgpkffiaaW.PrintLast Go.Proofs.YthoelihgpkffiaaW.PrintMore
set_option linter.unusedVariables false
set_option linter.unusedSimpArgs false
theorem split_loop (T : List Int) (K M : Int) (g : Nat) (hg : 1≤g) (hg8 : g≤1000000) (l : List (List XV)) (hl : l.length≤1000000) : ∀ (d i : Nat) (acc : List (List (List XV))),l.length≤i + d→acc.length≤i→i≤2000000→Ev (fun k=>grain_Split.l0 k l acc i T K M g) (acc ++ chunks g (l.drop i))
 | 0,i,acc,hi,ha,hm=>by
  refine Ev.succ ?_
  simp only [grain_Split.l0]
  have e0 : chunks g (l.drop i)=[]:=by rw [List.drop_of_length_le (by omega),chunks_nil]
  rw [e0]
  exact Ev.neg (by omega) ((Ev.now _).eq (by simp))
 | d + 1,i,acc,hi,ha,hm=>by
  refine Ev.succ ?_
  simp only [grain_Split.l0]
  by_cases h : i < l.length
  ·have em : mn ((i : Int) + (g : Int)) (l.length : Int)=((min (i + g) l.length : Nat) : Int):=by unfold mn;split <;> omega
   simp (disch:=omega) only [w64]
   rw [em]
   have ne : l.drop i≠[]:=fun h0=>by have:=congrArg List.length h0;rw [List.length_drop] at this;simp at this;omega
   have e : (l.take ((min (i + g) l.length : Nat) : Int).toNat).drop (i : Int).toNat=(l.drop i).take g:=by
    simp only [Int.toNat_natCast]
    rw [List.drop_take]
    by_cases q : i + g≤l.length
    ·rw [Nat.min_eq_left q,show i + g - i=g by omega]
    ·rw [Nat.min_eq_right (by omega),List.take_of_length_le (by simp),List.take_of_length_le (by simp;omega)]
   rw [e,chunks_step hg ne,List.drop_drop]
   refine Ev.pos (by omega) (Ev.pos (by omega) (Ev.pos (by omega) (Ev.pos (by omega) (Ev.pos (by omega) ?_))))
   refine (split_loop T K M g hg hg8 l hl d (i + g) (acc ++ [(l.drop i).take g]) (by omega) (by simp;omega) (by omega)).eq ?_
   simp
  ·have e0 : chunks g (l.drop i)=[]:=by rw [List.drop_of_length_le (by omega),chunks_nil]
   rw [e0]
   exact Ev.neg (by omega) ((Ev.now _).eq (by simp))
theorem split_ev (T : List Int) (K M : Int) (g : Nat) (hg : 1≤g) (hg8 : g≤1000000) (l : List (List XV)) (hl : l.length≤1000000) : Ev (fun k=>grain_Split.f k T K M g l) (chunks g l):=by
 simp only [grain_Split.f]
 exact split_loop T K M g hg hg8 l hl l.length 0 [] (by omega) (by simp) (by omega)
end Go.Proofs.Ythoelihgpkffiaa.P

/- Marks: the key of each granule's first row. -/
namespace Go.Proofs.Ythoelihgpkffiaa.P
open Go.RowKit Go.Proofs.YthoelihgpkffiaaW.PrintWords Go.Proofs.YthoelihgpkffiaaW.PrintLast Go.Proofs.YthoelihgpkffiaaW.PrintMore
set_option linter.unusedVariables false
set_option linter.unusedSimpArgs false
abbrev rdRR (l : List (List (List XV))) (i : Int) : List (List XV):=rd_L4 l i
theorem rdRR_lt (l : List (List (List XV))) (i : Nat) (h : i < l.length) : rd_L4 l i=l[i]:=by unfold rd_L4;simp [List.getD,h]
theorem key_f (T : List Int) (K : Nat) (M G : Int) (r : List XV) (hK : K≤r.length) (hK2 : K≤1000000) : grain_Key.f T K M G r=some (r.take K):=by
 have h1 : ([] : List XV).length + (r.take K).length < 5864062014805:=by rw [List.length_take];simp;omega
 simp [grain_Key.f,api_Value.f]
 omega
theorem headD_mem {c : List (List XV)} (h : c≠[]) : c.headD [] ∈ c:=by
 cases c with
 | nil=>exact absurd rfl h
 | cons a b=>simp
theorem rdR_head (c : List (List XV)) (h : c≠[]) : rd_L3 c 0=c.headD []:=by
 cases c with
 | nil=>exact absurd rfl h
 | cons a b=>rfl
theorem marks_loop (T : List Int) (K : Nat) (M G : Int) (hK2 : K≤1000000) (cs : List (List (List XV))) (hc : cs.length≤1000000) (hne : ∀ c ∈ cs,c≠[]∧∀ r ∈ c,K≤r.length) : ∀ (d i : Nat) (acc : List (List XV)),i + d=cs.length→acc.length=i→Ev (fun k=>grain_Marks.l0 k acc cs cs.length i T K M G) (acc ++ (cs.drop i).map (markOf K))
 | 0,i,acc,hi,ha=>by
  refine Ev.succ ?_
  simp only [grain_Marks.l0]
  rw [List.drop_of_length_le (by omega)]
  exact Ev.neg (by omega) ((Ev.now _).eq (by simp))
 | d + 1,i,acc,hi,ha=>by
  have h : i < cs.length:=by omega
  refine Ev.succ ?_
  simp only [grain_Marks.l0]
  obtain ⟨n1,n2⟩:=hne _ (List.getElem_mem h)
  rw [rdRR_lt cs i h,List.drop_eq_getElem_cons h]
  have hp:=List.length_pos_iff.mpr n1
  have e0 : rd_L3 cs[i] 0=cs[i].headD []:=rdR_head _ n1
  have hm : cs[i].headD [] ∈ cs[i]:=headD_mem n1
  rw [e0]
  simp (disch:=omega) only [w64]
  refine Ev.pos (by omega) (Ev.pos (by omega) (Ev.pos (by omega) (Ev.pos (by omega) (Ev.bindc (key_f T K M G _ (n2 _ hm) hK2) (Ev.pos (by omega) ?_)))))
  refine (marks_loop T K M G hK2 cs hc hne d (i + 1) (acc ++ [(cs[i].headD []).take K]) (by omega) (by simp;omega)).eq ?_
  rw [List.map_cons,List.append_assoc]
  rfl
theorem marks_ev (T : List Int) (K : Nat) (M : Int) (g : Nat) (hg : 1≤g) (hg8 : g≤1000000) (hK2 : K≤1000000) (l : List (List XV)) (hl : l.length≤1000000) (hr : ∀ r ∈ l,K≤r.length) : Ev (fun k=>grain_Marks.f k T K M g l) ((chunks g l).map (markOf K)):=by
 simp only [grain_Marks.f]
 have hc:=chunks_length hg l.length l (Nat.le_refl _)
 have:=marks_loop T K M g hK2 (chunks g l) (by omega) (fun c h=>⟨(chunks_mem hg _ l (Nat.le_refl _) c h).1,fun r hx=>hr r ((chunks_mem hg _ l (Nat.le_refl _) c h).2.2 r hx)⟩) (chunks g l).length 0 [] (by omega) rfl
 exact Ev.bind (split_ev T K M g hg hg8 l hl) (by simpa using this)
end Go.Proofs.Ythoelihgpkffiaa.P

/- The document's Compare of rows tells the same order. -/
namespace Go.Proofs.Ythoelihgpkffiaa.P
open Go.RowKit Go.Proofs.YthoelihgpkffiaaW.PrintWords Go.Proofs.YthoelihgpkffiaaW.PrintLast Go.Proofs.YthoelihgpkffiaaW.PrintMore
set_option linter.unusedVariables false
set_option linter.unusedSimpArgs false
end Go.Proofs.Ythoelihgpkffiaa.P

/- Rows that fit, as far as they go: their order. -/
namespace Go.Proofs.Ythoelihgpkffiaa.P
open Go.RowKit Go.Proofs.YthoelihgpkffiaaW.PrintWords Go.Proofs.YthoelihgpkffiaaW.PrintLast Go.Proofs.YthoelihgpkffiaaW.PrintMore
set_option linter.unusedVariables false
set_option linter.unusedSimpArgs false
structure RowOk (T : List Int) (a : List XV) : Prop where
 len : a.length≤T.length
 fit : FitAt T a a.length 0
 gr : GR a
theorem FitAt.mono {T : List Int} {a : List XV} {m m' : Nat} (h : FitAt T a m 0) (hm : m'≤m) : FitAt T a m' 0:=fun j h1 h2=>h j h1 (by omega)
theorem RowOk.take {T : List Int} {a : List XV} (h : RowOk T a) (n : Nat) : RowOk T (a.take n):=by
 have hl : (a.take n).length≤a.length:=by rw [List.length_take];omega
 refine ⟨by have:=h.len;omega,fun j h1 h2=>?_,fun v hv=>h.gr v (List.mem_of_mem_take hv)⟩
 rw [List.length_take] at h2
 rw [rdV_take a n j (by omega)]
 exact h.fit j h1 (by omega)
theorem cmpRow_anti (T : List Int) (K : Int) (a b : List XV) : cmpRow T K b a=- cmpRow T K a b:=by
 unfold cmpRow
 rw [cmpFrom_anti,show min (min (min K.toNat T.length) b.length) a.length=min (min (min K.toNat T.length) a.length) b.length by omega]
theorem cmpRow_self (T : List Int) (K : Int) (a : List XV) : cmpRow T K a a=0:=by have:=cmpRow_anti T K a a;omega
structure Full (T : List Int) (K : Int) (a : List XV) : Prop where
 ok : RowOk T a
 key : min K.toNat T.length≤a.length
def InOrd (T : List Int) (K : Int) (l : List (List XV)) : Prop:=l.Pairwise (fun a b=>cmpRow T K a b≤0)
theorem InOrd.at {T : List Int} {K : Int} {l : List (List XV)} (h : InOrd T K l) {i j : Nat} (hij : i≤j) (hj : j < l.length) : cmpRow T K (rdR l i) (rdR l j)≤0:=by
 rw [show rdR l i=l[i] from rdR_lt l i (by omega),show rdR l j=l[j] from rdR_lt l j hj]
 rcases Nat.eq_or_lt_of_le hij with e|h1
 ·subst e;rw [cmpRow_self];omega
 ·exact List.pairwise_iff_getElem.mp h i j (by omega) hj h1
end Go.Proofs.Ythoelihgpkffiaa.P

/- The marks of rows in order are in order. -/
namespace Go.Proofs.Ythoelihgpkffiaa.P
open Go.RowKit Go.Proofs.YthoelihgpkffiaaW.PrintWords Go.Proofs.YthoelihgpkffiaaW.PrintLast Go.Proofs.YthoelihgpkffiaaW.PrintMore
set_option linter.unusedVariables false
set_option linter.unusedSimpArgs false
theorem chunks_get {α : Type} {g : Nat} (hg : 1≤g) : ∀ (n : Nat) (l : List α),l.length≤n→∀ c,(chunks g l)[c]?=if c * g < l.length then some ((l.drop (c * g)).take g) else none
 | 0,l,h,c=>by rw [List.length_eq_zero_iff.mp (by omega : l.length=0),chunks_nil];simp
 | n + 1,l,h,c=>by
  by_cases e : l=[]
  ·rw [e,chunks_nil];simp
  ·rw [chunks_step hg e]
   have h2:=List.length_pos_iff.mpr e
   cases c with
   | zero=>rw [if_pos (by omega)];simp
   | succ c =>
    rw [List.getElem?_cons_succ,chunks_get hg n (l.drop g) (by rw [List.length_drop];omega) c,List.length_drop,List.drop_drop]
    have e1 : (c + 1) * g=g + c * g:=by rw [Nat.succ_mul];omega
    rw [e1]
    by_cases q : c * g < l.length - g
    ·rw [if_pos q,if_pos (by omega)]
    ·rw [if_neg q,if_neg (by omega)]
def marksR (K g : Nat) (l : List (List XV)) : List (List XV):=(chunks g l).map (markOf K)
end Go.Proofs.Ythoelihgpkffiaa.P

/- Columns of rows are these rows again; granules, one behind the other, are the rows; and a mark is the key of its granule's first row: the plain law. -/
namespace Go.Proofs.Ythoelihgpkffiaa.Pure
open Go.RowKit Go.Proofs.Ythoelihgpkffiaa.P Go.Proofs.YthoelihgpkffiaaW.PrintWords Go.Proofs.YthoelihgpkffiaaW.PrintLast
set_option linter.unusedVariables false
theorem shown_ev : Ev (fun k=>thresherlaw10_shown.f k) true:=Ev.of thresherlaw10_shown.mono (k:=10) (by kernel_rfl)
theorem colF_whole (c : Nat) : ∀ (l : List (List XV)) (acc : List XV),(∀ r ∈ l,c < r.length)→colF c l acc=acc ++ l.map fun r=>rdV r c
 | [],acc,_=>by simp [colF]
 | r :: l,acc,h=>by
  have h1:=h r List.mem_cons_self
  rw [colF,if_pos ⟨by omega,by omega⟩,colF_whole c l _ (fun x hx=>h x (List.mem_cons_of_mem _ hx))]
  simp
def colsR (l : List (List XV)) (n : Nat) : List (List XV):=(List.range n).map fun (c : Nat)=>l.map fun r=>rdV r c
theorem colsR_length (l : List (List XV)) (n : Nat) : (colsR l n).length=n:=by simp [colsR]
theorem colsR_succ (l : List (List XV)) (n : Nat) : colsR l (n + 1)=colsR l n ++ [l.map fun r=>rdV r n]:=by simp [colsR,List.range_succ]
theorem tabR_colsR (l : List (List XV)) (n : Nat) (h : ∀ r ∈ l,r.length=n) : tabR (colsR l n) l.length=l:=by
 unfold tabR colsR
 apply List.ext_getElem
 ·simp
 ·intro j h1 h2
  have hn:=h _ (List.getElem_mem h2)
  rw [List.getElem_map,List.getElem_range,List.map_map]
  apply List.ext_getElem
  ·simp [hn]
  ·intro c c1 c2
   rw [List.getElem_map,List.getElem_range]
   show rdV (l.map fun r=>rdV r c) j=_
   rw [show rdV (l.map fun r=>rdV r c) j=_ from rdV_lt _ j (by rw [List.length_map];exact h2),List.getElem_map]
   exact rdV_lt _ c c2
theorem count_eq {cs len g : Nat} (hg : 1≤g) (h1 : len≤cs * g) (h2 : cs=0 ∨ (cs - 1) * g < len) : (len + g - 1) / g=cs:=by
 apply Nat.div_eq_of_lt_le
 ·cases cs with
  | zero=>simp
  | succ k =>
   rw [Nat.succ_mul]
   rcases h2 with h2|h2
   ·omega
   ·rw [Nat.add_sub_cancel] at h2
    omega
 ·rw [Nat.succ_mul]
  omega
theorem chunks_lt {α : Type} {g : Nat} (hg : 1≤g) (l : List α) (c : Nat) : c < (chunks g l).length ↔ c * g < l.length:=by
 have e:=chunks_get hg l.length l (Nat.le_refl _) c
 constructor
 ·intro h
  rw [List.getElem?_eq_getElem h] at e
  by_cases q : c * g < l.length
  ·exact q
  ·rw [if_neg q] at e;exact absurd e (by simp)
 ·intro h
  rw [if_pos h] at e
  exact (List.getElem?_eq_some_iff.mp e).1
theorem chunks_count {α : Type} {g : Nat} (hg : 1≤g) (l : List α) : (l.length + g - 1) / g=(chunks g l).length:=by
 apply count_eq hg
 ·exact Nat.le_of_not_lt fun h=>Nat.lt_irrefl _ ((chunks_lt hg l (chunks g l).length).mpr h)
 ·by_cases h : (chunks g l).length=0
  ·exact Or.inl h
  ·exact Or.inr ((chunks_lt hg l _).mp (by omega))
section
variable (T : List Int) (n : Nat) (M : Int) (g : Nat) (hg : 1≤g) (hg8 : g≤8) (l : List (List XV)) (hl : l.length≤60) (hr : ∀ r ∈ l,n≤r.length∧r.length≤8)
include hg hg8 hl hr
theorem back_l1 : ∀ (d i : Nat),i + d=(chunks g l).length→Ev (fun k=>thresherlaw10_GrainBack.l1 k true l (chunks g l) ((chunks g l).map (markOf n)) (l.take (i * g)) i T n M g) true
 | 0,i,hi=>by
  refine Ev.succ ?_
  simp only [thresherlaw10_GrainBack.l1]
  have h1 : ¬ i * g < l.length:=fun h=>by have:=(chunks_lt hg l i).mpr h;omega
  rw [List.take_of_length_le (by omega)]
  exact Ev.neg (by omega) (Ev.bind (rows_ev l l (by omega) (fun r h=>by have:=(hr r h).2;omega)) (Ev.pos (by simp) ((Ev.now _).eq (by simp))))
 | d + 1,i,hi=>by
  have h : i < (chunks g l).length:=by omega
  have hcg:=(chunks_lt hg l i).mp h
  have hcl:=chunks_length hg l.length l (Nat.le_refl _)
  have e:=chunks_get hg l.length l (Nat.le_refl _) i
  rw [if_pos hcg] at e
  have e1 : (chunks g l)[i]=(l.drop (i * g)).take g:=(List.getElem?_eq_some_iff.mp e).2
  clear e
  have e2 : rd_L4 (chunks g l) i=(l.drop (i * g)).take g:=(rdRR_lt _ i h).trans e1
  have hlen : ((l.drop (i * g)).take g).length=min g (l.length - i * g):=by rw [List.length_take,List.length_drop]
  have hmore : i + 1 < (chunks g l).length→((l.drop (i * g)).take g).length=g:=fun q=>by
   have:=(chunks_lt hg l (i + 1)).mp q
   rw [Nat.succ_mul] at this
   omega
  have hacc : l.take (i * g) ++ (l.drop (i * g)).take g=l.take ((i + 1) * g):=by rw [Nat.succ_mul,List.take_add]
  have next:=back_l1 d (i + 1) (by omega)
  rw [← hacc] at next
  obtain ⟨c,hc⟩ : ∃ c,(l.drop (i * g)).take g=c:=⟨_,rfl⟩
  have hr0 : c[0]?=some l[i * g]:=by rw [← hc,List.getElem?_take,if_pos (by omega),List.getElem?_drop,Nat.add_zero,List.getElem?_eq_getElem hcg]
  rw [hc] at e1 e2 hlen hmore next
  have hc1 : 0 < c.length:=by omega
  have e3 : rd_L3 c 0=l[i * g]:=(rdR_lt c 0 hc1).trans (by rw [List.getElem?_eq_getElem hc1] at hr0;exact Option.some.inj hr0)
  have hh : c.headD []=l[i * g]:=by
   cases c with
   | nil=>simp at hc1
   | cons a b=>exact e3
  have hm : rd_L3 ((chunks g l).map (markOf n)) i=l[i * g].take n:=by
   rw [rdR_lt _ i (by rw [List.length_map];exact h),List.getElem_map,e1]
   unfold markOf
   rw [hh]
  obtain ⟨g1,g2⟩:=hr _ (List.getElem_mem hcg)
  have hml : ((chunks g l).map (markOf n)).length=(chunks g l).length:=List.length_map _
  have htk : (l[i * g].take n).length≤8:=by rw [List.length_take];omega
  have hw : l.length≤60:=hl
  have hacl : (l.take (i * g)).length≤60:=by rw [List.length_take];omega
  have J : Ev (fun k=>thresherlaw10_GrainBack.j3 k true l (chunks g l) ((chunks g l).map (markOf n)) (l.take (i * g)) i (decide ((l[i * g].length : Int) < n)) T n M g) true:=by
   refine Ev.succ ?_
   simp only [thresherlaw10_GrainBack.j3]
   rw [e2,e3,hm,Int.toNat_natCast]
   refine Ev.neg (by simp;omega) (Ev.pos (by omega) (Ev.pos (by omega) (Ev.pos (by omega) (Ev.pos (by omega) (Ev.pos (by omega) (Ev.pos (by omega) ?_))))))
   refine Ev.bind (one_ev _ _ (by omega)) (Ev.bindc (key_f T n M g _ g1 (by omega)) (Ev.bind (one_ev _ _ (by omega)) ?_))
   refine Ev.pos (by simp) (Ev.pos (by simp) (Ev.pos (by omega) ?_))
   rw [w64 (by omega) (by omega)]
   exact next
  refine Ev.succ ?_
  simp only [thresherlaw10_GrainBack.l1]
  rw [e2,e3,w64 (by omega) (by omega)]
  refine Ev.pos (by omega) (Ev.pos (by omega) (Ev.neg (by omega) (Ev.neg (by omega) ?_)))
  by_cases q : (i : Int) < ((chunks g l).length : Int) - 1
  ·have hq:=hmore (by omega)
   exact Ev.pos q (Ev.pos (by omega) (Ev.pos (by omega) J))
  ·exact Ev.neg q (Ev.pos (by omega) J)
end
theorem back_l0 (T : List Int) (n : Nat) (M : Int) (g : Nat) (hg : 1≤g) (hg8 : g≤8) (hT : T.length≤8) (hT1 : 1≤T.length) (hn : n≤8) (l : List (List XV)) (hl : l.length≤60) (hr : ∀ r ∈ l,n≤r.length∧r.length=T.length) : ∀ (d i : Nat),i + d=T.length→Ev (fun k=>thresherlaw10_GrainBack.l0 k true l (colsR l i) i T n M g) true
 | 0,i,hi=>by
  refine Ev.succ ?_
  simp only [thresherlaw10_GrainBack.l0]
  obtain rfl : i=T.length:=by omega
  have hne : colsR l T.length≠[]:=fun h=>by have:=colsR_length l T.length;rw [h,List.length_nil] at this;omega
  have hrow:=(grows_ev (colsR l T.length) l.length (by omega) (by rw [colsR_length];omega) hne (fun c h=>by unfold colsR at h;obtain ⟨q,_,rfl⟩:=List.mem_map.mp h;rw [List.length_map])).eq (by rw [tabR_colsR l T.length (fun r h=>(hr r h).2)])
  have hsame:=rows_ev l l (by omega) (fun r h=>by have:=(hr r h).2;omega)
  have hcl:=chunks_length hg l.length l (Nat.le_refl _)
  have hcount:=chunks_count hg l
  have hm:=marks_ev T n M g hg (by omega) (by omega) l (by omega) (fun r h=>(hr r h).1)
  refine Ev.neg (by omega) (Ev.bind hrow (Ev.bind hsame (Ev.bind (split_ev T n M g hg (by omega) l (by omega)) (Ev.bind hm (Ev.bind (Ev.now _) ?_)))))
  refine Ev.pos rfl (Ev.pos (by simp) (Ev.pos (by rw [List.length_map]) (Ev.neg (by omega) (Ev.succ ?_))))
  simp only [thresherlaw10_GrainBack.j1]
  have e : wrap64 (Int.tdiv (wrap64 (wrap64 ((l.length : Int) + (g : Int)) - 1)) (g : Int))=((chunks g l).length : Int):=by
   rw [w64 (x:=(l.length : Int) + (g : Int)) (by omega) (by omega),w64 (x:=(l.length : Int) + (g : Int) - 1) (by omega) (by omega),show (l.length : Int) + (g : Int) - 1=((l.length + g - 1 : Nat) : Int) by omega,← Int.ofNat_tdiv,hcount,w64 (by omega) (by omega)]
  rw [e]
  clear e
  refine Ev.neg (by simp) ?_
  have:=back_l1 T n M g hg hg8 l hl (fun r h=>⟨(hr r h).1,by have:=(hr r h).2;omega⟩) (chunks g l).length 0 (by omega)
  rw [Nat.zero_mul,List.take_zero] at this
  exact this
 | d + 1,i,hi=>by
  refine Ev.succ ?_
  simp only [thresherlaw10_GrainBack.l0]
  have hc:=(col_ev l i (by omega)).eq (colF_whole i l [] (fun r h=>by have:=(hr r h).2;omega))
  rw [List.nil_append] at hc
  have next:=back_l0 T n M g hg hg8 hT hT1 hn l hl hr d (i + 1) (by omega)
  rw [colsR_succ] at next
  have hcl:=colsR_length l i
  refine Ev.pos (by omega) (Ev.bind hc (Ev.pos (by omega) ?_))
  rw [w64 (by omega) (by omega)]
  exact next
theorem GrainBack : thresherlaw10_GrainBack.PureG:=by
 intro x l hx ⟨hl,hl2⟩
 obtain ⟨T,K,M,G,hmade,hS⟩:=shape_ev hx
 obtain ⟨n,rfl⟩ : ∃ n : Nat,K=n:=⟨K.toNat,by have:=hS.k1;omega⟩
 obtain ⟨g,rfl⟩ : ∃ g : Nat,G=g:=⟨G.toNat,by have:=hS.g1;omega⟩
 have g1:=hS.g1
 have g8:=hS.g8
 have k1:=hS.k1
 have kn:=hS.kn
 have n8:=hS.n8
 have hf:=fits_ev T n M g l 60 (by omega) (by omega)
 obtain ⟨rows,hrows⟩ : ∃ rows,(l.take 60).map (fitRow T)=rows:=⟨_,rfl⟩
 rw [hrows] at hf
 have r1 : rows.length≤60:=by rw [← hrows,List.length_map,List.length_take];omega
 have r2 : ∀ r ∈ rows,n≤r.length∧r.length=T.length:=by
  intro r h
  rw [← hrows] at h
  obtain ⟨c,_,rfl⟩:=List.mem_map.mp h
  rw [fitRow_length]
  omega
 apply Ev.rounds
 simp only [thresherlaw10_GrainBack.f,thresherlaw10_made.f]
 refine Ev.bind shown_ev (Ev.bind (Ev.bind hmade (Ev.now _)) (Ev.bind hf ?_))
 exact back_l0 T n M g (by omega) (by omega) (by omega) (by omega) (by omega) rows r1 r2 T.length 0 (by omega)
end Go.Proofs.Ythoelihgpkffiaa.Pure

namespace Go.Proofs.Ythoelihgpkffiaa.grainBack
open Go.ChangeShapes Go.WideShapes Go.ChangeAt Go.RowKit Go.Proofs.Ythoelihgpkffiaa.P Go.Proofs.YthoelihgpkffiaaW.PrintWords
set_option linter.unusedVariables false
set_option linter.unusedSimpArgs false
theorem own : ownKnob Try.prog.godebug=none:=by kernel_rfl
theorem laidOut : laidOutB Try.prog=true:=by kernel_rfl
set_option maxRecDepth 100000 in
theorem lifted (os : Os) (started : os.Started) (H : Type) (enc : TypeId × Value→H) :
  ReturnsInHanded {} Try.checked os 6 .any (Rows.grainBackSpec.pre6 enc Try.prog Try.f6 Rows.grainBackRow.domain false) (Rows.grainBackSpec.post enc Try.prog Try.f6 false true false false):=by
 refine returnsInHanded_of_change_sized (C:=Try.checked) own started (by kernel_rfl) Try.func6
  (ChangeSpec.witness6 (enc:=enc) (C:=Try.checked) false ⟨#[],#[.agg #[.int .u8 0,.int .u8 0,.int .u8 0,.int .u8 0,.int .u8 0,.int .u8 0,.int .u8 0,.int .u8 0,.int .u8 0,.int .u8 0,.int .u8 0,.int .u8 0],.slice none 0 0],[]⟩ 8 (by kernel_rfl) (by kernel_rfl) (by kernel_rfl) (by kernel_rfl)) ?_
 intro W base args ds gs before hval0 hW hcnd hsz0 _
 have hval : ∀ (j : Nat) t v,Try.f6.params[j]?=some t→args[j]?=some v→Value.okWide Try.prog W .any base t v:=hval0
 have hW':=hW
 obtain ⟨p,q,hA0,hV,rfl,hfz,hnd⟩:=hW
 have hA : DataW.TrodAll enc Try.prog W 0 (fun _=>true) true Try.f6.params.toList args.toList ds p:=hA0
 rw [Try.params6] at hA hval
 obtain ⟨v0,vs0,d0,ds0,p0,q0,hargs,rfl,rfl,h0,r0⟩:=trodAll_cons hA
 obtain ⟨v1,vs1,d1,ds1,p1,q1,rfl,rfl,rfl,h1,r1⟩:=trodAll_cons r0
 obtain ⟨rfl,rfl,rfl⟩:=trodAll_nil r1
 obtain rfl : args=#[v0,v1]:=by cases args;simp_all
 obtain ⟨rfl,rfl⟩:=trodVars_none hV
 have lt0 : ∀ x ∈ p0,x.block < W.heap.size:=by obtain ⟨m,hm⟩:=h0;exact DataW.trod_lt m _ _ _ hm
 obtain ⟨x0,K0,g0⟩:=(op24).arg h0
 obtain ⟨cs0,rfl⟩:=okWide_agg Try.underlying24 (hval 0 24 v0 rfl rfl)
 have e0:=k24_open K0
 replace e0:=agg_of e0
 have lt1 : ∀ x ∈ p1,x.block < W.heap.size:=by obtain ⟨m,hm⟩:=h1;exact DataW.trod_lt m _ _ _ hm
 obtain ⟨x1,K1,g1⟩:=((opens_slice Try.underlying25 (by kernel_rfl) (opens_slice Try.underlying38 (by kernel_rfl) op45))).arg h1
 obtain ⟨a1,len1,cap1,rfl⟩:=okWide_slice Try.underlying25 (hval 1 25 v1 rfl rfl)
 obtain ⟨A1,c1,e1,hl1,hr1⟩:=K1
 simp [Value.cells] at e1
 obtain ⟨rfl,rfl,rfl⟩:=e1
 obtain ⟨k,hk⟩:=Pure.GrainBack x0 x1 g0 g1
 have call : Calls Try.prog 6 #[.agg cs0,.slice a1 x1.length cap1] W fun e W'=>e=.returned (.bool true)∧Below W.heap.size W W':=by
  rw [e0]
  refine (thresherlaw10_GrainBack.calls k _ _ _ _ _ _ _ _ _ _ _ _ _ _ _ true W hr1 hl1 hk).mono ?_
  rintro e w' ⟨rfl,hd⟩
  exact ⟨rfl,hd⟩
 refine call.mono fun e W' ⟨he,bel⟩=>?_
 subst he
 exact ⟨_,rfl,_,_,_,[],_,[],hW',trodAll_mk1 (shut_bool Try.underlying4 _),(trodAll_cons_mk (Below.trod laidOut (by kernel_rfl) (of_decide_eq_true (by kernel_rfl)) h0 bel lt0) (trodAll_cons_mk (Below.trod laidOut (by kernel_rfl) (of_decide_eq_true (by kernel_rfl)) h1 bel lt1) trodAll_mk0)),rfl,bel.frame _,fun h=>by cases h⟩
theorem over : Rows.grainBackRow.holds Try.pinned (OpenSpec.ofChange Rows.grainBackSpec) :=
 OpenClaim.holds_of_wide 6 Try.f6 rfl rfl rfl rfl rfl rfl rfl ⟨rfl,rfl,rfl,rfl,rfl⟩ rfl rfl rfl rfl rfl (by kernel_rfl) Try.func6 (by kernel_rfl)
  (of_decide_eq_true (by kernel_rfl)) (by unfold Func.isWrapper;first|(rw [if_pos (by decide +kernel)];kernel_rfl)|(rw [if_neg (by decide +kernel)];exact ⟨rfl,rfl⟩))
  (fun os started H enc _=>lifted os started H enc)
theorem proved : Rows.GrainBackSaid:=over
#print axioms proved
end Go.Proofs.Ythoelihgpkffiaa.grainBack
namespace Go.Proofs.Ythoelihgpkffiaa
theorem grainBack_holds : Rows.GrainBackSaid:=grainBack.proved
end Go.Proofs.Ythoelihgpkffiaa

