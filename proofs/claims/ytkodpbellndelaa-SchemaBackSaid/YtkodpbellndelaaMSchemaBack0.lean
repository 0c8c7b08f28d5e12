/- The row of SchemaBack. Merged: SSchemaBack, XBase, XMade, XShown04, XVar, XShape, PureSchemaBack, RSchemaBack. -/
import Derived.Test.YtkodpbellndelaaQSchemaBackPx9
import Derived.Test.YtkodpbellndelaaQSchemaBackO
import Derived.Test.YtkodpbellndelaaQSchemaBackPx0
import Derived.Test.YtkodpbellndelaaQSchemaBackHBase
import Derived.Test.YtkodpbellndelaaQSchemaBackPx3
import Derived.Test.YtkodpbellndelaaQSchemaBackPx6
import Derived.Test.YtkodpbellndelaaQSchemaBackPx2
import Derived.Test.YtkodpbellndelaaRows
import Derived.WalkKit
import Derived.ProofKit
import Derived.OpenShut
import Derived.ShutString
import Derived.ChangeOld
import Derived.Below
import Derived.SizedLaws
namespace Go.Proofs.Ytkodpbellndelaa.P
open Go.RowKit Go.Proofs.YtkodpbellndelaaW.PrintWords
def thresherlaw04_SchemaBack.PureG : Prop:=∀ (x0 : S24) (x1 : Int) (x2 : List Int),gd24 x0→(Lit.int .u16 x1).wf=true→(x2.length≤maxLen∧∀ a ∈ x2,(Lit.int .u8 a).wf=true)→∃ k,thresherlaw04_SchemaBack.f k x0.f0.f0 x0.f0.f1 x0.f0.f2 x0.f0.f3 x0.f0.f4 x0.f0.f5 x0.f0.f6 x0.f0.f7 x0.f1 x0.f2 x0.f3 x0.f4 x1 x2=some true
end Go.Proofs.Ytkodpbellndelaa.P

/- Words of the laws about rows. -/
namespace Go.Proofs.Ytkodpbellndelaa.P
open Go.RowKit Go.Proofs.YtkodpbellndelaaW.PrintWords Go.Proofs.YtkodpbellndelaaW.PrintLast Go.Proofs.YtkodpbellndelaaW.PrintMore
set_option linter.unusedVariables false
set_option linter.unusedSimpArgs false
abbrev XV:=S34
abbrev rdV (l : List XV) (i : Int) : XV:=rd_T34 l i
abbrev rdR (l : List (List XV)) (i : Int) : List XV:=rd_L6 l i
theorem rd_lt (l : List Int) (i : Nat) (h : i < l.length) : rd l i=l[i]:=by unfold rd;simp [List.getD,h]
structure Sch (T : List Int) (K M G : Int) : Prop where
 n1 : 1≤T.length
 n8 : T.length≤8
 ty : ∀ t ∈ T,1≤t∧t≤3
 k1 : 1≤K
 kn : K≤T.length
 m1 : 1≤M
 m3 : M≤3
 g1 : 1≤G
 g8 : G≤8
def fitT (t : Int) (v : XV) : Bool:=if t=1 ∨ t=2 then v.f1.toList == ([] : List UInt8) else if t=3 then (if v.f0=0 then decide ((v.f1.size : Int)≤60) else false) else false
def rowOkB (T : List Int) (r : List XV) : Bool:=decide (T.length=r.length) && (List.range T.length).all fun (i : Nat)=>fitT (rd T i) (rdV r i)
def fit1 (t : Int) (v : XV) : XV:=if t=3 then ⟨0,if (v.f1.size : Int) > 60 then v.f1.extract 0 60 else v.f1⟩ else ⟨v.f0,⟨#[]⟩⟩
def fitRow (T : List Int) (r : List XV) : List XV:=(List.range' 0 T.length).map fun (i : Nat)=>fit1 (rd T i) (rdV r i)
theorem bytes_eq {a b : ByteArray} (h : a.toList=b.toList) : a=b:=by
 rw [ByteArray.toList_eq,ByteArray.toList_eq] at h
 exact ByteArray.ext (Array.toList_inj.mp h)
theorem XV.same {a b : XV} : (!(a.f0 == b.f0) || (!(a.f1.toList == b.f1.toList)))=true ↔ a≠b:=by
 constructor
 ·rintro h rfl
  simp at h
 ·intro h
  by_cases h0 : a.f0=b.f0
  ·by_cases h1 : a.f1.toList=b.f1.toList
   ·exact absurd (by cases a;cases b;simp only at h0 h1;rw [h0,bytes_eq h1]) h
   ·simp [h1]
  ·simp [h0]
instance : DecidableEq XV:=fun a b=>if h : (!(a.f0 == b.f0) || (!(a.f1.toList == b.f1.toList)))=true then isFalse (XV.same.mp h) else isTrue (Classical.byContradiction fun e=>h (XV.same.mpr e))
end Go.Proofs.Ytkodpbellndelaa.P

/- A schema made of any numbers. -/
namespace Go.Proofs.Ytkodpbellndelaa.P
open Go.RowKit Go.Proofs.YtkodpbellndelaaW.PrintWords Go.Proofs.YtkodpbellndelaaW.PrintLast Go.Proofs.YtkodpbellndelaaW.PrintMore
set_option linter.unusedVariables false
set_option linter.unusedSimpArgs false
def U8 (x : Int) : Prop:=0≤x∧x≤255
theorem made_one {x : Int} {m : Int} (h : U8 x) (hm : 0 < m) (hm2 : m≤1000) : wrap64 (1 + Int.tmod (wrap64 x) m)=1 + x % m∧1≤1 + x % m∧1 + x % m≤m:=by
 obtain ⟨h0,h1⟩:=h
 have e1 : wrap64 x=x:=w64 (by omega) (by omega)
 have h2:=Int.emod_nonneg x (show m≠0 by omega)
 have h3:=Int.emod_lt_of_pos x hm
 rw [e1,Int.tmod_eq_emod_of_nonneg h0]
 exact ⟨w64 (by omega) (by omega),by omega,by omega⟩
theorem made_loop (x0 x1 x2 x3 x4 x5 x6 x7 K M G : Int) (hx : ∀ x ∈ [x0,x1,x2,x3,x4,x5,x6,x7],U8 x) (n : Nat) (hn : n≤8) : ∀ (d i : Nat) (T : List Int),i + d=n→T.length=i→(∀ t ∈ T,1≤t∧t≤3)→∃ T',Ev (fun k=>thresherref04_Made.l0 k n i x0 x1 x2 x3 x4 x5 x6 x7 T K M G) (T',K,M,G)∧T'.length=n∧∀ t ∈ T',1≤t∧t≤3
 | 0,i,T,hi,hT,ht=>by
  refine ⟨T,Ev.succ ?_,by omega,ht⟩
  simp only [thresherref04_Made.l0]
  exact Ev.neg (by omega) (Ev.now _)
 | d + 1,i,T,hi,hT,ht=>by
  have hr : U8 (rd [x0,x1,x2,x3,x4,x5,x6,x7] i):=by
   rw [rd_lt _ i (by simp;omega)]
   exact hx _ (List.getElem_mem _)
  obtain ⟨e,l1,l2⟩:=made_one (m:=3) hr (by omega) (by omega)
  obtain ⟨T',h1,h2,h3⟩:=made_loop x0 x1 x2 x3 x4 x5 x6 x7 K M G hx n hn d (i + 1) (T ++ [1 + rd [x0,x1,x2,x3,x4,x5,x6,x7] i % 3]) (by omega) (by simp;omega) (by
   intro t h
   rcases List.mem_append.mp h with h|h
   ·exact ht t h
   ·rw [List.mem_singleton.mp h];exact ⟨l1,l2⟩)
  refine ⟨T',Ev.succ ?_,h2,h3⟩
  simp only [thresherref04_Made.l0]
  rw [e]
  clear e
  simp (disch:=omega) only [w64]
  exact Ev.pos (by omega) (Ev.pos (by omega) (Ev.pos (by omega) (Ev.pos (by omega) h1)))
theorem made_ev (x0 x1 x2 x3 x4 x5 x6 x7 a b c d : Int) (h0 : U8 x0) (h1 : U8 x1) (h2 : U8 x2) (h3 : U8 x3) (h4 : U8 x4) (h5 : U8 x5) (h6 : U8 x6) (h7 : U8 x7) (ha : U8 a) (hb : U8 b) (hc : U8 c) (hd : U8 d) : ∃ T K M G,Ev (fun k=>thresherref04_Made.f k x0 x1 x2 x3 x4 x5 x6 x7 a b c d) (T,K,M,G)∧Sch T K M G:=by
 obtain ⟨ea,a1,a2⟩:=made_one (m:=8) ha (by omega) (by omega)
 obtain ⟨n,hn⟩ : ∃ n : Nat,1 + a % 8=n:=⟨(1 + a % 8).toNat,by omega⟩
 obtain ⟨eb,b1,b2⟩:=made_one (m:=1 + a % 8) hb (by omega) (by omega)
 obtain ⟨ec,c1,c2⟩:=made_one (m:=3) hc (by omega) (by omega)
 obtain ⟨ed,d1,d2⟩:=made_one (m:=8) hd (by omega) (by omega)
 simp only [thresherref04_Made.f,ea,eb,ec,ed]
 clear ea eb ec ed
 rw [hn] at b1 b2 a1 a2 ⊢
 obtain ⟨T,e,l,t⟩:=made_loop x0 x1 x2 x3 x4 x5 x6 x7 (1 + b % n) (1 + c % 3) (1 + d % 8) (by
  intro x hx
  simp only [List.mem_cons,List.not_mem_nil,or_false] at hx
  rcases hx with rfl|rfl|rfl|rfl|rfl|rfl|rfl|rfl <;> assumption) n (by omega) n 0 [] (by omega) rfl (by simp)
 exact ⟨T,_,_,_,Ev.neg (by omega) e,⟨by omega,by omega,t,b1,by omega,c1,c2,d1,d2⟩⟩
end Go.Proofs.Ytkodpbellndelaa.P

/- The document's example of a schema. -/
namespace Go.Proofs.Ytkodpbellndelaa.P
open Go.RowKit Go.Proofs.YtkodpbellndelaaW.PrintWords Go.Proofs.YtkodpbellndelaaW.PrintLast Go.Proofs.YtkodpbellndelaaW.PrintMore
theorem shown04_ev : Ev (fun k=>thresherlaw04_shown.f k) true:=Ev.of thresherlaw04_shown.mono (k:=12) (by kernel_rfl)
end Go.Proofs.Ytkodpbellndelaa.P

/- Numbers as bytes: what num.Var and num.PutVar say of small numbers, and of any bytes. -/
namespace Go.Proofs.Ytkodpbellndelaa.P
open Go.RowKit Go.Proofs.YtkodpbellndelaaW.PrintWords Go.Proofs.YtkodpbellndelaaW.PrintLast
set_option linter.unusedVariables false
def lenOk (n : Nat) : Bool:=match bits_Len64.f 4 (n : Int) with|some t=>decide (0≤t) && decide (t≤7)|none=>false
theorem lenOk_all : ∀ n : Fin 128,lenOk n=true:=by decide +kernel
theorem len_ev (n : Nat) (h : n < 128) : ∃ t,Ev (fun k=>bits_Len64.f k (n : Int)) t∧0≤t∧t≤7:=by
 have q:=lenOk_all ⟨n,h⟩
 unfold lenOk at q
 simp only at q
 cases e : bits_Len64.f 4 (n : Int) with
 | none=>rw [e] at q;simp at q
 | some t =>
  rw [e] at q
  simp only [Bool.and_eq_true,decide_eq_true_eq] at q
  exact ⟨t,Ev.of (bits_Len64.mono _) e,q.1,q.2⟩
def part7 (c : Int) : Int:=IntKind.u64.wrap (Go.bits .andNot .u8 c 128)
theorem part7_all : ∀ n : Fin 256,part7 (n : Nat)=((n % 128 : Nat) : Int):=by decide +kernel
theorem part7_lt (c : Int) (h0 : 0≤c) (h1 : c≤255) : ∃ n : Nat,part7 c=n∧n < 128:=by
 have:=part7_all ⟨c.toNat,by omega⟩
 rw [show ((⟨c.toNat,by omega⟩ : Fin 256) : Nat)=c.toNat from rfl,show ((c.toNat : Nat) : Int)=c by omega] at this
 exact ⟨_,this,Nat.mod_lt _ (by omega)⟩
def one7 (n : Nat) : Int:=Go.bits .or .u64 0 (shl .u64 (part7 n) 0)
theorem one7_all : ∀ n : Fin 128,one7 n=((n : Nat) : Int):=by decide +kernel
theorem var_small (c : Int) (rest : List Int) (h0 : 0≤c) (h1 : c < 128) (hl : rest.length≤1000000) : Ev (fun k=>num_Var.f k (c :: rest)) (c,1):=by
 obtain ⟨n,rfl⟩ : ∃ n : Nat,c=n:=⟨c.toNat,by omega⟩
 have hp:=part7_all ⟨n,by omega⟩
 rw [show ((⟨n,by omega⟩ : Fin 256) : Nat)=n from rfl,Nat.mod_eq_of_lt (show n < 128 by omega)] at hp
 obtain ⟨t,ht,t0,t7⟩:=len_ev n (by omega)
 have ho:=one7_all ⟨n,by omega⟩
 rw [show ((⟨n,by omega⟩ : Fin 128) : Nat)=n from rfl] at ho
 unfold one7 at ho
 have hr : rd ((n : Int) :: rest) 0=n:=rd_lt ((n : Int) :: rest) 0 (by simp)
 have hlen : (((n : Int) :: rest).length : Int)=rest.length + 1:=by simp
 have J : Ev (fun k=>num_Var.j1 k 0 0 0 n (part7 n) ((n : Int) :: rest) (((n : Int) :: rest).length : Int) 0 false) ((n : Int),1):=by
  refine Ev.succ ?_
  simp only [num_Var.j1]
  refine Ev.neg (by simp) (Ev.pos (by omega) (Ev.pos (by omega) ((Ev.now _).eq ?_)))
  rw [ho,w64 (by omega) (by omega)]
  rfl
 simp only [num_Var.f]
 refine Ev.succ ?_
 simp only [num_Var.l0]
 rw [hr]
 have ht' : Ev (fun k=>bits_Len64.f k (IntKind.u64.wrap (Go.bits .andNot .u8 (n : Int) 128))) t:=by
  rw [show IntKind.u64.wrap (Go.bits .andNot .u8 (n : Int) 128)=(n : Int) from hp];exact ht
 have e0 : wrap64 (0 + t)=t:=(w64 (by omega) (by omega)).trans (by omega)
 refine Ev.pos (by omega) (Ev.pos (by omega) (Ev.pos (by omega) (Ev.bind ht' ?_)))
 rw [e0]
 refine Ev.neg (by omega) (Ev.pos (by omega) ?_)
 by_cases q : (n : Int)=0
 ·refine Ev.pos q ?_
  rw [show decide ((0 : Int) > 0)=false from rfl]
  exact J
 ·exact Ev.neg q J
theorem var_l0 (l : List Int) (hb : ∀ c ∈ l,0≤c∧c≤255) (hl : l.length≤1000) : ∀ (d i : Nat) (x : Int),i + d=l.length→∃ r,Ev (fun k=>num_Var.l0 k x (7 * i : Nat) l l.length i) r∧0≤r.2∧r.2≤l.length
 | 0,i,x,hi=>by
  refine ⟨(0,0),Ev.succ ?_,by simp,by simp⟩
  simp only [num_Var.l0]
  exact Ev.neg (by omega) (Ev.now _)
 | d + 1,i,x,hi=>by
  have h : i < l.length:=by omega
  obtain ⟨c0,c1⟩:=hb _ (List.getElem_mem h)
  have hr : rd l i=l[i]:=rd_lt l i h
  obtain ⟨n,hn,hn2⟩:=part7_lt l[i] c0 c1
  obtain ⟨t,ht,t0,t7⟩:=len_ev n hn2
  have ht' : Ev (fun k=>bits_Len64.f k (IntKind.u64.wrap (Go.bits .andNot .u8 l[i] 128))) t:=by
   rw [show IntKind.u64.wrap (Go.bits .andNot .u8 l[i] 128)=(n : Int) from hn];exact ht
  have e0 : wrap64 (((7 * i : Nat) : Int) + t)=((7 * i : Nat) : Int) + t:=w64 (by omega) (by omega)
  have e1 : wrap64 ((i : Int) + 1)=((i + 1 : Nat) : Int):=w64 (by omega) (by omega)
  have e2 : wrap64 (((7 * i : Nat) : Int) + 7)=((7 * (i + 1) : Nat) : Int):=(w64 (by omega) (by omega)).trans (by omega)
  have J : ∀ b : Bool,∃ r,Ev (fun k=>num_Var.j1 k x (7 * i : Nat) i l[i] (IntKind.u64.wrap (Go.bits .andNot .u8 l[i] 128)) l l.length i b) r∧0≤r.2∧r.2≤l.length:=by
   intro b
   cases b with
   | true =>
    refine ⟨(0,0),Ev.succ ?_,by simp,by simp⟩
    simp only [num_Var.j1]
    exact Ev.pos (by simp) (Ev.now _)
   | false =>
    by_cases q : l[i] < 128
    ·refine ⟨(Go.bits .or .u64 x (shl .u64 (IntKind.u64.wrap (Go.bits .andNot .u8 l[i] 128)) ((7 * i : Nat) : Int)),((i + 1 : Nat) : Int)),Ev.succ ?_,by simp;omega,by simp;omega⟩
     simp only [num_Var.j1]
     rw [e1]
     exact Ev.neg (by simp) (Ev.pos (by omega) (Ev.pos q (Ev.now _)))
    ·obtain ⟨r,hr2,r0,r1⟩:=var_l0 l hb hl d (i + 1) (Go.bits .or .u64 x (shl .u64 (IntKind.u64.wrap (Go.bits .andNot .u8 l[i] 128)) (7 * i : Nat))) (by omega)
     refine ⟨r,Ev.succ ?_,r0,r1⟩
     simp only [num_Var.j1]
     rw [e1,e2]
     exact Ev.neg (by simp) (Ev.pos (by omega) (Ev.neg q hr2))
  by_cases q1 : ((7 * i : Nat) : Int) + t > 64
  ·refine ⟨(0,0),Ev.succ ?_,by simp,by simp⟩
   simp only [num_Var.l0]
   rw [hr]
   refine Ev.pos (by omega) (Ev.pos (by omega) (Ev.pos (by omega) (Ev.bind ht' ?_)))
   rw [e0]
   exact Ev.pos q1 (Ev.now _)
  ·by_cases q2 : l[i] < 128
   ·by_cases q3 : l[i]=0
    ·obtain ⟨r,hr2,r0,r1⟩:=J (decide ((i : Int) > 0))
     refine ⟨r,Ev.succ ?_,r0,r1⟩
     simp only [num_Var.l0]
     rw [hr]
     refine Ev.pos (by omega) (Ev.pos (by omega) (Ev.pos (by omega) (Ev.bind ht' ?_)))
     rw [e0]
     exact Ev.neg q1 (Ev.pos q2 (Ev.pos q3 hr2))
    ·obtain ⟨r,hr2,r0,r1⟩:=J false
     refine ⟨r,Ev.succ ?_,r0,r1⟩
     simp only [num_Var.l0]
     rw [hr]
     refine Ev.pos (by omega) (Ev.pos (by omega) (Ev.pos (by omega) (Ev.bind ht' ?_)))
     rw [e0]
     exact Ev.neg q1 (Ev.pos q2 (Ev.neg q3 hr2))
   ·obtain ⟨r,hr2,r0,r1⟩:=J false
    refine ⟨r,Ev.succ ?_,r0,r1⟩
    simp only [num_Var.l0]
    rw [hr]
    refine Ev.pos (by omega) (Ev.pos (by omega) (Ev.pos (by omega) (Ev.bind ht' ?_)))
    rw [e0]
    exact Ev.neg q1 (Ev.neg q2 hr2)
theorem var_any (l : List Int) (hb : ∀ c ∈ l,0≤c∧c≤255) (hl : l.length≤1000) : ∃ r,Ev (fun k=>num_Var.f k l) r∧0≤r.2∧r.2≤l.length:=by
 obtain ⟨r,h,r0,r1⟩:=var_l0 l hb hl l.length 0 0 (by omega)
 exact ⟨r,by simp only [num_Var.f];exact h,r0,r1⟩
theorem put_small (c : Int) (h0 : 0≤c) (h1 : c < 128) : Ev (fun k=>num_PutVar.f k (IntKind.u64.wrap c)) [c]:=by
 have e : IntKind.u64.wrap c=c:=by rw [show IntKind.u64.wrap c=c % 18446744073709551616 from rfl];omega
 rw [e]
 simp only [num_PutVar.f]
 refine Ev.succ ?_
 simp only [num_PutVar.l0]
 refine Ev.neg (by omega) (Ev.pos (by simp) ((Ev.now _).eq ?_))
 rw [List.nil_append,Int.emod_eq_of_lt h0 (by omega)]
end Go.Proofs.Ytkodpbellndelaa.P

/- A schema of a shape. -/
namespace Go.Proofs.Ytkodpbellndelaa.P
open Go.RowKit Go.Proofs.YtkodpbellndelaaW.PrintWords Go.Proofs.YtkodpbellndelaaW.PrintLast Go.Proofs.YtkodpbellndelaaW.PrintMore
theorem u8_of {x : Int} (h : (Lit.int .u8 x).wf=true) : U8 x:=wf_u8 h
theorem shape_ev {x : S24} (h : gd24 x) : ∃ T K M G,Ev (fun k=>thresherref04_Made.f k x.f0.f0 x.f0.f1 x.f0.f2 x.f0.f3 x.f0.f4 x.f0.f5 x.f0.f6 x.f0.f7 x.f1 x.f2 x.f3 x.f4) (T,K,M,G)∧Sch T K M G:=by
 obtain ⟨⟨h0,h1,h2,h3,h4,h5,h6,h7⟩,ha,hb,hc,hd⟩:=h
 exact made_ev _ _ _ _ _ _ _ _ _ _ _ _ (u8_of h0) (u8_of h1) (u8_of h2) (u8_of h3) (u8_of h4) (u8_of h5) (u8_of h6) (u8_of h7) (u8_of ha) (u8_of hb) (u8_of hc) (u8_of hd)
end Go.Proofs.Ytkodpbellndelaa.P

/- A schema that was put is taken, and a part of it, or more, is none: the plain law. -/
namespace Go.Proofs.Ytkodpbellndelaa.Pure
open Go.RowKit Go.Proofs.Ytkodpbellndelaa.P Go.Proofs.YtkodpbellndelaaW.PrintWords Go.Proofs.YtkodpbellndelaaW.PrintLast
set_option linter.unusedVariables false
abbrev Taken:=List Int × Int × Int × Int × Int
def bad : Taken:=([],0,0,0,10)
theorem take_j1 (acc : List Int) : Ev (fun k=>schema_Take.j1 k acc true) bad:=by
 refine Ev.succ ?_
 simp only [schema_Take.j1]
 exact Ev.pos (by simp) (Ev.now _)
theorem take_short (acc : List Int) (h : acc.length < 4) : Ev (fun k=>schema_Take.l0 k [] acc) bad:=by
 refine Ev.succ ?_
 simp only [schema_Take.l0]
 exact Ev.neg (by simp) (Ev.pos (by omega) (take_j1 acc))
theorem take_odd (acc : List Int) (r : Nat) (h4 : 4≤acc.length) (hr : rd acc 0=r) (hr2 : r≤100) (hne : acc.length≠r + 4) : Ev (fun k=>schema_Take.l0 k [] acc) bad:=by
 refine Ev.succ ?_
 simp only [schema_Take.l0]
 have e : ((acc.length : Int) != wrap64 (rd acc 0 + 4))=true:=by
  rw [hr,w64 (by omega) (by omega)]
  simp
  omega
 rw [e]
 exact Ev.neg (by simp) (Ev.neg (by omega) (Ev.pos (by omega) (take_j1 acc)))
theorem take_small {R : Taken} : ∀ (S rest acc : List Int),(∀ c ∈ S,0≤c∧c < 128)→rest.length≤1000→S.length≤100→acc.length + S.length≤1000→Ev (fun k=>schema_Take.l0 k rest (acc ++ S)) R→Ev (fun k=>schema_Take.l0 k (S ++ rest) acc) R
 | [],rest,acc,_,_,_,_,H=>by rw [List.append_nil] at H;exact H
 | c :: S,rest,acc,hS,h1,h2,h3,H=>by
  obtain ⟨c0,c1⟩:=hS c List.mem_cons_self
  rw [List.length_cons] at h2 h3
  have ih:=take_small S rest (acc ++ [c]) (fun x hx=>hS x (List.mem_cons_of_mem _ hx)) h1 (by omega) (by rw [List.length_append];simp;omega) (by rw [List.append_assoc];exact H)
  refine Ev.succ ?_
  simp only [schema_Take.l0,List.cons_append]
  have hv:=var_small c (S ++ rest) c0 c1 (by rw [List.length_append];omega)
  refine Ev.pos (by simp;omega) (Ev.bind hv (Ev.neg (by simp) (Ev.neg (by simp;omega) (Ev.pos (by omega) (Ev.pos (by simp) (Ev.pos (by simp;omega) ?_))))))
  rw [w64 (x:=((c,(1 : Int))).1) (by simp;omega) (by simp;omega)]
  exact ih
theorem take_more (L : List Int) (r : Nat) (hL : L.length=r + 4) (hr : rd L 0=r) (hr2 : r≤100) : ∀ (n : Nat) (l E : List Int),l.length≤n→(∀ c ∈ l,0≤c∧c≤255)→(l≠[] ∨ E≠[])→E.length + l.length≤500→Ev (fun k=>schema_Take.l0 k l (L ++ E)) bad
 | 0,l,E,hn,hb,hne,hl=>by
  obtain rfl : l=[]:=List.length_eq_zero_iff.mp (by omega)
  have hE : E≠[]:=hne.resolve_left (fun h=>h rfl)
  have hE1:=List.length_pos_iff.mpr hE
  refine take_odd (L ++ E) r (by rw [List.length_append];omega) ?_ hr2 (by rw [List.length_append];omega)
  rw [← hr,show rd (L ++ E) 0=_ from rd_lt (L ++ E) 0 (by rw [List.length_append];omega),show rd L 0=_ from rd_lt L 0 (by omega),List.getElem_append_left]
 | n + 1,l,E,hn,hb,hne,hl=>by
  by_cases q : l=[]
  ·subst q
   exact take_more L r hL hr hr2 0 [] E (by simp) (by simp) hne (by simpa using hl)
  ·have hl1:=List.length_pos_iff.mpr q
   obtain ⟨v,hv,v0,v1⟩:=var_any l hb (by omega)
   obtain ⟨x,m⟩:=v
   simp only at v0 v1
   by_cases q1 : m=0
   ·refine Ev.succ ?_
    simp only [schema_Take.l0]
    exact Ev.pos (by omega) (Ev.bind hv (Ev.pos q1 (Ev.now _)))
   ·by_cases q2 : x > 1048576
    ·refine Ev.succ ?_
     simp only [schema_Take.l0]
     exact Ev.pos (by omega) (Ev.bind hv (Ev.neg q1 (Ev.pos q2 (Ev.now _))))
    ·obtain ⟨u,rfl⟩ : ∃ u : Nat,m=u:=⟨m.toNat,by omega⟩
     have ih:=take_more L r hL hr hr2 n (l.drop u) (E ++ [wrap64 x]) (by rw [List.length_drop];omega) (fun c hc=>hb c (List.mem_of_mem_drop hc)) (Or.inr (by simp)) (by rw [List.length_drop,List.length_append];simp;omega)
     refine Ev.succ ?_
     simp only [schema_Take.l0]
     refine Ev.pos (by omega) (Ev.bind hv (Ev.neg q1 (Ev.neg q2 (Ev.pos (by rw [List.length_append];omega) (Ev.pos (by omega) (Ev.pos (by omega) ?_))))))
     rw [Int.toNat_natCast,List.append_assoc]
     exact ih
def numsOf (T : List Int) (K M G : Int) : List Int:=(T.length : Int) :: (T ++ [K,M,G])
theorem numsOf_length (T : List Int) (K M G : Int) : (numsOf T K M G).length=T.length + 4:=by simp [numsOf]
theorem numsOf_zero (T : List Int) (K M G : Int) : rd (numsOf T K M G) 0=T.length:=rd_lt (numsOf T K M G) 0 (by rw [numsOf_length];omega)
theorem numsOf_at (T : List Int) (K M G : Int) : rd (numsOf T K M G) ((T.length + 1 : Nat) : Int)=K∧rd (numsOf T K M G) ((T.length + 2 : Nat) : Int)=M∧rd (numsOf T K M G) ((T.length + 3 : Nat) : Int)=G:=by
 have hl:=numsOf_length T K M G
 refine ⟨?_,?_,?_⟩
 ·rw [rd_lt _ _ (by omega)];simp [numsOf]
 ·rw [rd_lt _ _ (by omega)];simp [numsOf,List.getElem_append_right]
 ·rw [rd_lt _ _ (by omega)];simp [numsOf,List.getElem_append_right]
theorem check_ok {T : List Int} {K M G : Int} (hS : Sch T K M G) : schema_Check.f T K M G=some 0:=by
 unfold schema_Check.f checkN withinB
 have h1:=hS.n1
 have h2:=hS.n8
 have h3:=hS.k1
 have h4:=hS.kn
 have h5:=hS.m1
 have h6:=hS.m3
 have h7:=hS.g1
 have h8:=hS.g8
 have ht : T.any oddB=false:=by
  rw [List.any_eq_false]
  intro t ht
  obtain ⟨t1,t3⟩:=hS.ty t ht
  unfold oddB withinB
  simp
  omega
 rw [if_pos]
 refine ⟨?_,ht,?_,?_,?_⟩ <;> simp <;> omega
theorem take_good {T : List Int} {K M G : Int} (hS : Sch T K M G) : Ev (fun k=>schema_Take.l0 k [] (numsOf T K M G)) ((T,K,M,G,0) : Taken):=by
 have hl:=numsOf_length T K M G
 have hz:=numsOf_zero T K M G
 obtain ⟨a1,a2,a3⟩:=numsOf_at T K M G
 have h8:=hS.n8
 have hc:=check_ok hS
 have ht : ((numsOf T K M G).take (T.length + 1)).drop 1=T:=by simp [numsOf]
 obtain ⟨acc,hacc⟩ : ∃ acc,acc=numsOf T K M G:=⟨_,rfl⟩
 rw [← hacc] at hl hz a1 a2 a3 ht ⊢
 have E1:=Aside0.mk (show wrap64 ((T.length : Int) + 1)=((T.length + 1 : Nat) : Int) from w64 (by omega) (by omega))
 have E2:=Aside0.mk (show wrap64 (((T.length + 1 : Nat) : Int) + 1)=((T.length + 2 : Nat) : Int) from (w64 (by omega) (by omega)).trans (by omega))
 have E3:=Aside0.mk (show wrap64 (((T.length + 1 : Nat) : Int) + 2)=((T.length + 3 : Nat) : Int) from (w64 (by omega) (by omega)).trans (by omega))
 have e0 : ((acc.length : Int) != wrap64 (rd acc 0 + 4))=false:=by
  rw [hz,w64 (by omega) (by omega)]
  simp
  omega
 refine Ev.succ ?_
 simp only [schema_Take.l0]
 rw [e0]
 clear e0
 refine Ev.neg (by simp) (Ev.neg (by omega) (Ev.pos (by omega) (Ev.succ ?_)))
 simp only [schema_Take.j1]
 rw [hz,E1.out,E2.out,E3.out,Int.toNat_natCast,ht,a1,a2,a3]
 refine Ev.neg (by simp) (Ev.pos (by omega) (Ev.pos (by omega) (Ev.pos (by omega) ?_)))
 refine Ev.bindc (a:=T) rfl ?_
 refine Ev.pos (by omega) (Ev.pos (by omega) (Ev.pos (by omega) (Ev.pos (by omega) (Ev.pos (by omega) (Ev.pos (by omega) ?_)))))
 refine Ev.bindc hc ?_
 exact Ev.pos rfl (Ev.now _)
theorem concat_ev (a b c : List Int) (ha : a.length≤1000) (hb : b.length≤1000) (hc : c.length≤1000) : Ev (fun k=>slices_Concat_int_int.f k [a,b,c]) (a ++ b ++ c):=by
 have l3 : ((([a,b,c] : List (List Int)).length : Nat) : Int)=3:=rfl
 have i1 : wrap64 (0 + 1)=1:=w64 (by omega) (by omega)
 have i2 : wrap64 (1 + 1)=2:=w64 (by omega) (by omega)
 have i3 : wrap64 (2 + 1)=3:=w64 (by omega) (by omega)
 have r0 : rd_L1 [a,b,c] 0=a:=rfl
 have r1 : rd_L1 [a,b,c] 1=b:=rfl
 have r2 : rd_L1 [a,b,c] 2=c:=rfl
 have s1 : wrap64 (0 + (a.length : Int))=((a.length : Nat) : Int):=(w64 (by omega) (by omega)).trans (by omega)
 have s2 : wrap64 (((a.length : Nat) : Int) + (b.length : Int))=((a.length + b.length : Nat) : Int):=(w64 (by omega) (by omega)).trans (by omega)
 have s3 : wrap64 (((a.length + b.length : Nat) : Int) + (c.length : Int))=((a.length + b.length + c.length : Nat) : Int):=(w64 (by omega) (by omega)).trans (by omega)
 have S1:=Aside0.mk s1
 have S2:=Aside0.mk s2
 have S3:=Aside0.mk s3
 clear s1 s2 s3
 simp only [slices_Concat_int_int.f]
 refine Ev.succ ?_
 simp only [slices_Concat_int_int.l0]
 rw [r0,S1.out,l3,i1]
 refine Ev.pos (by omega) (Ev.pos (by omega) (Ev.pos (by omega) (Ev.neg (by omega) (Ev.succ ?_))))
 simp only [slices_Concat_int_int.l0]
 rw [r1,S2.out,l3,i2]
 refine Ev.pos (by omega) (Ev.pos (by omega) (Ev.pos (by omega) (Ev.neg (by omega) (Ev.succ ?_))))
 simp only [slices_Concat_int_int.l0]
 rw [r2,S3.out,l3,i3]
 refine Ev.pos (by omega) (Ev.pos (by omega) (Ev.pos (by omega) (Ev.neg (by omega) (Ev.succ ?_))))
 simp only [slices_Concat_int_int.l0]
 refine Ev.neg (by omega) (Ev.bindc (show slices_Grow_int_int.f [] ((a.length + b.length + c.length : Nat) : Int)=some [] by unfold slices_Grow_int_int.f;rw [if_pos ⟨rfl,by omega,by omega⟩]) (Ev.succ ?_))
 simp only [slices_Concat_int_int.l1]
 rw [r0,l3,i1]
 refine Ev.pos (by omega) (Ev.pos (by omega) (Ev.pos (by omega) (Ev.pos (by simp;omega) (Ev.succ ?_))))
 simp only [slices_Concat_int_int.l1,List.nil_append]
 rw [r1,l3,i2]
 refine Ev.pos (by omega) (Ev.pos (by omega) (Ev.pos (by omega) (Ev.pos (by omega) (Ev.succ ?_))))
 simp only [slices_Concat_int_int.l1]
 rw [r2,l3,i3]
 refine Ev.pos (by omega) (Ev.pos (by omega) (Ev.pos (by omega) (Ev.pos (by rw [List.length_append];omega) (Ev.succ ?_))))
 simp only [slices_Concat_int_int.l1]
 exact Ev.neg (by omega) (Ev.now _)
theorem put_loop (L : List Int) (hL : ∀ c ∈ L,0≤c∧c < 128) (hl : L.length≤100) : ∀ (d i : Nat) (acc : List Int),i + d=L.length→acc.length=i→Ev (fun k=>schema_Put.l0 k acc L L.length i) (acc ++ L.drop i)
 | 0,i,acc,hi,ha=>by
  refine Ev.succ ?_
  simp only [schema_Put.l0]
  exact Ev.neg (by omega) ((Ev.now _).eq (by rw [List.drop_of_length_le (by omega),List.append_nil]))
 | d + 1,i,acc,hi,ha=>by
  have h : i < L.length:=by omega
  obtain ⟨c0,c1⟩:=hL _ (List.getElem_mem h)
  have ih:=put_loop L hL hl d (i + 1) (acc ++ [L[i]]) (by omega) (by rw [List.length_append];simp;omega)
  refine Ev.succ ?_
  simp only [schema_Put.l0]
  rw [rd_lt L i h]
  refine Ev.pos (by omega) (Ev.pos (by omega) (Ev.pos (by omega) (Ev.bind (put_small _ c0 c1) (Ev.pos (by simp;omega) ?_))))
  rw [w64 (by omega) (by omega)]
  refine ih.eq ?_
  rw [List.append_assoc,List.drop_eq_getElem_cons h]
  rfl
theorem same_l0 (T : List Int) (K M G : Int) (hT : T.length≤100) : ∀ (d i : Nat),i + d=T.length→Ev (fun k=>thresherref04_Same.l0 k i T K M G T K M G) true
 | 0,i,hi=>by
  refine Ev.succ ?_
  simp only [thresherref04_Same.l0]
  exact Ev.neg (by omega) (Ev.now _)
 | d + 1,i,hi=>by
  refine Ev.succ ?_
  simp only [thresherref04_Same.l0]
  have ih:=same_l0 T K M G hT d (i + 1) (by omega)
  refine Ev.pos (by omega) (Ev.pos (by omega) (Ev.pos (by omega) (Ev.pos (by simp) ?_)))
  rw [w64 (by omega) (by omega)]
  exact ih
theorem same_ev (T : List Int) (K M G : Int) (hT : T.length≤100) : Ev (fun k=>thresherref04_Same.f k T K M G T K M G) true:=by
 simp only [thresherref04_Same.f]
 refine Ev.pos (by simp) (Ev.pos (by simp) (Ev.pos (by simp) (Ev.succ ?_)))
 simp only [thresherref04_Same.j0]
 exact Ev.neg (by simp) (same_l0 T K M G hT T.length 0 (by omega))
theorem SchemaBack : thresherlaw04_SchemaBack.PureG:=by
 intro x at_ l hx ha ⟨hl,hl2⟩
 obtain ⟨T,K,M,G,hmade,hS⟩:=shape_ev hx
 have n1:=hS.n1
 have n8:=hS.n8
 have k1:=hS.k1
 have kn:=hS.kn
 have m1:=hS.m1
 have m3:=hS.m3
 have g1:=hS.g1
 have g8:=hS.g8
 have ua:=wf_u16 ha
 have hbytes : ∀ c ∈ l,0≤c∧c≤255:=fun c hc=>wf_u8 (hl2 c hc)
 have hlen:=numsOf_length T K M G
 have hz:=numsOf_zero T K M G
 have hsm : ∀ c ∈ numsOf T K M G,0≤c∧c < 128:=by
  intro c hc
  unfold numsOf at hc
  rcases List.mem_cons.mp hc with rfl|hc
  ·omega
  ·rcases List.mem_append.mp hc with hc|hc
   ·have:=hS.ty c hc;omega
   ·simp only [List.mem_cons,List.not_mem_nil,or_false] at hc
    rcases hc with rfl|rfl|rfl <;> omega
 have hgood:=take_good hS
 have hput : Ev (fun k=>schema_Put.f k T K M G) (numsOf T K M G):=by
  simp only [schema_Put.f]
  have hc:=concat_ev [(T.length : Int)] T [K,M,G] (by simp) (by omega) (by simp)
  have e : [(T.length : Int)] ++ T ++ [K,M,G]=numsOf T K M G:=by simp [numsOf]
  rw [e] at hc
  have hp:=put_loop (numsOf T K M G) hsm (by omega) (numsOf T K M G).length 0 [] (by omega) rfl
  exact Ev.bind hc (hp.eq (by simp))
 have hsame:=same_ev T K M G (by omega)
 obtain ⟨L,hL⟩ : ∃ L,L=numsOf T K M G:=⟨_,rfl⟩
 rw [← hL] at hlen hz hsm hgood hput
 have t1 : Ev (fun k=>schema_Take.f k L) ((T,K,M,G,0) : Taken):=by
  simp only [schema_Take.f]
  have:=take_small (R:=((T,K,M,G,0) : Taken)) L [] [] hsm (by simp) (by omega) (by simp;omega) (by rw [List.nil_append];exact hgood)
  rwa [List.append_nil] at this
 have t2 : ∀ m : Nat,m < L.length→Ev (fun k=>schema_Take.f k (L.take m)) bad:=by
  intro m hm
  simp only [schema_Take.f]
  have hlm : (L.take m).length=m:=by rw [List.length_take];omega
  have hend : Ev (fun k=>schema_Take.l0 k [] (L.take m)) bad:=by
   by_cases q : m < 4
   ·exact take_short _ (by omega)
   ·refine take_odd _ T.length (by omega) ?_ (by omega) (by omega)
    rw [← hz,show rd (L.take m) 0=_ from rd_lt (L.take m) 0 (by omega),show rd L 0=_ from rd_lt L 0 (by omega),List.getElem_take]
  have:=take_small (R:=bad) (L.take m) [] [] (fun c hc=>hsm c (List.mem_of_mem_take hc)) (by simp) (by omega) (by simp;omega) (by rw [List.nil_append];exact hend)
  rwa [List.append_nil] at this
 have t3 : ∀ B : List Int,(∀ c ∈ B,0≤c∧c≤255)→B.length≤100→B≠[]→Ev (fun k=>schema_Take.f k (L ++ B)) bad:=by
  intro B hB hB2 hne
  simp only [schema_Take.f]
  refine take_small (R:=bad) L B [] hsm (by omega) (by omega) (by simp;omega) ?_
  have:=take_more L T.length (by omega) hz (by omega) B.length B [] (Nat.le_refl _) hB (Or.inl hne) (by simp;omega)
  rw [List.append_nil] at this
  rw [List.nil_append]
  exact this
 have ew : wrap64 at_=at_:=w64 (by omega) (by omega)
 obtain ⟨y,hy⟩ : ∃ y : Nat,at_=y:=⟨at_.toNat,by omega⟩
 subst hy
 have et : Int.tmod (y : Int) (L.length : Int)=((y % L.length : Nat) : Int):=by rw [Int.tmod_eq_emod_of_nonneg (by omega)];rfl
 have hlt : y % L.length < L.length:=Nat.mod_lt _ (by omega)
 obtain ⟨z,hz2⟩ : ∃ z,y % L.length=z:=⟨_,rfl⟩
 rw [hz2] at et hlt
 have fin : ∀ B : List Int,(∀ c ∈ B,0≤c∧c≤255)→B.length≤100→Ev (fun k=>(schema_Take.f k (L ++ B)).bind fun b=>if (0 : Int)=0 then (if true=true then (if (10 : Int)=10 then some ((b.2.2.2.2 == 10) == decide ((B.length : Int) > 0)) else some false) else some false) else some false) true:=by
  intro B hB hB2
  by_cases q : B=[]
  ·subst q
   rw [List.append_nil]
   exact Ev.bind t1 (Ev.pos rfl (Ev.pos rfl (Ev.pos rfl ((Ev.now _).eq (by simp)))))
  ·have hp:=List.length_pos_iff.mpr q
   exact Ev.bind (t3 B hB hB2 q) (Ev.pos rfl (Ev.pos rfl (Ev.pos rfl ((Ev.now _).eq (by simp [bad];omega)))))
 apply Ev.rounds
 simp only [thresherlaw04_SchemaBack.f,thresherlaw04_made.f]
 refine Ev.bind shown04_ev (Ev.bind (Ev.bind hmade (Ev.now _)) (Ev.bind hput (Ev.neg (by omega) (Ev.bind t1 (Ev.bind hsame (Ev.neg (by omega) ?_))))))
 simp only [ew,et,Int.toNat_natCast]
 refine Ev.pos (by omega) (Ev.pos (by omega) (Ev.bind (t2 z hlt) ?_))
 by_cases q : (l.length : Int) > 100
 ·refine Ev.pos q (Ev.pos (by omega) (Ev.bindc rfl (Ev.pos (by simp;omega) (Ev.bindc rfl (Ev.pos (by simp;omega) ?_)))))
  have:=fin (l.take 100) (fun c hc=>hbytes c (List.mem_of_mem_take hc)) (by rw [List.length_take];omega)
  simpa [bad] using this
 ·refine Ev.neg q (Ev.bindc rfl (Ev.pos (by simp;omega) (Ev.bindc rfl (Ev.pos (by simp;omega) ?_))))
  have:=fin l hbytes (by omega)
  simpa [bad] using this
end Go.Proofs.Ytkodpbellndelaa.Pure

namespace Go.Proofs.Ytkodpbellndelaa.schemaBack
open Go.ChangeShapes Go.WideShapes Go.ChangeAt Go.RowKit Go.Proofs.Ytkodpbellndelaa.P Go.Proofs.YtkodpbellndelaaW.PrintWords
set_option linter.unusedVariables false
set_option linter.unusedSimpArgs false
theorem own : ownKnob Try.prog.godebug=none:=by kernel_rfl
theorem laidOut : laidOutB Try.prog=true:=by kernel_rfl
set_option maxRecDepth 100000 in
theorem lifted (os : Os) (started : os.Started) (H : Type) (enc : TypeId × Value→H) :
  ReturnsInHanded {} Try.checked os 4 .any (Rows.schemaBackSpec.pre6 enc Try.prog Try.f4 Rows.schemaBackRow.domain false) (Rows.schemaBackSpec.post enc Try.prog Try.f4 false true false false):=by
 refine returnsInHanded_of_change_sized (C:=Try.checked) own started (by kernel_rfl) Try.func4
  (ChangeSpec.witness6 (enc:=enc) (C:=Try.checked) false ⟨#[],#[.agg #[.int .u8 0,.int .u8 0,.int .u8 0,.int .u8 0,.int .u8 0,.int .u8 0,.int .u8 0,.int .u8 0,.int .u8 0,.int .u8 0,.int .u8 0,.int .u8 0],.int .u16 0,.slice none 0 0],[]⟩ 8 (by kernel_rfl) (by kernel_rfl) (by kernel_rfl) (by kernel_rfl)) ?_
 intro W base args ds gs before hval0 hW hcnd hsz0 _
 have hval : ∀ (j : Nat) t v,Try.f4.params[j]?=some t→args[j]?=some v→Value.okWide Try.prog W .any base t v:=hval0
 have hW':=hW
 obtain ⟨p,q,hA0,hV,rfl,hfz,hnd⟩:=hW
 have hA : DataW.TrodAll enc Try.prog W 0 (fun _=>true) true Try.f4.params.toList args.toList ds p:=hA0
 rw [Try.params4] at hA hval
 obtain ⟨v0,vs0,d0,ds0,p0,q0,hargs,rfl,rfl,h0,r0⟩:=trodAll_cons hA
 obtain ⟨v1,vs1,d1,ds1,p1,q1,rfl,rfl,rfl,h1,r1⟩:=trodAll_cons r0
 obtain ⟨v2,vs2,d2,ds2,p2,q2,rfl,rfl,rfl,h2,r2⟩:=trodAll_cons r1
 obtain ⟨rfl,rfl,rfl⟩:=trodAll_nil r2
 obtain rfl : args=#[v0,v1,v2]:=by cases args;simp_all
 obtain ⟨rfl,rfl⟩:=trodVars_none hV
 have lt0 : ∀ x ∈ p0,x.block < W.heap.size:=by obtain ⟨m,hm⟩:=h0;exact DataW.trod_lt m _ _ _ hm
 obtain ⟨x0,K0,g0⟩:=(op24).arg h0
 obtain ⟨cs0,rfl⟩:=okWide_agg Try.underlying24 (hval 0 24 v0 rfl rfl)
 have e0:=k24_open K0
 replace e0:=agg_of e0
 have lt1 : ∀ x ∈ p1,x.block < W.heap.size:=by obtain ⟨m,hm⟩:=h1;exact DataW.trod_lt m _ _ _ hm
 obtain ⟨x1,K1,g1⟩:=((opens_int Try.underlying40)).arg h1
 obtain ⟨b1,rfl⟩:=okWide_int Try.underlying40 (hval 1 40 v1 rfl rfl)
 have e1 : b1=x1:=by simpa [Value.cells,Kd.int,Kd.scalar] using K1
 subst e1
 have lt2 : ∀ x ∈ p2,x.block < W.heap.size:=by obtain ⟨m,hm⟩:=h2;exact DataW.trod_lt m _ _ _ hm
 obtain ⟨x2,K2,g2⟩:=((opens_slice Try.underlying41 (by kernel_rfl) (opens_int Try.underlying5))).arg h2
 obtain ⟨a2,len2,cap2,rfl⟩:=okWide_slice Try.underlying41 (hval 2 41 v2 rfl rfl)
 obtain ⟨A2,c2,e2,hl2,hr2⟩:=K2
 simp [Value.cells] at e2
 obtain ⟨rfl,rfl,rfl⟩:=e2
 obtain ⟨k,hk⟩:=Pure.SchemaBack x0 b1 x2 g0 g1 g2
 have call : Calls Try.prog 4 #[.agg cs0,.int .u16 b1,.slice a2 x2.length cap2] W fun e W'=>e=.returned (.bool true)∧Below W.heap.size W W':=by
  rw [e0]
  refine (thresherlaw04_SchemaBack.calls k _ _ _ _ _ _ _ _ _ _ _ _ _ _ _ _ true W hr2 hl2 hk).mono ?_
  rintro e w' ⟨rfl,hd⟩
  exact ⟨rfl,hd⟩
 refine call.mono fun e W' ⟨he,bel⟩=>?_
 subst he
 exact ⟨_,rfl,_,_,_,[],_,[],hW',trodAll_mk1 (shut_bool Try.underlying4 _),(trodAll_cons_mk (Below.trod laidOut (by kernel_rfl) (of_decide_eq_true (by kernel_rfl)) h0 bel lt0) (trodAll_cons_mk (Below.trod laidOut (by kernel_rfl) (of_decide_eq_true (by kernel_rfl)) h1 bel lt1) (trodAll_cons_mk (Below.trod laidOut (by kernel_rfl) (of_decide_eq_true (by kernel_rfl)) h2 bel lt2) trodAll_mk0))),rfl,bel.frame _,fun h=>by cases h⟩
theorem over : Rows.schemaBackRow.holds Try.pinned (OpenSpec.ofChange Rows.schemaBackSpec) :=
 OpenClaim.holds_of_wide 4 Try.f4 rfl rfl rfl rfl rfl rfl rfl ⟨rfl,rfl,rfl,rfl,rfl⟩ rfl rfl rfl rfl rfl (by kernel_rfl) Try.func4 (by kernel_rfl)
  (of_decide_eq_true (by kernel_rfl)) (by unfold Func.isWrapper;first|(rw [if_pos (by decide +kernel)];kernel_rfl)|(rw [if_neg (by decide +kernel)];exact ⟨rfl,rfl⟩))
  (fun os started H enc _=>lifted os started H enc)
theorem proved : Rows.SchemaBackSaid:=over
#print axioms proved
end Go.Proofs.Ytkodpbellndelaa.schemaBack
namespace Go.Proofs.Ytkodpbellndelaa
theorem schemaBack_holds : Rows.SchemaBackSaid:=schemaBack.proved
end Go.Proofs.Ytkodpbellndelaa

