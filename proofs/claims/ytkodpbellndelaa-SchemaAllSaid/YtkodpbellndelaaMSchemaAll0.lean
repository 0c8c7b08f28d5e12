/- The row of SchemaAll. Merged: SSchemaAll, XBase, XOrd, XShown04, XVar, XRVal, XVarRef, XRCmp, XVarSame, XShort, XTake04, PureSchemaAll, RSchemaAll. -/
import Derived.Test.YtkodpbellndelaaQSchemaAllPx22
import Derived.Test.YtkodpbellndelaaQSchemaAllO
import Derived.Test.YtkodpbellndelaaQSchemaAllPx0
import Derived.Test.YtkodpbellndelaaQSchemaAllHBase
import Derived.Lib.Bytealg
import Derived.Test.YtkodpbellndelaaQSchemaAllPx3
import Derived.Test.YtkodpbellndelaaQSchemaAllPx6
import Derived.Test.YtkodpbellndelaaQSchemaAllPx2
import Derived.Test.YtkodpbellndelaaQSchemaAllPx12
import Derived.Test.YtkodpbellndelaaQSchemaAllPx11
import Derived.Test.YtkodpbellndelaaQSchemaAllPx19
import Derived.Test.YtkodpbellndelaaQSchemaAllPx18
import Derived.Test.YtkodpbellndelaaQSchemaAllPx13
import Derived.Test.YtkodpbellndelaaQSchemaAllPx10
import Derived.Test.YtkodpbellndelaaQSchemaAllPx7
import Derived.Test.YtkodpbellndelaaQSchemaAllPx20
import Derived.Test.YtkodpbellndelaaQSchemaAllPx17
import Derived.Test.YtkodpbellndelaaQSchemaAllPx21
import Derived.Test.YtkodpbellndelaaQSchemaAllHBatch
import Derived.Test.YtkodpbellndelaaRows
import Derived.WalkKit
import Derived.ProofKit
import Derived.OpenShut
import Derived.ShutString
import Derived.ChangeOld
import Derived.Below
import Derived.SizedLaws
namespace Go.Proofs.Ytkodpbellndelaa.P
open Go.RowKit Go.Proofs.YtkodpbellndelaaW.PrintWords
def thresherlaw04_SchemaAll.PureG : Prop:=∀ (x0 : S30) (x1 : List (List (S34))) (x2 : List Int),gd30 x0→(x1.length≤maxLen∧∀ a ∈ x1,(a.length≤maxLen∧∀ aa ∈ a,gd34 aa))→(x2.length≤maxLen∧∀ a ∈ x2,(Lit.int .u8 a).wf=true)→∃ k,thresherlaw04_SchemaAll.f k x0.f0 x0.f1 x0.f2 x0.f3 x1 x2=some true
end Go.Proofs.Ytkodpbellndelaa.P

/- Words of the laws about rows. -/
namespace Go.Proofs.Ytkodpbellndelaa.P
open Go.RowKit Go.Proofs.YtkodpbellndelaaW.PrintWords Go.Proofs.YtkodpbellndelaaW.PrintLast Go.Proofs.YtkodpbellndelaaW.PrintMore
set_option linter.unusedVariables false
set_option linter.unusedSimpArgs false
abbrev XV:=S34
abbrev rdV (l : List XV) (i : Int) : XV:=rd_T34 l i
abbrev rdR (l : List (List XV)) (i : Int) : List XV:=rd_L6 l i
theorem rd_lt (l : List Int) (i : Nat) (h : i < l.length) : rd l i=l[i]:=by unfold rd;simp [List.getD,h]
theorem rdV_lt (l : List XV) (i : Nat) (h : i < l.length) : rd_T34 l i=l[i]:=by unfold rd_T34;simp [List.getD,h]
theorem rdV_ge (l : List XV) (i : Nat) (h : l.length≤i) : rd_T34 l i=⟨0,⟨#[]⟩⟩:=by unfold rd_T34;simp [List.getD,h];rfl
theorem rdR_lt (l : List (List XV)) (i : Nat) (h : i < l.length) : rd_L6 l i=l[i]:=by unfold rd_L6;simp [List.getD,h]
structure Sch (T : List Int) (K M G : Int) : Prop where
 n1 : 1≤T.length
 n8 : T.length≤8
 ty : ∀ t ∈ T,1≤t∧t≤3
 k1 : 1≤K
 kn : K≤T.length
 m1 : 1≤M
 m3 : M≤3
 g1 : 1≤G
 g8 : G≤8
def fitT (t : Int) (v : XV) : Bool:=if t=1 ∨ t=2 then v.f1.toList == ([] : List UInt8) else if t=3 then (if v.f0=0 then decide ((v.f1.size : Int)≤60) else false) else false
def rowOkB (T : List Int) (r : List XV) : Bool:=decide (T.length=r.length) && (List.range T.length).all fun (i : Nat)=>fitT (rd T i) (rdV r i)
def fit1 (t : Int) (v : XV) : XV:=if t=3 then ⟨0,if (v.f1.size : Int) > 60 then v.f1.extract 0 60 else v.f1⟩ else ⟨v.f0,⟨#[]⟩⟩
def fitRow (T : List Int) (r : List XV) : List XV:=(List.range' 0 T.length).map fun (i : Nat)=>fit1 (rd T i) (rdV r i)
theorem bytes_eq {a b : ByteArray} (h : a.toList=b.toList) : a=b:=by
 rw [ByteArray.toList_eq,ByteArray.toList_eq] at h
 exact ByteArray.ext (Array.toList_inj.mp h)
theorem XV.same {a b : XV} : (!(a.f0 == b.f0) || (!(a.f1.toList == b.f1.toList)))=true ↔ a≠b:=by
 constructor
 ·rintro h rfl
  simp at h
 ·intro h
  by_cases h0 : a.f0=b.f0
  ·by_cases h1 : a.f1.toList=b.f1.toList
   ·exact absurd (by cases a;cases b;simp only at h0 h1;rw [h0,bytes_eq h1]) h
   ·simp [h1]
  ·simp [h0]
instance : DecidableEq XV:=fun a b=>if h : (!(a.f0 == b.f0) || (!(a.f1.toList == b.f1.toList)))=true then isFalse (XV.same.mp h) else isTrue (Classical.byContradiction fun e=>h (XV.same.mpr e))
end Go.Proofs.Ytkodpbellndelaa.P

/- The order of values and of rows. -/
namespace Go.Proofs.Ytkodpbellndelaa.P
open Go.RowKit Go.Proofs.YtkodpbellndelaaW.PrintWords Go.Proofs.YtkodpbellndelaaW.PrintLast Go.Proofs.YtkodpbellndelaaW.PrintMore
set_option linter.unusedVariables false
set_option linter.unusedSimpArgs false
def GV (v : XV) : Prop:=-9223372036854775808≤v.f0∧v.f0≤9223372036854775807
def sgn (x y : Int) : Int:=if x < y then -1 else if x > y then 1 else 0
def un (x : Int) : Int:=x % 18446744073709551616
def cmpV (t : Int) (a b : XV) : Int:=if fitT t a=true∧fitT t b=true then (if t=3 then Lib.compareBytes a.f1.data.toList b.f1.data.toList else if t=2 then sgn (un a.f0) (un b.f0) else sgn a.f0 b.f0) else 0
def cmpC (t : Int) (a b : XV) : Int:=if t=3 then Lib.compareBytes a.f1.data.toList b.f1.data.toList else if t=2 then sgn (un a.f0) (un b.f0) else sgn a.f0 b.f0
def cmpFrom (T : List Int) (a b : List XV) : Nat→Nat→Int
 | 0,_=>0
 | m + 1,i=>if cmpV (rd T i) (rdV a i) (rdV b i)=0 then cmpFrom T a b m (i + 1) else cmpV (rd T i) (rdV a i) (rdV b i)
def cmpRow (T : List Int) (K : Int) (a b : List XV) : Int:=cmpFrom T a b (min (min (min K.toNat T.length) a.length) b.length) 0
def FitAt (T : List Int) (a : List XV) (m i : Nat) : Prop:=∀ j : Nat,i≤j→j < i + m→fitT (rd T j) (rdV a j)=true∧GV (rdV a j)
end Go.Proofs.Ytkodpbellndelaa.P

/- The document's example of a schema. -/
namespace Go.Proofs.Ytkodpbellndelaa.P
open Go.RowKit Go.Proofs.YtkodpbellndelaaW.PrintWords Go.Proofs.YtkodpbellndelaaW.PrintLast Go.Proofs.YtkodpbellndelaaW.PrintMore
theorem shown04_ev : Ev (fun k=>thresherlaw04_shown.f k) true:=Ev.of thresherlaw04_shown.mono (k:=12) (by kernel_rfl)
end Go.Proofs.Ytkodpbellndelaa.P

/- Numbers as bytes: what num.Var and num.PutVar say of small numbers, and of any bytes. -/
namespace Go.Proofs.Ytkodpbellndelaa.P
open Go.RowKit Go.Proofs.YtkodpbellndelaaW.PrintWords Go.Proofs.YtkodpbellndelaaW.PrintLast
set_option linter.unusedVariables false
def lenOk (n : Nat) : Bool:=match bits_Len64.f 4 (n : Int) with|some t=>decide (0≤t) && decide (t≤7)|none=>false
theorem lenOk_all : ∀ n : Fin 128,lenOk n=true:=by decide +kernel
theorem len_ev (n : Nat) (h : n < 128) : ∃ t,Ev (fun k=>bits_Len64.f k (n : Int)) t∧0≤t∧t≤7:=by
 have q:=lenOk_all ⟨n,h⟩
 unfold lenOk at q
 simp only at q
 cases e : bits_Len64.f 4 (n : Int) with
 | none=>rw [e] at q;simp at q
 | some t =>
  rw [e] at q
  simp only [Bool.and_eq_true,decide_eq_true_eq] at q
  exact ⟨t,Ev.of (bits_Len64.mono _) e,q.1,q.2⟩
def part7 (c : Int) : Int:=IntKind.u64.wrap (Go.bits .andNot .u8 c 128)
theorem part7_all : ∀ n : Fin 256,part7 (n : Nat)=((n % 128 : Nat) : Int):=by decide +kernel
theorem part7_lt (c : Int) (h0 : 0≤c) (h1 : c≤255) : ∃ n : Nat,part7 c=n∧n < 128:=by
 have:=part7_all ⟨c.toNat,by omega⟩
 rw [show ((⟨c.toNat,by omega⟩ : Fin 256) : Nat)=c.toNat from rfl,show ((c.toNat : Nat) : Int)=c by omega] at this
 exact ⟨_,this,Nat.mod_lt _ (by omega)⟩
def one7 (n : Nat) : Int:=Go.bits .or .u64 0 (shl .u64 (part7 n) 0)
theorem var_l0 (l : List Int) (hb : ∀ c ∈ l,0≤c∧c≤255) (hl : l.length≤1000) : ∀ (d i : Nat) (x : Int),i + d=l.length→∃ r,Ev (fun k=>num_Var.l0 k x (7 * i : Nat) l l.length i) r∧0≤r.2∧r.2≤l.length
 | 0,i,x,hi=>by
  refine ⟨(0,0),Ev.succ ?_,by simp,by simp⟩
  simp only [num_Var.l0]
  exact Ev.neg (by omega) (Ev.now _)
 | d + 1,i,x,hi=>by
  have h : i < l.length:=by omega
  obtain ⟨c0,c1⟩:=hb _ (List.getElem_mem h)
  have hr : rd l i=l[i]:=rd_lt l i h
  obtain ⟨n,hn,hn2⟩:=part7_lt l[i] c0 c1
  obtain ⟨t,ht,t0,t7⟩:=len_ev n hn2
  have ht' : Ev (fun k=>bits_Len64.f k (IntKind.u64.wrap (Go.bits .andNot .u8 l[i] 128))) t:=by
   rw [show IntKind.u64.wrap (Go.bits .andNot .u8 l[i] 128)=(n : Int) from hn];exact ht
  have e0 : wrap64 (((7 * i : Nat) : Int) + t)=((7 * i : Nat) : Int) + t:=w64 (by omega) (by omega)
  have e1 : wrap64 ((i : Int) + 1)=((i + 1 : Nat) : Int):=w64 (by omega) (by omega)
  have e2 : wrap64 (((7 * i : Nat) : Int) + 7)=((7 * (i + 1) : Nat) : Int):=(w64 (by omega) (by omega)).trans (by omega)
  have J : ∀ b : Bool,∃ r,Ev (fun k=>num_Var.j1 k x (7 * i : Nat) i l[i] (IntKind.u64.wrap (Go.bits .andNot .u8 l[i] 128)) l l.length i b) r∧0≤r.2∧r.2≤l.length:=by
   intro b
   cases b with
   | true =>
    refine ⟨(0,0),Ev.succ ?_,by simp,by simp⟩
    simp only [num_Var.j1]
    exact Ev.pos (by simp) (Ev.now _)
   | false =>
    by_cases q : l[i] < 128
    ·refine ⟨(Go.bits .or .u64 x (shl .u64 (IntKind.u64.wrap (Go.bits .andNot .u8 l[i] 128)) ((7 * i : Nat) : Int)),((i + 1 : Nat) : Int)),Ev.succ ?_,by simp;omega,by simp;omega⟩
     simp only [num_Var.j1]
     rw [e1]
     exact Ev.neg (by simp) (Ev.pos (by omega) (Ev.pos q (Ev.now _)))
    ·obtain ⟨r,hr2,r0,r1⟩:=var_l0 l hb hl d (i + 1) (Go.bits .or .u64 x (shl .u64 (IntKind.u64.wrap (Go.bits .andNot .u8 l[i] 128)) (7 * i : Nat))) (by omega)
     refine ⟨r,Ev.succ ?_,r0,r1⟩
     simp only [num_Var.j1]
     rw [e1,e2]
     exact Ev.neg (by simp) (Ev.pos (by omega) (Ev.neg q hr2))
  by_cases q1 : ((7 * i : Nat) : Int) + t > 64
  ·refine ⟨(0,0),Ev.succ ?_,by simp,by simp⟩
   simp only [num_Var.l0]
   rw [hr]
   refine Ev.pos (by omega) (Ev.pos (by omega) (Ev.pos (by omega) (Ev.bind ht' ?_)))
   rw [e0]
   exact Ev.pos q1 (Ev.now _)
  ·by_cases q2 : l[i] < 128
   ·by_cases q3 : l[i]=0
    ·obtain ⟨r,hr2,r0,r1⟩:=J (decide ((i : Int) > 0))
     refine ⟨r,Ev.succ ?_,r0,r1⟩
     simp only [num_Var.l0]
     rw [hr]
     refine Ev.pos (by omega) (Ev.pos (by omega) (Ev.pos (by omega) (Ev.bind ht' ?_)))
     rw [e0]
     exact Ev.neg q1 (Ev.pos q2 (Ev.pos q3 hr2))
    ·obtain ⟨r,hr2,r0,r1⟩:=J false
     refine ⟨r,Ev.succ ?_,r0,r1⟩
     simp only [num_Var.l0]
     rw [hr]
     refine Ev.pos (by omega) (Ev.pos (by omega) (Ev.pos (by omega) (Ev.bind ht' ?_)))
     rw [e0]
     exact Ev.neg q1 (Ev.pos q2 (Ev.neg q3 hr2))
   ·obtain ⟨r,hr2,r0,r1⟩:=J false
    refine ⟨r,Ev.succ ?_,r0,r1⟩
    simp only [num_Var.l0]
    rw [hr]
    refine Ev.pos (by omega) (Ev.pos (by omega) (Ev.pos (by omega) (Ev.bind ht' ?_)))
    rw [e0]
    exact Ev.neg q1 (Ev.neg q2 hr2)
theorem var_any (l : List Int) (hb : ∀ c ∈ l,0≤c∧c≤255) (hl : l.length≤1000) : ∃ r,Ev (fun k=>num_Var.f k l) r∧0≤r.2∧r.2≤l.length:=by
 obtain ⟨r,h,r0,r1⟩:=var_l0 l hb hl l.length 0 0 (by omega)
 exact ⟨r,by simp only [num_Var.f];exact h,r0,r1⟩
theorem put_small (c : Int) (h0 : 0≤c) (h1 : c < 128) : Ev (fun k=>num_PutVar.f k (IntKind.u64.wrap c)) [c]:=by
 have e : IntKind.u64.wrap c=c:=by rw [show IntKind.u64.wrap c=c % 18446744073709551616 from rfl];omega
 rw [e]
 simp only [num_PutVar.f]
 refine Ev.succ ?_
 simp only [num_PutVar.l0]
 refine Ev.neg (by omega) (Ev.pos (by simp) ((Ev.now _).eq ?_))
 rw [List.nil_append,Int.emod_eq_of_lt h0 (by omega)]
end Go.Proofs.Ytkodpbellndelaa.P

/- The document's Compare of values tells the same order. -/
namespace Go.Proofs.Ytkodpbellndelaa.P
open Go.RowKit Go.Proofs.YtkodpbellndelaaW.PrintWords Go.Proofs.YtkodpbellndelaaW.PrintLast Go.Proofs.YtkodpbellndelaaW.PrintMore
set_option linter.unusedVariables false
set_option linter.unusedSimpArgs false
def GR (r : List XV) : Prop:=∀ v ∈ r,GV v∧v.f1.size≤9223372036854775807
theorem GR.rdV {r : List XV} (h : GR r) (i : Nat) : GV (rdV r i)∧(P.rdV r i).f1.size≤9223372036854775807:=by
 by_cases hi : i < r.length
 ·show GV (rd_T34 r i)∧(rd_T34 r i).f1.size≤_
  rw [rdV_lt r i hi]
  exact h _ (List.getElem_mem hi)
 ·show GV (rd_T34 r i)∧(rd_T34 r i).f1.size≤_
  rw [rdV_ge r i (by omega)]
  exact ⟨⟨by simp,by simp⟩,by decide⟩
end Go.Proofs.Ytkodpbellndelaa.P

/- Numbers as bytes: num.Var and the document's Var say the same of any bytes. -/
namespace Go.Proofs.Ytkodpbellndelaa.P
open Go.RowKit Go.Proofs.YtkodpbellndelaaW.PrintWords Go.Proofs.YtkodpbellndelaaW.PrintLast
set_option linter.unusedVariables false
theorem u64_small (n : Nat) (h : n < 18446744073709551616) : IntKind.u64.wrap (n : Int)=n:=by
 rw [show IntKind.u64.wrap (n : Int)=(n : Int) % 18446744073709551616 from rfl];omega
theorem or_add (x p s : Nat) (hx : x < 2 ^ s) (hb : x + p * 2 ^ s < 18446744073709551616) : Go.bits .or .u64 (x : Int) ((p * 2 ^ s : Nat) : Int)=((x + p * 2 ^ s : Nat) : Int):=by
 have h1 : (BitVec.ofInt 64 (x : Int)).toNat=x:=by rw [BitVec.ofInt_natCast,BitVec.toNat_ofNat,Nat.mod_eq_of_lt (by omega)]
 have h2 : (BitVec.ofInt 64 ((p * 2 ^ s : Nat) : Int)).toNat=p * 2 ^ s:=by rw [BitVec.ofInt_natCast,BitVec.toNat_ofNat,Nat.mod_eq_of_lt (by omega)]
 show IntKind.u64.wrap (((BitVec.ofInt 64 (x : Int)) ||| (BitVec.ofInt 64 ((p * 2 ^ s : Nat) : Int))).toNat : Int)=_
 rw [BitVec.toNat_or,h1,h2]
 have h3:=Nat.shiftLeft_add_eq_or_of_lt hx p
 rw [Nat.shiftLeft_eq] at h3
 rw [Nat.or_comm,← h3,Nat.add_comm (p * 2 ^ s) x]
 exact u64_small _ hb
theorem shl_at (p s : Nat) (hs : s≤63) (h : p * 2 ^ s < 18446744073709551616) : shl .u64 (p : Int) (s : Int)=((p * 2 ^ s : Nat) : Int):=by
 unfold shl
 rw [show min ((s : Int)).toNat IntKind.u64.bits=s by rw [Int.toNat_natCast];exact Nat.min_eq_left (show s≤64 by omega)]
 rw [show (p : Int) * 2 ^ s=((p * 2 ^ s : Nat) : Int) by simp]
 exact u64_small _ h
def enc (x : Nat) : List Int:=if x < 128 then [(x : Int)] else ((x % 128 + 128 : Nat) : Int) :: enc (x / 128)
termination_by x
decreasing_by omega
def pre : Nat→Nat→List Int
 | 0,_=>[]
 | i + 1,x=>((x % 128 + 128 : Nat) : Int) :: pre i (x / 128)
theorem pre_length : ∀ i x,(pre i x).length=i
 | 0,_=>rfl
 | i + 1,x=>by simp [pre,pre_length i]
theorem enc_pre : ∀ (i x p : Nat),x < 128 ^ i→p < 128→(p≠0 ∨ i=0)→enc (x + p * 128 ^ i)=pre i x ++ [(p : Int)]
 | 0,x,p,hx,hp,_=>by
  have : x=0:=by simpa using hx
  subst this
  rw [enc,if_pos (by omega)]
  simp [pre]
 | i + 1,x,p,hx,hp,hq=>by
  have hp0 : p≠0:=hq.resolve_right (by omega)
  have hpow : 128 ^ (i + 1)=128 * 128 ^ i:=by rw [Nat.pow_succ,Nat.mul_comm]
  have h1 : 0 < 128 ^ i:=Nat.pow_pos (by omega)
  have hge : 128 * 128 ^ i≤p * (128 * 128 ^ i):=Nat.le_mul_of_pos_left _ (by omega)
  have hmul : p * (128 * 128 ^ i)=128 * (p * 128 ^ i):=by rw [Nat.mul_left_comm]
  rw [hpow] at hx ⊢
  rw [hmul] at hge ⊢
  have hd : (x + 128 * (p * 128 ^ i)) / 128=x / 128 + p * 128 ^ i:=by omega
  have hm : (x + 128 * (p * 128 ^ i)) % 128=x % 128:=by omega
  rw [enc,if_neg (by omega),hd,hm,enc_pre i (x / 128) p (by omega) hp (Or.inl hp0)]
  rfl
theorem pre_snoc : ∀ (i x p : Nat),x < 128 ^ i→p < 128→pre (i + 1) (x + p * 128 ^ i)=pre i x ++ [((p + 128 : Nat) : Int)]
 | 0,x,p,hx,hp=>by
  have : x=0:=by simpa using hx
  subst this
  simp only [pre,Nat.pow_zero,Nat.mul_one,Nat.zero_add,List.nil_append]
  rw [Nat.mod_eq_of_lt hp]
 | i + 1,x,p,hx,hp=>by
  have hpow : 128 ^ (i + 1)=128 * 128 ^ i:=by rw [Nat.pow_succ,Nat.mul_comm]
  rw [hpow] at hx ⊢
  have hmul : p * (128 * 128 ^ i)=128 * (p * 128 ^ i):=by rw [Nat.mul_left_comm]
  rw [hmul]
  have hd : (x + 128 * (p * 128 ^ i)) / 128=x / 128 + p * 128 ^ i:=by omega
  have hm : (x + 128 * (p * 128 ^ i)) % 128=x % 128:=by omega
  show ((((x + 128 * (p * 128 ^ i)) % 128 + 128 : Nat) : Int) :: pre (i + 1) ((x + 128 * (p * 128 ^ i)) / 128))=_
  rw [hd,hm,pre_snoc i (x / 128) p (by omega) hp]
  rfl
theorem enc_ne_nil (x : Nat) : enc x≠[]:=by
 rw [enc]
 split <;> simp
theorem enc_bytes : ∀ (n x : Nat),x≤n→∀ c ∈ enc x,0≤c∧c≤255
 | n,x,h=>by
  intro c hc
  rw [enc] at hc
  split at hc
  ·rw [List.mem_singleton.mp hc];omega
  ·rcases List.mem_cons.mp hc with rfl|hc
   ·omega
   ·cases n with
    | zero=>omega
    | succ n=>exact enc_bytes n (x / 128) (by omega) c hc
theorem enc_last : ∀ (n x : Nat) (S : List Int),x≤n→enc x=S ++ [0]→S=[]:=by
 intro n
 induction n with
 | zero =>
  intro x S h e
  have : x=0:=by omega
  subst this
  rw [enc,if_pos (by omega)] at e
  have hl:=congrArg List.length e
  simp at hl
  exact hl
 | succ n ih =>
  intro x S h e
  rw [enc] at e
  split at e
  ·have hl:=congrArg List.length e
   simp at hl
   exact hl
  ·exfalso
   cases S with
   | nil =>
    simp only [List.nil_append] at e
    injection e with e1 e2
    exact enc_ne_nil _ e2
   | cons s S =>
    simp only [List.cons_append] at e
    injection e with e1 e2
    have:=ih (x / 128) S (by omega) e2
    subst this
    rw [List.nil_append] at e2
    rw [enc] at e2
    split at e2
    ·have:=List.head_eq_of_cons_eq e2
     omega
    ·injection e2 with e3 e4
     exact enc_ne_nil _ e4
theorem enc_short : ∀ (i x : Nat),x < 128 ^ (i + 1)→(enc x).length≤i + 1
 | 0,x,h=>by
  rw [enc,if_pos (by simpa using h)]
  simp
 | i + 1,x,h=>by
  rw [enc]
  split
  ·simp
  ·rw [List.length_cons]
   have hpow : 128 ^ (i + 1 + 1)=128 * 128 ^ (i + 1):=by rw [Nat.pow_succ,Nat.mul_comm]
   rw [hpow] at h
   have:=enc_short i (x / 128) (by omega)
   omega
theorem refput_loop : ∀ (n x : Nat) (acc : List Int),x≤n→x < 18446744073709551616→acc.length + (enc x).length≤1000→Ev (fun k=>thresherref01_PutVar.l0 k (x : Int) acc) (acc ++ enc x)
 | n,x,acc,h,hx,hl=>by
  rw [enc] at hl ⊢
  split
  ·rename_i q
   refine Ev.succ ?_
   simp only [thresherref01_PutVar.l0]
   refine Ev.neg (by omega) (Ev.pos ?_ ((Ev.now _).eq ?_))
   ·rw [if_pos q] at hl;simp at hl;omega
   ·rw [Int.emod_eq_of_lt (by omega) (by omega)]
  ·rename_i q
   rw [if_neg q,List.length_cons] at hl
   cases n with
   | zero=>omega
   | succ n =>
    have ih:=refput_loop n (x / 128) (acc ++ [((x % 128 + 128 : Nat) : Int)]) (by omega) (by omega) (by rw [List.length_append];simp;omega)
    rw [List.append_assoc] at ih
    have e1 : IntKind.u64.wrap (Int.tdiv (x : Int) 128)=((x / 128 : Nat) : Int):=by
     rw [show Int.tdiv (x : Int) 128=((x / 128 : Nat) : Int) from (Int.ofNat_tdiv x 128).symm]
     exact u64_small _ (by omega)
    have e2 : (Int.tmod (x : Int) 128 + 128) % 256=((x % 128 + 128 : Nat) : Int):=by
     rw [show Int.tmod (x : Int) 128=((x % 128 : Nat) : Int) from (Int.ofNat_tmod x 128).symm]
     omega
    refine Ev.succ ?_
    simp only [thresherref01_PutVar.l0]
    rw [e1,e2]
    exact Ev.pos (by omega) (Ev.pos (by omega) ih)
theorem refput_ev (x : Nat) (hx : x < 18446744073709551616) : Ev (fun k=>thresherref01_PutVar.f k (x : Int)) (enc x):=by
 have h10 : (128 : Nat) ^ (9 + 1)=1180591620717411303424:=by decide +kernel
 have h:=enc_short 9 x (by rw [h10];omega)
 simp only [thresherref01_PutVar.f]
 exact refput_loop x x [] (Nat.le_refl _) hx (by simp;omega)
theorem str_inj : ∀ (a b : List Int),(∀ c ∈ a,0≤c∧c≤255)→(∀ c ∈ b,0≤c∧c≤255)→((strOfNums a).toList=(strOfNums b).toList ↔ a=b):=by
 intro a b ha hb
 constructor
 ·intro h
  have h2 : (strOfNums a).data.toList=(strOfNums b).data.toList:=by rw [bytes_eq h]
  rw [strOfNums_data,strOfNums_data] at h2
  clear h
  induction a generalizing b with
  | nil =>
   cases b with
   | nil=>rfl
   | cons y b=>simp at h2
  | cons x a ih =>
   cases b with
   | nil=>simp at h2
   | cons y b =>
    simp only [List.map_cons] at h2
    injection h2 with e1 e2
    obtain ⟨x0,x1⟩:=ha x List.mem_cons_self
    obtain ⟨y0,y1⟩:=hb y List.mem_cons_self
    have e3:=congrArg UInt8.toNat e1
    simp only [UInt8.toNat_ofNat'] at e3
    rw [ih b (fun c hc=>ha c (List.mem_cons_of_mem _ hc)) (fun c hc=>hb c (List.mem_cons_of_mem _ hc)) e2]
    congr 1
    omega
 ·rintro rfl;rfl
end Go.Proofs.Ytkodpbellndelaa.P

/- The document's Compare of rows tells the same order. -/
namespace Go.Proofs.Ytkodpbellndelaa.P
open Go.RowKit Go.Proofs.YtkodpbellndelaaW.PrintWords Go.Proofs.YtkodpbellndelaaW.PrintLast Go.Proofs.YtkodpbellndelaaW.PrintMore
set_option linter.unusedVariables false
set_option linter.unusedSimpArgs false
end Go.Proofs.Ytkodpbellndelaa.P

/- num.Var and the document's Var say the same of any bytes. -/
namespace Go.Proofs.Ytkodpbellndelaa.P
open Go.RowKit Go.Proofs.YtkodpbellndelaaW.PrintWords Go.Proofs.YtkodpbellndelaaW.PrintLast
set_option linter.unusedVariables false
def lenOk2 (n : Nat) : Bool:=match bits_Len64.f 4 (n : Int) with|some t=>decide (0≤t) && decide (t≤7) && (decide (t≤1) == decide (n≤1))|none=>false
theorem lenOk2_all : ∀ n : Fin 128,lenOk2 n=true:=by decide +kernel
theorem len_ev2 (n : Nat) (h : n < 128) : ∃ t,Ev (fun k=>bits_Len64.f k (n : Int)) t∧0≤t∧t≤7∧(t≤1 ↔ n≤1):=by
 have q:=lenOk2_all ⟨n,h⟩
 unfold lenOk2 at q
 simp only at q
 cases e : bits_Len64.f 4 (n : Int) with
 | none=>rw [e] at q;simp at q
 | some t =>
  rw [e] at q
  simp only [Bool.and_eq_true,decide_eq_true_eq,beq_iff_eq,decide_eq_decide] at q
  exact ⟨t,Ev.of (bits_Len64.mono _) e,q.1.1,q.1.2,q.2⟩
section
variable (l : List Int) (hb : ∀ c ∈ l,0≤c∧c≤255) (hl : l.length≤1000)
include hb hl
theorem num_ten (x : Int) : Ev (fun k=>num_Var.l0 k x ((70 : Nat) : Int) l l.length ((10 : Nat) : Int)) (0,0):=by
 refine Ev.succ ?_
 simp only [num_Var.l0]
 by_cases q : 10 < l.length
 ·obtain ⟨c0,c1⟩:=hb _ (List.getElem_mem q)
  obtain ⟨n,hn,hn2⟩:=part7_lt l[10] c0 c1
  obtain ⟨t,ht,t0,t7⟩:=len_ev n hn2
  rw [rd_lt l 10 q]
  have ht' : Ev (fun k=>bits_Len64.f k (IntKind.u64.wrap (Go.bits .andNot .u8 l[10] 128))) t:=by
   rw [show IntKind.u64.wrap (Go.bits .andNot .u8 l[10] 128)=(n : Int) from hn];exact ht
  refine Ev.pos (by omega) (Ev.pos (by omega) (Ev.pos (by omega) (Ev.bind ht' ?_)))
  rw [w64 (by omega) (by omega)]
  exact Ev.pos (by omega) (Ev.now _)
 ·exact Ev.neg (by omega) (Ev.now _)
omit hb hl in
theorem ref_ten (x s : Int) : Ev (fun k=>thresherref01_Var.l0 k l x s ((10 : Nat) : Int)) (0,0):=by
 have J : Ev (fun k=>thresherref01_Var.j1 k l x s ((10 : Nat) : Int) false) (0,0):=by
  refine Ev.succ ?_
  simp only [thresherref01_Var.j1]
  exact Ev.neg (by simp) (Ev.now _)
 refine Ev.succ ?_
 simp only [thresherref01_Var.l0]
 by_cases q : ((10 : Nat) : Int) < (l.length : Int)
 ·exact Ev.pos q J
 ·exact Ev.neg q J
theorem var_lock : ∀ (d i x : Nat),i + d=10→i≤l.length→x < 128 ^ i→l.take i=pre i x→∃ r,Ev (fun k=>num_Var.l0 k (x : Int) ((7 * i : Nat) : Int) l l.length (i : Int)) r∧(i≤9→Ev (fun k=>thresherref01_Var.l0 k l (x : Int) ((128 ^ i : Nat) : Int) (i : Int)) r)∧0≤r.1
 | 0,i,x,hd,hi,hx,ht=>by
  obtain rfl : i=10:=by omega
  exact ⟨(0,0),num_ten l hb hl x,fun h=>by omega,by simp⟩
 | d + 1,i,x,hd,hi,hx,hpre=>by
  have hi9 : i≤9:=by omega
  have hp0 : 0 < 128 ^ i:=Nat.pow_pos (by omega)
  have hp9 : 128 ^ i≤128 ^ 9:=Nat.pow_le_pow_right (by omega) hi9
  have h9 : (128 : Nat) ^ 9=9223372036854775808:=by decide +kernel
  have h27 : 2 ^ (7 * i)=128 ^ i:=by rw [Nat.pow_mul]
  rw [h9] at hp9
  by_cases q : i < l.length
  ·obtain ⟨c0,c1⟩:=hb _ (List.getElem_mem q)
   obtain ⟨c,hc⟩ : ∃ c : Nat,l[i]=c:=⟨l[i].toNat,by omega⟩
   have hr : rd l i=c:=(rd_lt l i q).trans hc
   rw [hc] at c0 c1
   have hpart : part7 (c : Int)=((c % 128 : Nat) : Int):=part7_all ⟨c,by omega⟩
   have hpart2 : IntKind.u64.wrap (Go.bits .andNot .u8 (c : Int) 128)=((c % 128 : Nat) : Int):=hpart
   have hp128 : c % 128 < 128:=Nat.mod_lt _ (by omega)
   obtain ⟨t,ht,t0,t7,t1⟩:=len_ev2 (c % 128) hp128
   have hsn : l.take (i + 1)=pre i x ++ [(c : Int)]:=by rw [List.take_succ_eq_append_getElem q,hpre,hc]
   have hbt : ∀ y ∈ pre i x ++ [(c : Int)],0≤y∧y≤255:=fun y hy=>hb y (by rw [← hsn] at hy;exact List.mem_of_mem_take hy)
   have hpow : 128 ^ (i + 1)=128 * 128 ^ i:=by rw [Nat.pow_succ,Nat.mul_comm]
   obtain ⟨p,hp⟩ : ∃ p,p=c % 128:=⟨_,rfl⟩
   rw [← hp] at hpart2 hp128 ht t1
   obtain ⟨B,hB⟩ : ∃ B,B=128 ^ i:=⟨_,rfl⟩
   have hmulB : p * B≤127 * B:=Nat.mul_le_mul_right _ (by omega)
   have hin : i≤8 ∨ p≤1→x + p * B < 18446744073709551616:=by
    intro h
    rcases h with h|h
    ·have:=Nat.pow_le_pow_right (show 0 < 128 by omega) h
     rw [show (128 : Nat) ^ 8=72057594037927936 by decide +kernel,← hB] at this
     rw [← hB] at hx
     omega
    ·have:=Nat.mul_le_mul_right B h
     rw [← hB] at hx hp9
     omega
   have hor : i≤8 ∨ p≤1→Go.bits .or .u64 (x : Int) (shl .u64 (IntKind.u64.wrap (Go.bits .andNot .u8 (c : Int) 128)) ((7 * i : Nat) : Int))=((x + p * B : Nat) : Int):=by
    intro h
    have hlt:=hin h
    rw [hpart2,shl_at p (7 * i) (by omega) (by rw [h27,← hB];omega),or_add x p (7 * i) (by rw [h27];exact hx) (by rw [h27,← hB];exact hlt),h27,← hB]
   have e1 : wrap64 ((i : Int) + 1)=((i + 1 : Nat) : Int):=w64 (by omega) (by omega)
   have E1:=Aside0.mk e1
   clear e1
   have e2 : wrap64 (((7 * i : Nat) : Int) + 7)=((7 * (i + 1) : Nat) : Int):=(w64 (by omega) (by omega)).trans (by omega)
   have E2:=Aside0.mk e2
   clear e2
   have E0:=Aside0.mk (show wrap64 (((7 * i : Nat) : Int) + t)=((7 * i : Nat) : Int) + t from w64 (by omega) (by omega))
   have ht' : Ev (fun k=>bits_Len64.f k (IntKind.u64.wrap (Go.bits .andNot .u8 (c : Int) 128))) t:=by rw [hpart2];exact ht
   have hm : Int.tmod (c : Int) 128=(p : Int):=by rw [hp];exact (Int.ofNat_tmod c 128).symm
   obtain ⟨y,hy⟩ : ∃ y : Nat,y=(x + p * B) % 18446744073709551616:=⟨_,rfl⟩
   have hpB : p * B < 18446744073709551616 * 128:=by rw [← hB] at hp9;omega
   have hy2 : IntKind.u64.wrap ((x : Int) + (IntKind.u64.wrap ((IntKind.u64.wrap (Int.tmod (c : Int) 128)) * ((B : Nat) : Int))))=(y : Int):=by
    rw [hm,u64_small p (by omega)]
    rw [show (p : Int) * (B : Int)=((p * B : Nat) : Int) by simp]
    rw [show IntKind.u64.wrap ((p * B : Nat) : Int)=(((p * B) % 18446744073709551616 : Nat) : Int) from rfl]
    rw [show (x : Int) + (((p * B) % 18446744073709551616 : Nat) : Int)=((x + (p * B) % 18446744073709551616 : Nat) : Int) from rfl]
    rw [show IntKind.u64.wrap ((x + (p * B) % 18446744073709551616 : Nat) : Int)=(((x + (p * B) % 18446744073709551616) % 18446744073709551616 : Nat) : Int) from rfl]
    rw [hy]
    congr 1
    omega
   have hysm : i≤8 ∨ p≤1→y=x + p * B:=fun h=>by rw [hy];exact Nat.mod_eq_of_lt (hin h)
   have hyl : y < 18446744073709551616:=by rw [hy];exact Nat.mod_lt _ (by omega)
   by_cases q1 : c < 128
   ·-- a byte that ends
    have hpc : p=c:=by rw [hp];exact Nat.mod_eq_of_lt q1
    have hencs : (i≤8 ∨ p≤1)→(c≠0 ∨ i=0)→enc y=pre i x ++ [(c : Int)]:=by
     intro h h2
     rw [hysm h,hB,hpc]
     exact enc_pre i x c hx q1 h2
    have henc0 : (i≤8 ∨ p≤1)→c=0→0 < i→enc y≠pre i x ++ [(c : Int)]:=by
     intro h h2 h3 he
     rw [h2] at he
     have:=enc_last y y (pre i x) (Nat.le_refl _) he
     have hl3:=pre_length i x
     rw [this] at hl3
     simp at hl3
     omega
    have henc2 : ¬ (i≤8 ∨ p≤1)→enc y≠pre i x ++ [(c : Int)]:=by
     intro h he
     have hi9' : i=9:=by omega
     have hp2 : 2≤p:=by omega
     subst hi9'
     rw [h9] at hx hB
     subst hB
     rcases Nat.mod_two_eq_zero_or_one p with e|e
     ·have hyx : y=x:=by rw [hy];omega
      have:=enc_short 8 y (by rw [hyx];rw [show (128 : Nat) ^ (8 + 1)=9223372036854775808 by decide +kernel];exact hx)
      rw [he,List.length_append,pre_length] at this
      simp at this
     ·have hyx : y=x + 1 * 128 ^ 9:=by rw [hy,h9];omega
      have h5:=enc_pre 9 x 1 (by rw [h9];exact hx) (by omega) (Or.inl (by omega))
      rw [← hyx,he] at h5
      have h6:=List.append_cancel_left h5
      injection h6 with h7 _
      omega
    have hput:=refput_ev y hyl
    have hstr:=str_inj (enc y) (pre i x ++ [(c : Int)]) (enc_bytes y y (Nat.le_refl _)) hbt
    have refJ : ∀ r,(enc y=pre i x ++ [(c : Int)]→r=((y : Int),((i + 1 : Nat) : Int)))→(enc y≠pre i x ++ [(c : Int)]→r=(0,0))→Ev (fun k=>thresherref01_Var.l0 k l (x : Int) ((128 ^ i : Nat) : Int) (i : Int)) r:=by
     intro r h1 h2
     refine Ev.succ ?_
     simp only [thresherref01_Var.l0]
     refine Ev.pos (by omega) (Ev.succ ?_)
     simp only [thresherref01_Var.j1]
     rw [← hB,hr,hy2,E1.out,Int.toNat_natCast,hsn]
     refine Ev.pos (by simp;omega) (Ev.pos (by omega) (Ev.pos (by omega) (Ev.pos (by omega) (Ev.bind hput (Ev.pos (by omega) (Ev.pos (by omega) ?_))))))
     by_cases he : enc y=pre i x ++ [(c : Int)]
     ·exact Ev.pos (hstr.mpr he) ((Ev.now _).eq (h1 he).symm)
     ·exact Ev.neg (fun h=>he (hstr.mp h)) ((Ev.now _).eq (h2 he).symm)
    by_cases q2 : i≤8 ∨ p≤1
    ·have q2' : ¬ (((7 * i : Nat) : Int) + t > 64):=by
      rcases q2 with h|h
      ·omega
      ·have:=t1.mpr h;omega
     by_cases q3 : c=0∧0 < i
     ·refine ⟨(0,0),?_,fun _=>refJ _ (fun h=>absurd h (henc0 q2 q3.1 q3.2)) (fun _=>rfl),by simp⟩
      refine Ev.succ ?_
      simp only [num_Var.l0]
      rw [hr]
      refine Ev.pos (by omega) (Ev.pos (by omega) (Ev.pos (by omega) (Ev.bind ht' ?_)))
      rw [E0.out]
      refine Ev.neg q2' (Ev.pos (by omega) (Ev.pos (by omega) (Ev.succ ?_)))
      simp only [num_Var.j1]
      exact Ev.pos (by simp;omega) (Ev.now _)
     ·have J : Ev (fun k=>num_Var.j1 k (x : Int) ((7 * i : Nat) : Int) (i : Int) (c : Int) (IntKind.u64.wrap (Go.bits .andNot .u8 (c : Int) 128)) l l.length (i : Int) false) ((y : Int),((i + 1 : Nat) : Int)):=by
       refine Ev.succ ?_
       simp only [num_Var.j1]
       rw [hor q2,E1.out,← hysm q2]
       exact Ev.neg (by simp) (Ev.pos (by omega) (Ev.pos (by omega) (Ev.now _)))
      refine ⟨((y : Int),((i + 1 : Nat) : Int)),?_,fun _=>refJ _ (fun _=>rfl) (fun h=>absurd (hencs q2 (by omega)) h),by simp⟩
      refine Ev.succ ?_
      simp only [num_Var.l0]
      rw [hr]
      refine Ev.pos (by omega) (Ev.pos (by omega) (Ev.pos (by omega) (Ev.bind ht' ?_)))
      rw [E0.out]
      refine Ev.neg q2' (Ev.pos (by omega) ?_)
      by_cases q4 : (c : Int)=0
      ·refine Ev.pos q4 ?_
       rw [show decide ((i : Int) > 0)=false from decide_eq_false (by omega)]
       exact J
      ·exact Ev.neg q4 J
    ·have q2' : ((7 * i : Nat) : Int) + t > 64:=by
      have : ¬ t≤1:=fun h=>q2 (Or.inr (t1.mp h))
      omega
     refine ⟨(0,0),?_,fun _=>refJ _ (fun h=>absurd h (henc2 q2)) (fun _=>rfl),by simp⟩
     refine Ev.succ ?_
     simp only [num_Var.l0]
     rw [hr]
     refine Ev.pos (by omega) (Ev.pos (by omega) (Ev.pos (by omega) (Ev.bind ht' ?_)))
     rw [E0.out]
     exact Ev.pos q2' (Ev.now _)
   ·-- a byte that goes on
    have hpc : c=p + 128:=by omega
    have refJ : ∀ r,Ev (fun k=>thresherref01_Var.l0 k l (y : Int) (IntKind.u64.wrap ((B : Int) * 128)) ((i + 1 : Nat) : Int)) r→Ev (fun k=>thresherref01_Var.l0 k l (x : Int) ((128 ^ i : Nat) : Int) (i : Int)) r:=by
     intro r h1
     refine Ev.succ ?_
     simp only [thresherref01_Var.l0]
     refine Ev.pos (by omega) (Ev.succ ?_)
     simp only [thresherref01_Var.j1]
     rw [← hB,hr,hy2,E1.out]
     exact Ev.pos (by simp;omega) (Ev.pos (by omega) (Ev.pos (by omega) (Ev.neg (by omega) h1)))
    have numJ : ∀ r,¬ (((7 * i : Nat) : Int) + t > 64)→Ev (fun k=>num_Var.l0 k (Go.bits .or .u64 (x : Int) (shl .u64 (IntKind.u64.wrap (Go.bits .andNot .u8 (c : Int) 128)) ((7 * i : Nat) : Int))) ((7 * (i + 1) : Nat) : Int) l l.length ((i + 1 : Nat) : Int)) r→Ev (fun k=>num_Var.l0 k (x : Int) ((7 * i : Nat) : Int) l l.length (i : Int)) r:=by
     intro r h0 h1
     refine Ev.succ ?_
     simp only [num_Var.l0]
     rw [hr]
     refine Ev.pos (by omega) (Ev.pos (by omega) (Ev.pos (by omega) (Ev.bind ht' ?_)))
     rw [E0.out]
     refine Ev.neg h0 (Ev.neg (by omega) (Ev.succ ?_))
     simp only [num_Var.j1]
     rw [E1.out,E2.out]
     exact Ev.neg (by simp) (Ev.pos (by omega) (Ev.neg (by omega) h1))
    by_cases q2 : i≤8
    ·have hps:=pre_snoc i x p hx hp128
     have hx2 : x + p * B < 128 ^ (i + 1):=by rw [hpow,← hB];rw [← hB] at hx;omega
     obtain ⟨r,r1,r2,r3⟩:=var_lock d (i + 1) (x + p * B) (by omega) (by omega) hx2 (by rw [hsn,hB,hps,hpc])
     refine ⟨r,numJ r (by omega) (by rw [hor (Or.inl q2)];exact r1),fun _=>refJ r ?_,r3⟩
     have hsc : IntKind.u64.wrap ((B : Int) * 128)=((128 ^ (i + 1) : Nat) : Int):=by
      have hle:=Nat.pow_le_pow_right (show 0 < 128 by omega) (show i + 1≤9 by omega)
      rw [h9] at hle
      rw [show (B : Int) * 128=((128 * B : Nat) : Int) by omega,hB,← hpow]
      exact u64_small _ (by omega)
     rw [hsc,hysm (Or.inl q2)]
     exact r2 (by omega)
    ·have hi9' : i=9:=by omega
     subst hi9'
     refine ⟨(0,0),?_,fun _=>refJ _ (ref_ten l _ _),by simp⟩
     by_cases q3 : ((7 * 9 : Nat) : Int) + t > 64
     ·refine Ev.succ ?_
      simp only [num_Var.l0]
      rw [hr]
      refine Ev.pos (by omega) (Ev.pos (by omega) (Ev.pos (by omega) (Ev.bind ht' ?_)))
      rw [E0.out]
      exact Ev.pos q3 (Ev.now _)
     ·exact numJ _ q3 (num_ten l hb hl _)
  ·refine ⟨(0,0),?_,fun _=>?_,by simp⟩
   ·refine Ev.succ ?_
    simp only [num_Var.l0]
    exact Ev.neg (by omega) (Ev.now _)
   ·refine Ev.succ ?_
    simp only [thresherref01_Var.l0]
    refine Ev.neg (by omega) (Ev.succ ?_)
    simp only [thresherref01_Var.j1]
    exact Ev.neg (by simp) (Ev.now _)
theorem var_same : ∃ r,Ev (fun k=>num_Var.f k l) r∧Ev (fun k=>thresherref01_Var.f k l) r∧0≤r.1∧0≤r.2∧r.2≤l.length:=by
 obtain ⟨r,h1,h2,h3⟩:=var_lock l hb hl 10 0 0 (by omega) (by omega) (by simp) (by simp [pre])
 have h4 : Ev (fun k=>num_Var.f k l) r:=by simp only [num_Var.f];exact h1
 obtain ⟨r',⟨K',hr'⟩,r0,r1⟩:=var_any l hb hl
 have e : r=r':=by
  obtain ⟨K,hK⟩:=h4
  have a:=hK (max K K') (Nat.le_max_left _ _)
  have b:=hr' (max K K') (Nat.le_max_right _ _)
  simp only at a b
  rw [a] at b
  exact Option.some.inj b
 refine ⟨r,h4,?_,h3,by rw [e];exact r0,by rw [e];exact r1⟩
 simp only [thresherref01_Var.f]
 exact h2 (by omega)
end
end Go.Proofs.Ytkodpbellndelaa.P

/- A short row. -/
namespace Go.Proofs.Ytkodpbellndelaa.P
open Go.RowKit Go.Proofs.YtkodpbellndelaaW.PrintWords Go.Proofs.YtkodpbellndelaaW.PrintLast Go.Proofs.YtkodpbellndelaaW.PrintMore
set_option linter.unusedVariables false
set_option linter.unusedSimpArgs false
theorem GR_of {r : List XV} (h : ∀ a ∈ r,gd34 a) : GR r:=by
 intro v hv
 obtain ⟨h1,h2⟩:=h v hv
 unfold maxLen at h2
 exact ⟨wf_i64 h1,by omega⟩
theorem short_loop (r : List XV) (hr : GR r) : ∀ (d i : Nat) (acc : List XV),i + d=min r.length 70→acc.length=i→GR acc→∃ out,Ev (fun k=>thresherlaw04_short.l0 k r acc i) out∧GR out∧out.length≤70
 | 0,i,acc,hi,ha,hg=>by
  refine ⟨acc,Ev.succ ?_,hg,by omega⟩
  have hj : Ev (fun k=>thresherlaw04_short.j1 k r acc i false) acc:=by
   refine Ev.succ ?_
   simp only [thresherlaw04_short.j1]
   exact Ev.neg (by simp) (Ev.now _)
  simp only [thresherlaw04_short.l0]
  by_cases h : (i : Int) < r.length
  ·refine Ev.pos h ?_
   rw [decide_eq_false (by omega : ¬ (i : Int) < 70)]
   exact hj
  ·exact Ev.neg h hj
 | d + 1,i,acc,hi,ha,hg=>by
  have h : i < r.length:=by omega
  have hv:=hr _ (List.getElem_mem h)
  by_cases c : ((r[i].f1).size : Int) > 70
  ·obtain ⟨out,h1,h2,h3⟩:=short_loop r hr d (i + 1) (acc ++ [⟨r[i].f0,r[i].f1.extract 0 70⟩]) (by omega) (by simp;omega) (by
    intro v hm
    rcases List.mem_append.mp hm with hm|hm
    ·exact hg v hm
    ·rw [List.mem_singleton.mp hm]
     exact ⟨hv.1,by simp only [ByteArray.size_extract];omega⟩)
   refine ⟨out,Ev.succ ?_,h2,h3⟩
   simp only [thresherlaw04_short.l0]
   refine Ev.pos (by omega) (Ev.succ ?_)
   simp only [thresherlaw04_short.j1]
   rw [rdV_lt r i h]
   refine Ev.pos (decide_eq_true (by omega)) (Ev.pos (by omega) (Ev.pos (by omega) (Ev.pos c (Ev.pos (by omega) (Ev.pos (by omega) (Ev.succ ?_))))))
   simp only [thresherlaw04_short.j2]
   simp (disch:=omega) only [w64]
   exact Ev.pos (by omega) h1
  ·obtain ⟨out,h1,h2,h3⟩:=short_loop r hr d (i + 1) (acc ++ [⟨r[i].f0,r[i].f1⟩]) (by omega) (by simp;omega) (by
    intro v hm
    rcases List.mem_append.mp hm with hm|hm
    ·exact hg v hm
    ·rw [List.mem_singleton.mp hm]
     exact hv)
   refine ⟨out,Ev.succ ?_,h2,h3⟩
   simp only [thresherlaw04_short.l0]
   refine Ev.pos (by omega) (Ev.succ ?_)
   simp only [thresherlaw04_short.j1]
   rw [rdV_lt r i h]
   refine Ev.pos (decide_eq_true (by omega)) (Ev.pos (by omega) (Ev.pos (by omega) (Ev.neg c (Ev.succ ?_))))
   simp only [thresherlaw04_short.j2]
   simp (disch:=omega) only [w64]
   exact Ev.pos (by omega) h1
theorem short_ev (r : List XV) (hr : GR r) : ∃ out,Ev (fun k=>thresherlaw04_short.f k r) out∧GR out∧out.length≤70:=by
 simp only [thresherlaw04_short.f]
 exact short_loop r hr (min r.length 70) 0 [] (by omega) rfl (by intro v h;simp at h)
end Go.Proofs.Ytkodpbellndelaa.P

/- What schema.Check, Row, Batch and Take tell, the document's tell. -/
namespace Go.Proofs.Ytkodpbellndelaa.P
open Go.RowKit Go.Proofs.YtkodpbellndelaaW.PrintWords Go.Proofs.YtkodpbellndelaaW.PrintLast
set_option linter.unusedVariables false
theorem tcheck_j0 (T : List Int) (K M G : Int) : Ev (fun k=>thresherref04_Check.j0 k (T.length : Int) true T K M G) 20:=by
 refine Ev.succ ?_
 simp only [thresherref04_Check.j0]
 exact Ev.pos (by simp) (Ev.now _)
theorem tcheck_l0 (T : List Int) (K M G : Int) (hT : T.length≤100) : ∀ (d i : Nat),i + d=T.length→Ev (fun k=>thresherref04_Check.l0 k (T.length : Int) i T K M G) (if (T.drop i).any oddB=true then 20 else 0)
 | 0,i,hi=>by
  refine Ev.succ ?_
  simp only [thresherref04_Check.l0]
  exact Ev.neg (by omega) ((Ev.now _).eq (by rw [List.drop_of_length_le (by omega)];rfl))
 | d + 1,i,hi=>by
  have h : i < T.length:=by omega
  have ih:=tcheck_l0 T K M G hT d (i + 1) (by omega)
  rw [List.drop_eq_getElem_cons h,List.any_cons]
  refine Ev.succ ?_
  simp only [thresherref04_Check.l0]
  rw [rd_lt T i h]
  refine Ev.pos (by omega) (Ev.pos (by omega) (Ev.pos (by omega) ?_))
  by_cases q1 : T[i] < 1
  ·refine Ev.pos q1 ((Ev.now _).eq ?_)
   have ho : oddB T[i]=true:=by unfold oddB withinB;rw [decide_eq_false (show ¬ (1≤T[i]) by omega)];rfl
   rw [ho]
   rfl
  ·by_cases q2 : T[i] > 3
   ·refine Ev.neg q1 (Ev.pos q2 ((Ev.now _).eq ?_))
    have ho : oddB T[i]=true:=by unfold oddB withinB;rw [decide_eq_false (show ¬ (T[i]≤3) by omega),Bool.and_false];rfl
    rw [ho]
    rfl
   ·have ho : oddB T[i]=false:=by unfold oddB withinB;simp;omega
    rw [w64 (by omega) (by omega),ho,Bool.false_or]
    exact Ev.neg q1 (Ev.neg q2 ih)
theorem tcheck_ev (T : List Int) (K M G : Int) : Ev (fun k=>thresherref04_Check.f k T K M G) (checkN T K M G):=by
 simp only [thresherref04_Check.f]
 have hbad : ¬ (withinB (T.length : Int) 1 64=true∧T.any oddB=false∧withinB K 1 (T.length : Int)=true∧withinB M 1 3=true∧withinB G 1 64=true)→checkN T K M G=20:=fun h=>by unfold checkN;rw [if_neg h]
 have wb : ∀ a b c : Int,withinB a b c=true ↔ b≤a∧a≤c:=fun a b c=>by unfold withinB;simp
 simp only [wb] at hbad
 have J:=tcheck_j0 T K M G
 by_cases q1 : (T.length : Int) < 1
 ·exact Ev.pos q1 (J.eq (hbad (by omega)).symm)
 ·by_cases q2 : (T.length : Int) > 64
  ·exact Ev.neg q1 (Ev.pos q2 (J.eq (hbad (by omega)).symm))
  ·by_cases q3 : K < 1
   ·exact Ev.neg q1 (Ev.neg q2 (Ev.pos q3 (J.eq (hbad (by omega)).symm)))
   ·by_cases q4 : K > (T.length : Int)
    ·exact Ev.neg q1 (Ev.neg q2 (Ev.neg q3 (Ev.pos q4 (J.eq (hbad (by omega)).symm))))
    ·by_cases q5 : M < 1
     ·exact Ev.neg q1 (Ev.neg q2 (Ev.neg q3 (Ev.neg q4 (Ev.pos q5 (J.eq (hbad (by omega)).symm)))))
     ·by_cases q6 : M > 3
      ·exact Ev.neg q1 (Ev.neg q2 (Ev.neg q3 (Ev.neg q4 (Ev.neg q5 (Ev.pos q6 (J.eq (hbad (by omega)).symm))))))
      ·by_cases q7 : G < 1
       ·exact Ev.neg q1 (Ev.neg q2 (Ev.neg q3 (Ev.neg q4 (Ev.neg q5 (Ev.neg q6 (Ev.pos q7 (J.eq (hbad (by omega)).symm)))))))
       ·refine Ev.neg q1 (Ev.neg q2 (Ev.neg q3 (Ev.neg q4 (Ev.neg q5 (Ev.neg q6 (Ev.neg q7 ?_))))))
        by_cases q8 : G > 64
        ·rw [decide_eq_true q8]
         exact J.eq (hbad (by omega)).symm
        ·rw [decide_eq_false q8]
         refine Ev.succ ?_
         simp only [thresherref04_Check.j0]
         refine Ev.neg (by simp) ((tcheck_l0 T K M G (by omega) T.length 0 (by omega)).eq ?_)
         rw [List.drop_zero]
         by_cases q9 : T.any oddB=true
         ·rw [if_pos q9,hbad (by rw [q9];simp)]
         ·rw [if_neg q9]
          unfold checkN
          simp only [wb]
          rw [if_pos ⟨by omega,Bool.eq_false_iff.mpr q9,by omega,by omega,by omega⟩]
theorem tfits_ev (t n : Int) (s : ByteArray) : Ev (fun k=>thresherref03_Fits.f k t n s) (fitsB t n s):=by
 simp only [thresherref03_Fits.f]
 unfold fitsB
 by_cases h1 : t=1
 ·refine Ev.pos h1 (Ev.succ ?_)
  simp only [thresherref03_Fits.j0]
  exact Ev.pos (by simpa using h1) ((Ev.now _).eq (by rw [if_pos (Or.inl h1)]))
 ·refine Ev.neg h1 (Ev.succ ?_)
  simp only [thresherref03_Fits.j0]
  by_cases h2 : t=2
  ·exact Ev.pos (by simpa using h2) ((Ev.now _).eq (by rw [if_pos (Or.inr h2)]))
  ·rw [if_neg (show ¬ (t=1 ∨ t=2) by omega)]
   refine Ev.neg (by simpa using h2) ?_
   by_cases h3 : t=3
   ·rw [if_pos h3,if_pos h3]
    by_cases h4 : n=0
    ·exact Ev.pos h4 ((Ev.now _).eq (by rw [if_pos h4]))
    ·exact Ev.neg h4 ((Ev.now _).eq (by rw [if_neg h4]))
   ·exact Ev.neg h3 ((Ev.now _).eq (by rw [if_neg h3]))
theorem trow_l0 (T : List Int) (K M G : Int) (r : List XV) (hl : r.length=T.length) (hT : T.length≤1000) : ∀ (d i : Nat),i + d=T.length→Ev (fun k=>thresherref04_Row.l0 k r i T K M G) (rowOk T r d i)
 | 0,i,hi=>by
  refine Ev.succ ?_
  simp only [thresherref04_Row.l0]
  exact Ev.neg (by omega) (Ev.now _)
 | d + 1,i,hi=>by
  have ih:=trow_l0 T K M G r hl hT d (i + 1) (by omega)
  refine Ev.succ ?_
  simp only [thresherref04_Row.l0]
  unfold rowOk
  refine Ev.pos (by omega) (Ev.pos (by omega) (Ev.pos (by omega) (Ev.bind (tfits_ev _ _ _) ?_)))
  rw [w64 (by omega) (by omega)]
  by_cases q : fitsB (rd T i) (rd_T34 r i).f0 (rd_T34 r i).f1=true
  ·rw [if_pos q]
   exact Ev.pos q ih
  ·rw [if_neg q]
   exact Ev.neg q (Ev.now _)
theorem trow_ev (T : List Int) (K M G : Int) (r : List XV) (hT : T.length≤1000) : Ev (fun k=>thresherref04_Row.f k T K M G r) (rowB T r):=by
 simp only [thresherref04_Row.f]
 unfold rowB
 by_cases q : r.length=T.length
 ·rw [if_pos q.symm]
  exact Ev.pos (by omega) (trow_l0 T K M G r q hT T.length 0 (by omega))
 ·rw [if_neg (fun h=>q h.symm)]
  exact Ev.neg (by omega) (Ev.now _)
theorem tbatch_l0 (T : List Int) (K M G : Int) (hT : T.length≤1000) (l : List (List XV)) (hl : l.length≤1000) : ∀ (d i : Nat),i + d=l.length→Ev (fun k=>thresherref04_Batch.l0 k l i T K M G) (if (l.drop i).any (fun r=>!rowB T r)=true then 21 else 0)
 | 0,i,hi=>by
  refine Ev.succ ?_
  simp only [thresherref04_Batch.l0]
  exact Ev.neg (by omega) ((Ev.now _).eq (by rw [List.drop_of_length_le (by omega)];rfl))
 | d + 1,i,hi=>by
  have h : i < l.length:=by omega
  have ih:=tbatch_l0 T K M G hT l hl d (i + 1) (by omega)
  rw [List.drop_eq_getElem_cons h,List.any_cons]
  refine Ev.succ ?_
  simp only [thresherref04_Batch.l0]
  rw [rdR_lt l i h,w64 (by omega) (by omega)]
  refine Ev.pos (by omega) (Ev.pos (by omega) (Ev.bind (trow_ev T K M G l[i] hT) ?_))
  cases q : rowB T l[i] with
  | true=>exact Ev.pos rfl (ih.eq (by simp))
  | false=>exact Ev.neg (by simp) ((Ev.now _).eq (by simp))
theorem tbatch_ev (T : List Int) (K M G : Int) (hT : T.length≤1000) (l : List (List XV)) (hl : l.length≤1000) : Ev (fun k=>thresherref04_Batch.f k T K M G l) (batchN T l):=by
 simp only [thresherref04_Batch.f]
 unfold batchN withinB
 have J : Ev (fun k=>thresherref04_Batch.j0 k l true T K M G) 22:=by
  refine Ev.succ ?_
  simp only [thresherref04_Batch.j0]
  exact Ev.pos (by simp) (Ev.now _)
 by_cases q1 : (l.length : Int) < 1
 ·rw [if_neg (by simp;omega)]
  exact Ev.pos q1 J
 ·refine Ev.neg q1 ?_
  by_cases q2 : (l.length : Int) > 64
  ·rw [if_neg (by simp;omega),decide_eq_true q2]
   exact J
  ·rw [if_pos (by simp;omega),decide_eq_false q2]
   refine Ev.succ ?_
   simp only [thresherref04_Batch.j0]
   refine Ev.neg (by simp) ((tbatch_l0 T K M G hT l hl l.length 0 (by omega)).eq ?_)
   rw [List.drop_zero]
end Go.Proofs.Ytkodpbellndelaa.P

/- What is wrong of any schema, which rows may be of it, and what any bytes say as one, is as the document says: the plain law. -/
namespace Go.Proofs.Ytkodpbellndelaa.Pure
open Go.RowKit Go.Proofs.Ytkodpbellndelaa.P Go.Proofs.YtkodpbellndelaaW.PrintWords Go.Proofs.YtkodpbellndelaaW.PrintLast
set_option linter.unusedVariables false
abbrev Taken:=List Int × Int × Int × Int × Int
def bad : Taken:=([],0,0,0,10)
theorem take_j1 (acc : List Int) : Ev (fun k=>schema_Take.j1 k acc true) bad:=by
 refine Ev.succ ?_
 simp only [schema_Take.j1]
 exact Ev.pos (by simp) (Ev.now _)
theorem rtake_j1 (acc : List Int) : Ev (fun k=>thresherref04_Take.j1 k acc true) bad:=by
 refine Ev.succ ?_
 simp only [thresherref04_Take.j1]
 exact Ev.pos (by simp) (Ev.now _)
theorem check_big (T : List Int) (K M G : Int) (h : checkN T K M G=0) : T.length≤64∧(∀ t ∈ T,1≤t∧t≤3)∧1≤K∧K≤64∧1≤M∧M≤3∧1≤G∧G≤64:=by
 unfold checkN at h
 by_cases q : withinB (T.length : Int) 1 64=true∧T.any oddB=false∧withinB K 1 (T.length : Int)=true∧withinB M 1 3=true∧withinB G 1 64=true
 ·obtain ⟨a,b,c,d,e⟩:=q
  unfold withinB at a c d e
  simp only [Bool.and_eq_true,decide_eq_true_eq] at a c d e
  refine ⟨by omega,fun t ht=>?_,by omega,by omega,by omega,by omega,by omega,by omega⟩
  have:=List.any_eq_false.mp b t ht
  unfold oddB withinB at this
  simp at this
  omega
 ·rw [if_neg q] at h
  exact absurd h (by omega)
theorem end_same (acc : List Int) (hb : ∀ c ∈ acc,0≤c∧c≤1048576) (hl : acc.length≤1000) : ∃ r : Taken,Ev (fun k=>schema_Take.l0 k [] acc) r∧(∀ (l : List Int) (a : Nat),l.length≤a→Ev (fun k=>thresherref04_Take.l0 k l acc (a : Int)) r)∧r.1.length≤1000∧((∃ c ∈ acc,c > 1000)→r=bad):=by
 by_cases h4 : acc.length < 4
 ·refine ⟨bad,?_,fun l a ha=>?_,by simp [bad],fun _=>rfl⟩
  ·refine Ev.succ ?_
   simp only [schema_Take.l0]
   exact Ev.neg (by simp) (Ev.pos (by omega) (take_j1 acc))
  ·refine Ev.succ ?_
   simp only [thresherref04_Take.l0]
   exact Ev.neg (by omega) (Ev.pos (by omega) (rtake_j1 acc))
 ·obtain ⟨z0,z1⟩:=hb _ (List.getElem_mem (show 0 < acc.length by omega))
  obtain ⟨r0,hr0⟩ : ∃ r0 : Nat,acc[0]=r0:=⟨acc[0].toNat,by omega⟩
  have hz : rd acc 0=r0:=(rd_lt acc 0 (by omega)).trans hr0
  rw [hr0] at z0 z1
  have E4:=Aside0.mk (show wrap64 ((r0 : Int) + 4)=((r0 + 4 : Nat) : Int) from w64 (by omega) (by omega))
  by_cases hq : acc.length=r0 + 4
  ·have E1:=Aside0.mk (show wrap64 ((r0 : Int) + 1)=((r0 + 1 : Nat) : Int) from w64 (by omega) (by omega))
   have E2:=Aside0.mk (show wrap64 (((r0 + 1 : Nat) : Int) + 1)=((r0 + 2 : Nat) : Int) from (w64 (by omega) (by omega)).trans (by omega))
   have E3:=Aside0.mk (show wrap64 (((r0 + 1 : Nat) : Int) + 2)=((r0 + 3 : Nat) : Int) from (w64 (by omega) (by omega)).trans (by omega))
   have F1:=Aside0.mk (show wrap64 (1 + (r0 : Int))=((r0 + 1 : Nat) : Int) from (w64 (by omega) (by omega)).trans (by omega))
   have F2:=Aside0.mk (show wrap64 (2 + (r0 : Int))=((r0 + 2 : Nat) : Int) from (w64 (by omega) (by omega)).trans (by omega))
   have F3:=Aside0.mk (show wrap64 (3 + (r0 : Int))=((r0 + 3 : Nat) : Int) from (w64 (by omega) (by omega)).trans (by omega))
   have e0 : ((acc.length : Int) != wrap64 (rd acc 0 + 4))=false:=by rw [hz,E4.out,hq];simp
   have Z:=Aside0.mk e0
   clear e0
   obtain ⟨T,hT⟩ : ∃ T,T=(acc.take (r0 + 1)).drop 1:=⟨_,rfl⟩
   have hTl : T.length=r0:=by rw [hT,List.length_drop,List.length_take];omega
   obtain ⟨K,hK⟩ : ∃ K,K=rd acc ((r0 + 1 : Nat) : Int):=⟨_,rfl⟩
   obtain ⟨M,hM⟩ : ∃ M,M=rd acc ((r0 + 2 : Nat) : Int):=⟨_,rfl⟩
   obtain ⟨G,hG⟩ : ∃ G,G=rd acc ((r0 + 3 : Nat) : Int):=⟨_,rfl⟩
   refine ⟨if checkN T K M G=0 then (T,K,M,G,0) else bad,?_,fun l a ha=>?_,?_,?_⟩
   ·refine Ev.succ ?_
    simp only [schema_Take.l0]
    rw [Z.out]
    refine Ev.neg (by simp) (Ev.neg (by omega) (Ev.pos (by omega) (Ev.succ ?_)))
    simp only [schema_Take.j1]
    rw [hz,E1.out,E2.out,E3.out,Int.toNat_natCast,← hT,← hK,← hM,← hG]
    refine Ev.neg (by simp) (Ev.pos (by omega) (Ev.pos (by omega) (Ev.pos (by omega) ?_)))
    refine Ev.bindc (a:=T) rfl ?_
    refine Ev.pos (by omega) (Ev.pos (by omega) (Ev.pos (by omega) (Ev.pos (by omega) (Ev.pos (by omega) (Ev.pos (by omega) ?_)))))
    refine Ev.bindc (a:=checkN T K M G) rfl ?_
    by_cases q : checkN T K M G=0
    ·rw [if_pos q,if_pos q];exact Ev.now _
    ·rw [if_neg q,if_neg q];exact Ev.now _
   ·refine Ev.succ ?_
    simp only [thresherref04_Take.l0]
    rw [Z.out]
    refine Ev.neg (by omega) (Ev.neg (by omega) (Ev.pos (by omega) (Ev.succ ?_)))
    simp only [thresherref04_Take.j1]
    rw [hz,F1.out,F2.out,F3.out,Int.toNat_natCast,← hT,← hK,← hM,← hG]
    refine Ev.neg (by simp) (Ev.pos (by omega) (Ev.pos (by omega) (Ev.pos (by omega) ?_)))
    refine Ev.bindc (a:=T) rfl ?_
    refine Ev.pos (by omega) (Ev.pos (by omega) (Ev.pos (by omega) (Ev.pos (by omega) (Ev.pos (by omega) (Ev.pos (by omega) ?_)))))
    refine Ev.bind (tcheck_ev T K M G) ?_
    by_cases q : checkN T K M G=0
    ·rw [if_pos q,if_pos q];exact Ev.now _
    ·rw [if_neg q,if_neg q];exact Ev.now _
   ·by_cases q : checkN T K M G=0
    ·rw [if_pos q];show T.length≤1000;omega
    ·rw [if_neg q];simp [bad]
   ·rintro ⟨c,hc,hc2⟩
    by_cases q : checkN T K M G=0
    ·exfalso
     obtain ⟨b1,b2,b3,b4,b5,b6,b7,b8⟩:=check_big T K M G q
     obtain ⟨j,hj,rfl⟩:=List.mem_iff_getElem.mp hc
     rw [rd_lt acc (r0 + 1) (by omega)] at hK
     rw [rd_lt acc (r0 + 2) (by omega)] at hM
     rw [rd_lt acc (r0 + 3) (by omega)] at hG
     by_cases j0 : j=0
     ·subst j0;omega
     ·by_cases j1 : j≤r0
      ·have hm : acc[j] ∈ T:=by
        rw [hT]
        refine List.mem_iff_getElem.mpr ⟨j - 1,by rw [List.length_drop,List.length_take];omega,?_⟩
        rw [List.getElem_drop,List.getElem_take]
        congr 1
        omega
       have:=b2 _ hm
       omega
      ·by_cases j2 : j=r0 + 1
       ·subst j2;omega
       ·by_cases j3 : j=r0 + 2
        ·subst j3;omega
        ·obtain rfl : j=r0 + 3:=by omega
         omega
    ·rw [if_neg q]
  ·have e0 : ((acc.length : Int) != wrap64 (rd acc 0 + 4))=true:=by rw [hz,E4.out];simp;omega
   have Z:=Aside0.mk e0
   clear e0
   refine ⟨bad,?_,fun l a ha=>?_,by simp [bad],fun _=>rfl⟩
   ·refine Ev.succ ?_
    simp only [schema_Take.l0]
    rw [Z.out]
    exact Ev.neg (by simp) (Ev.neg (by omega) (Ev.pos (by omega) (take_j1 acc)))
   ·refine Ev.succ ?_
    simp only [thresherref04_Take.l0]
    rw [Z.out]
    exact Ev.neg (by omega) (Ev.neg (by omega) (Ev.pos (by omega) (rtake_j1 acc)))
theorem take_bad : ∀ (n : Nat) (l acc : List Int),l.length≤n→(∀ c ∈ l,0≤c∧c≤255)→(∀ c ∈ acc,0≤c∧c≤1048576)→acc.length + l.length≤700→(∃ c ∈ acc,c > 1000)→Ev (fun k=>schema_Take.l0 k l acc) bad
 | 0,l,acc,hn,hb,ha,hl,hx=>by
  obtain rfl : l=[]:=List.length_eq_zero_iff.mp (by omega)
  obtain ⟨r,h1,_,_,h2⟩:=end_same acc ha (by omega)
  rw [h2 hx] at h1
  exact h1
 | n + 1,l,acc,hn,hb,ha,hl,hx=>by
  by_cases q : l=[]
  ·subst q
   exact take_bad 0 [] acc (by simp) hb ha hl hx
  ·have hl1:=List.length_pos_iff.mpr q
   obtain ⟨⟨x,m⟩,hv,_,x0,v0,v1⟩:=var_same l hb (by omega)
   simp only at x0 v0 v1
   refine Ev.succ ?_
   simp only [schema_Take.l0]
   refine Ev.pos (by omega) (Ev.bind hv ?_)
   by_cases q1 : m=0
   ·exact Ev.pos q1 (Ev.now _)
   ·by_cases q2 : x > 1048576
    ·exact Ev.neg q1 (Ev.pos q2 (Ev.now _))
    ·obtain ⟨u,rfl⟩ : ∃ u : Nat,m=u:=⟨m.toNat,by omega⟩
     refine Ev.neg q1 (Ev.neg q2 (Ev.pos (by omega) (Ev.pos (by omega) (Ev.pos (by omega) ?_))))
     simp only [Int.toNat_natCast]
     rw [w64 (x:=x) (by omega) (by omega)]
     refine take_bad n (l.drop u) (acc ++ [x]) (by rw [List.length_drop];omega) (fun c hc=>hb c (List.mem_of_mem_drop hc)) (fun c hc=>?_) (by rw [List.length_drop,List.length_append];simp;omega) ?_
     ·rcases List.mem_append.mp hc with hc|hc
      ·exact ha c hc
      ·rw [List.mem_singleton.mp hc];omega
     ·obtain ⟨c,hc,hc2⟩:=hx
      exact ⟨c,List.mem_append_left _ hc,hc2⟩
theorem take_lock (l : List Int) (hb : ∀ c ∈ l,0≤c∧c≤255) (hl : l.length≤300) : ∀ (n a : Nat) (acc : List Int),l.length≤a + n→a≤l.length→acc.length≤a→(∀ c ∈ acc,0≤c∧c≤1000)→∃ r : Taken,Ev (fun k=>schema_Take.l0 k (l.drop a) acc) r∧Ev (fun k=>thresherref04_Take.l0 k l acc (a : Int)) r∧r.1.length≤1000
 | 0,a,acc,hn,ha,hla,hacc=>by
  obtain ⟨r,h1,h2,h3,_⟩:=end_same acc (fun c hc=>⟨(hacc c hc).1,by have:=(hacc c hc).2;omega⟩) (by omega)
  rw [List.drop_of_length_le (by omega)]
  exact ⟨r,h1,h2 l a (by omega),h3⟩
 | n + 1,a,acc,hn,ha,hla,hacc=>by
  by_cases q : a < l.length
  ·have hdl : (l.drop a).length=l.length - a:=List.length_drop
   have hdb : ∀ c ∈ l.drop a,0≤c∧c≤255:=fun c hc=>hb c (List.mem_of_mem_drop hc)
   obtain ⟨⟨x,m⟩,hv,hv2,x0,v0,v1⟩:=var_same (l.drop a) hdb (by omega)
   simp only at x0 v0 v1
   have impl : ∀ r : Taken,Ev (fun k=>if m=0 then some bad else if x > 1048576 then some bad else if acc.length < 17592186044416 then (if 0≤m then (if m≤((l.drop a).length : Int) then schema_Take.l0 k ((l.drop a).drop m.toNat) (acc ++ [wrap64 x]) else none) else none) else none) r→Ev (fun k=>schema_Take.l0 k (l.drop a) acc) r:=fun r h=>by
    refine Ev.succ ?_
    simp only [schema_Take.l0]
    exact Ev.pos (by omega) (Ev.bind hv h)
   have refl_ : ∀ r : Taken,Ev (fun k=>if m=0 then some bad else if x > 1000 then some bad else if acc.length < 17592186044416 then thresherref04_Take.l0 k l (acc ++ [wrap64 x]) (wrap64 ((a : Int) + m)) else none) r→Ev (fun k=>thresherref04_Take.l0 k l acc (a : Int)) r:=fun r h=>by
    refine Ev.succ ?_
    simp only [thresherref04_Take.l0,Int.toNat_natCast]
    exact Ev.pos (by omega) (Ev.pos (by omega) (Ev.pos (by omega) (Ev.bind hv2 h)))
   by_cases q1 : m=0
   ·exact ⟨bad,impl _ (Ev.pos q1 (Ev.now _)),refl_ _ (Ev.pos q1 (Ev.now _)),by simp [bad]⟩
   ·by_cases q2 : x > 1000
    ·refine ⟨bad,impl _ ?_,refl_ _ (Ev.neg q1 (Ev.pos q2 (Ev.now _))),by simp [bad]⟩
     by_cases q3 : x > 1048576
     ·exact Ev.neg q1 (Ev.pos q3 (Ev.now _))
     ·obtain ⟨u,rfl⟩ : ∃ u : Nat,m=u:=⟨m.toNat,by omega⟩
      refine Ev.neg q1 (Ev.neg q3 (Ev.pos (by omega) (Ev.pos (by omega) (Ev.pos (by omega) ?_))))
      simp only [Int.toNat_natCast]
      rw [w64 (x:=x) (by omega) (by omega)]
      refine take_bad ((l.drop a).drop u).length _ (acc ++ [x]) (Nat.le_refl _) (fun c hc=>hdb c (List.mem_of_mem_drop hc)) (fun c hc=>?_) (by rw [List.length_drop,List.length_append];simp;omega) ⟨x,by simp,q2⟩
      rcases List.mem_append.mp hc with hc|hc
      ·have:=hacc c hc;omega
      ·rw [List.mem_singleton.mp hc];omega
    ·obtain ⟨u,rfl⟩ : ∃ u : Nat,m=u:=⟨m.toNat,by omega⟩
     obtain ⟨r,h1,h2,h3⟩:=take_lock l hb hl n (a + u) (acc ++ [x]) (by omega) (by omega) (by rw [List.length_append];simp;omega) (fun c hc=>by
      rcases List.mem_append.mp hc with hc|hc
      ·exact hacc c hc
      ·rw [List.mem_singleton.mp hc];omega)
     refine ⟨r,impl _ (Ev.neg q1 (Ev.neg (by omega) (Ev.pos (by omega) (Ev.pos (by omega) (Ev.pos (by omega) ?_))))),refl_ _ (Ev.neg q1 (Ev.neg q2 (Ev.pos (by omega) ?_))),h3⟩
     ·simp only [Int.toNat_natCast]
      rw [w64 (x:=x) (by omega) (by omega),List.drop_drop]
      exact h1
     ·rw [w64 (x:=x) (by omega) (by omega),w64 (x:=(a : Int) + (u : Int)) (by omega) (by omega)]
      exact h2
  ·obtain ⟨r,h1,h2,h3,_⟩:=end_same acc (fun c hc=>⟨(hacc c hc).1,by have:=(hacc c hc).2;omega⟩) (by omega)
   rw [List.drop_of_length_le (by omega)]
   exact ⟨r,h1,h2 l a (by omega),h3⟩
theorem take_both (l : List Int) (hb : ∀ c ∈ l,0≤c∧c≤255) (hl : l.length≤300) : ∃ r : Taken,Ev (fun k=>schema_Take.f k l) r∧Ev (fun k=>thresherref04_Take.f k l) r∧r.1.length≤1000:=by
 obtain ⟨r,h1,h2,h3⟩:=take_lock l hb hl l.length 0 [] (by omega) (by omega) (by simp) (by simp)
 rw [List.drop_zero] at h1
 exact ⟨r,by simp only [schema_Take.f];exact h1,by simp only [thresherref04_Take.f];exact h2,h3⟩
def numsOf (T : List Int) (K M G : Int) : List Int:=(T.length : Int) :: (T ++ [K,M,G])
theorem numsOf_length (T : List Int) (K M G : Int) : (numsOf T K M G).length=T.length + 4:=by simp [numsOf]
theorem numsOf_zero (T : List Int) (K M G : Int) : rd (numsOf T K M G) 0=T.length:=rd_lt (numsOf T K M G) 0 (by rw [numsOf_length];omega)
theorem numsOf_at (T : List Int) (K M G : Int) : rd (numsOf T K M G) ((T.length + 1 : Nat) : Int)=K∧rd (numsOf T K M G) ((T.length + 2 : Nat) : Int)=M∧rd (numsOf T K M G) ((T.length + 3 : Nat) : Int)=G:=by
 have hl:=numsOf_length T K M G
 refine ⟨?_,?_,?_⟩
 ·rw [rd_lt _ _ (by omega)];simp [numsOf]
 ·rw [rd_lt _ _ (by omega)];simp [numsOf,List.getElem_append_right]
 ·rw [rd_lt _ _ (by omega)];simp [numsOf,List.getElem_append_right]
theorem concat_ev (a b c : List Int) (ha : a.length≤1000) (hb : b.length≤1000) (hc : c.length≤1000) : Ev (fun k=>slices_Concat_int_int.f k [a,b,c]) (a ++ b ++ c):=by
 have l3 : ((([a,b,c] : List (List Int)).length : Nat) : Int)=3:=rfl
 have i1 : wrap64 (0 + 1)=1:=w64 (by omega) (by omega)
 have i2 : wrap64 (1 + 1)=2:=w64 (by omega) (by omega)
 have i3 : wrap64 (2 + 1)=3:=w64 (by omega) (by omega)
 have r0 : rd_L1 [a,b,c] 0=a:=rfl
 have r1 : rd_L1 [a,b,c] 1=b:=rfl
 have r2 : rd_L1 [a,b,c] 2=c:=rfl
 have s1 : wrap64 (0 + (a.length : Int))=((a.length : Nat) : Int):=(w64 (by omega) (by omega)).trans (by omega)
 have s2 : wrap64 (((a.length : Nat) : Int) + (b.length : Int))=((a.length + b.length : Nat) : Int):=(w64 (by omega) (by omega)).trans (by omega)
 have s3 : wrap64 (((a.length + b.length : Nat) : Int) + (c.length : Int))=((a.length + b.length + c.length : Nat) : Int):=(w64 (by omega) (by omega)).trans (by omega)
 have S1:=Aside0.mk s1
 have S2:=Aside0.mk s2
 have S3:=Aside0.mk s3
 clear s1 s2 s3
 simp only [slices_Concat_int_int.f]
 refine Ev.succ ?_
 simp only [slices_Concat_int_int.l0]
 rw [r0,S1.out,l3,i1]
 refine Ev.pos (by omega) (Ev.pos (by omega) (Ev.pos (by omega) (Ev.neg (by omega) (Ev.succ ?_))))
 simp only [slices_Concat_int_int.l0]
 rw [r1,S2.out,l3,i2]
 refine Ev.pos (by omega) (Ev.pos (by omega) (Ev.pos (by omega) (Ev.neg (by omega) (Ev.succ ?_))))
 simp only [slices_Concat_int_int.l0]
 rw [r2,S3.out,l3,i3]
 refine Ev.pos (by omega) (Ev.pos (by omega) (Ev.pos (by omega) (Ev.neg (by omega) (Ev.succ ?_))))
 simp only [slices_Concat_int_int.l0]
 refine Ev.neg (by omega) (Ev.bindc (show slices_Grow_int_int.f [] ((a.length + b.length + c.length : Nat) : Int)=some [] by unfold slices_Grow_int_int.f;rw [if_pos ⟨rfl,by omega,by omega⟩]) (Ev.succ ?_))
 simp only [slices_Concat_int_int.l1]
 rw [r0,l3,i1]
 refine Ev.pos (by omega) (Ev.pos (by omega) (Ev.pos (by omega) (Ev.pos (by simp;omega) (Ev.succ ?_))))
 simp only [slices_Concat_int_int.l1,List.nil_append]
 rw [r1,l3,i2]
 refine Ev.pos (by omega) (Ev.pos (by omega) (Ev.pos (by omega) (Ev.pos (by omega) (Ev.succ ?_))))
 simp only [slices_Concat_int_int.l1]
 rw [r2,l3,i3]
 refine Ev.pos (by omega) (Ev.pos (by omega) (Ev.pos (by omega) (Ev.pos (by rw [List.length_append];omega) (Ev.succ ?_))))
 simp only [slices_Concat_int_int.l1]
 exact Ev.neg (by omega) (Ev.now _)
theorem put_loop (L : List Int) (hL : ∀ c ∈ L,0≤c∧c < 128) (hl : L.length≤100) : ∀ (d i : Nat) (acc : List Int),i + d=L.length→acc.length=i→Ev (fun k=>schema_Put.l0 k acc L L.length i) (acc ++ L.drop i)
 | 0,i,acc,hi,ha=>by
  refine Ev.succ ?_
  simp only [schema_Put.l0]
  exact Ev.neg (by omega) ((Ev.now _).eq (by rw [List.drop_of_length_le (by omega),List.append_nil]))
 | d + 1,i,acc,hi,ha=>by
  have h : i < L.length:=by omega
  obtain ⟨c0,c1⟩:=hL _ (List.getElem_mem h)
  have ih:=put_loop L hL hl d (i + 1) (acc ++ [L[i]]) (by omega) (by rw [List.length_append];simp;omega)
  refine Ev.succ ?_
  simp only [schema_Put.l0]
  rw [rd_lt L i h]
  refine Ev.pos (by omega) (Ev.pos (by omega) (Ev.pos (by omega) (Ev.bind (put_small _ c0 c1) (Ev.pos (by simp;omega) ?_))))
  rw [w64 (by omega) (by omega)]
  refine ih.eq ?_
  rw [List.append_assoc,List.drop_eq_getElem_cons h]
  rfl
theorem same_l0 (T : List Int) (K M G : Int) (hT : T.length≤1000) : ∀ (d i : Nat),i + d=T.length→Ev (fun k=>thresherref04_Same.l0 k i T K M G T K M G) true
 | 0,i,hi=>by
  refine Ev.succ ?_
  simp only [thresherref04_Same.l0]
  exact Ev.neg (by omega) (Ev.now _)
 | d + 1,i,hi=>by
  refine Ev.succ ?_
  simp only [thresherref04_Same.l0]
  have ih:=same_l0 T K M G hT d (i + 1) (by omega)
  refine Ev.pos (by omega) (Ev.pos (by omega) (Ev.pos (by omega) (Ev.pos (by simp) ?_)))
  rw [w64 (by omega) (by omega)]
  exact ih
theorem same_ev (T : List Int) (K M G : Int) (hT : T.length≤1000) : Ev (fun k=>thresherref04_Same.f k T K M G T K M G) true:=by
 simp only [thresherref04_Same.f]
 refine Ev.pos (by simp) (Ev.pos (by simp) (Ev.pos (by simp) (Ev.succ ?_)))
 simp only [thresherref04_Same.j0]
 exact Ev.neg (by simp) (same_l0 T K M G hT T.length 0 (by omega))
theorem rput_small (c : Int) (h0 : 0≤c) (h1 : c < 128) : Ev (fun k=>thresherref01_PutVar.f k (IntKind.u64.wrap c)) [c]:=by
 obtain ⟨n,rfl⟩ : ∃ n : Nat,c=n:=⟨c.toNat,by omega⟩
 rw [u64_small n (by omega)]
 exact (refput_ev n (by omega)).eq (by rw [enc,if_pos (by omega)])
theorem rput_loop (T : List Int) (K M G : Int) (hT : ∀ c ∈ T,0≤c∧c < 128) (hl : T.length≤100) (hK : 0≤K∧K < 128) (hM : 0≤M∧M < 128) (hG : 0≤G∧G < 128) : ∀ (d i : Nat) (acc : List Int),i + d=T.length→acc.length≤i + 1→Ev (fun k=>thresherref04_Put.l0 k acc i T K M G) (acc ++ (T.drop i ++ [K,M,G]))
 | 0,i,acc,hi,ha=>by
  refine Ev.succ ?_
  simp only [thresherref04_Put.l0]
  refine Ev.neg (by omega) (Ev.bind (rput_small K hK.1 hK.2) (Ev.pos (by simp;omega) (Ev.bindc rfl (Ev.bind (rput_small M hM.1 hM.2) (Ev.pos (by simp;omega) (Ev.bindc rfl (Ev.bind (rput_small G hG.1 hG.2) (Ev.pos (by simp;omega) ((Ev.now _).eq ?_)))))))))
  rw [List.drop_of_length_le (by omega)]
  simp
 | d + 1,i,acc,hi,ha=>by
  have h : i < T.length:=by omega
  obtain ⟨c0,c1⟩:=hT _ (List.getElem_mem h)
  have ih:=rput_loop T K M G hT hl hK hM hG d (i + 1) (acc ++ [T[i]]) (by omega) (by rw [List.length_append];simp;omega)
  refine Ev.succ ?_
  simp only [thresherref04_Put.l0]
  rw [rd_lt T i h,w64 (by omega) (by omega)]
  refine Ev.pos (by omega) (Ev.pos (by omega) (Ev.bind (rput_small _ c0 c1) (Ev.pos (by simp;omega) (ih.eq ?_))))
  rw [List.append_assoc,List.drop_eq_getElem_cons h]
  rfl
theorem put_both (T : List Int) (K M G : Int) (h : checkN T K M G=0) : ∃ r,Ev (fun k=>schema_Put.f k T K M G) r∧Ev (fun k=>thresherref04_Put.f k T K M G) r:=by
 obtain ⟨b1,b2,b3,b4,b5,b6,b7,b8⟩:=check_big T K M G h
 have hlen:=numsOf_length T K M G
 have hsm : ∀ c ∈ numsOf T K M G,0≤c∧c < 128:=by
  intro c hc
  unfold numsOf at hc
  rcases List.mem_cons.mp hc with rfl|hc
  ·omega
  ·rcases List.mem_append.mp hc with hc|hc
   ·have:=b2 c hc;omega
   ·simp only [List.mem_cons,List.not_mem_nil,or_false] at hc
    rcases hc with rfl|rfl|rfl <;> omega
 refine ⟨numsOf T K M G,?_,?_⟩
 ·simp only [schema_Put.f]
  have hc:=concat_ev [(T.length : Int)] T [K,M,G] (by simp) (by omega) (by simp)
  have e : [(T.length : Int)] ++ T ++ [K,M,G]=numsOf T K M G:=by simp [numsOf]
  rw [e] at hc
  have hp:=put_loop (numsOf T K M G) hsm (by omega) (numsOf T K M G).length 0 [] (by omega) rfl
  exact Ev.bind hc (hp.eq (by simp))
 ·simp only [thresherref04_Put.f]
  have hp:=rput_loop T K M G (fun c hc=>by have:=b2 c hc;omega) (by omega) ⟨by omega,by omega⟩ ⟨by omega,by omega⟩ ⟨by omega,by omega⟩ T.length 0 [(T.length : Int)] (by omega) (by simp)
  exact Ev.bind (rput_small _ (by omega) (by omega)) (hp.eq (by simp [numsOf]))
section
variable (x1 : List (List XV)) (B : List Int) (T : List Int) (K M G : Int) (hT : T.length≤70) (hB : ∀ c ∈ B,0≤c∧c≤255) (hg : ∀ r ∈ x1,∀ v ∈ r,gd34 v)
include hT hB
omit hT hB in
theorem all_j3 : Ev (fun k=>thresherlaw04_SchemaAll.j3 k true (checkN T K M G) false T K M G) true:=by
 refine Ev.succ ?_
 simp only [thresherlaw04_SchemaAll.j3]
 refine Ev.neg (by simp) (Ev.pos (by simp) ?_)
 by_cases q : checkN T K M G=0
 ·obtain ⟨r,h1,h2⟩:=put_both T K M G q
  exact Ev.pos q (Ev.bind h1 (Ev.bind h2 ((Ev.now _).eq (by simp))))
 ·exact Ev.neg q (Ev.now _)
theorem all_j2 (hl : B.length≤300) (rows : List (List XV)) (hr : rows.length≤70) : Ev (fun k=>thresherlaw04_SchemaAll.j2 k B true rows T K M G) true:=by
 obtain ⟨r,h1,h2,h3⟩:=take_both B hB hl
 refine Ev.succ ?_
 simp only [thresherlaw04_SchemaAll.j2]
 refine Ev.bind h1 (Ev.bind h2 (Ev.bind (same_ev r.1 r.2.1 r.2.2.1 r.2.2.2.1 h3) (Ev.bindc (a:=checkN T K M G) rfl (Ev.bind (tcheck_ev T K M G) (Ev.pos rfl (Ev.bindc (a:=batchN T rows) rfl (Ev.bind (tbatch_ev T K M G (by omega) rows (by omega)) (Ev.pos rfl (Ev.pos rfl ?_)))))))))
 rw [show (r.2.2.2.2 != r.2.2.2.2)=false by simp]
 exact all_j3 T K M G
theorem all_j1 (rows : List (List XV)) (hr : rows.length≤70) (i : Int) : Ev (fun k=>thresherlaw04_SchemaAll.j1 k x1 B true rows i false T K M G) true:=by
 refine Ev.succ ?_
 simp only [thresherlaw04_SchemaAll.j1]
 refine Ev.neg (by simp) ?_
 by_cases q : (B.length : Int) > 300
 ·exact Ev.pos q (Ev.pos (by omega) (all_j2 (B.take 300) T K M G hT (fun c hc=>hB c (List.mem_of_mem_take hc)) (by rw [List.length_take];omega) rows hr))
 ·exact Ev.neg q (all_j2 B T K M G hT hB (by omega) rows hr)
include hg
theorem all_l0 : ∀ (d i : Nat) (rows : List (List XV)),i + d=min x1.length 70→rows.length=i→Ev (fun k=>thresherlaw04_SchemaAll.l0 k x1 B true rows i T K M G) true
 | 0,i,rows,hi,hr=>by
  have J:=all_j1 x1 B T K M G hT hB rows (by omega) i
  refine Ev.succ ?_
  simp only [thresherlaw04_SchemaAll.l0]
  by_cases q : (i : Int) < (x1.length : Int)
  ·refine Ev.pos q ?_
   rw [decide_eq_false (show ¬ (i : Int) < 70 by omega)]
   exact J
  ·exact Ev.neg q J
 | d + 1,i,rows,hi,hr=>by
  have h : i < x1.length:=by omega
  obtain ⟨out,ho,_,hol⟩:=short_ev x1[i] (GR_of (hg _ (List.getElem_mem h)))
  have ih:=all_l0 d (i + 1) (rows ++ [out]) (by omega) (by rw [List.length_append];simp;omega)
  refine Ev.succ ?_
  simp only [thresherlaw04_SchemaAll.l0]
  refine Ev.pos (by omega) ?_
  rw [decide_eq_true (show (i : Int) < 70 by omega)]
  refine Ev.succ ?_
  simp only [thresherlaw04_SchemaAll.j1]
  rw [rdR_lt x1 i h,w64 (by omega) (by omega)]
  refine Ev.pos (by simp) (Ev.pos (by omega) (Ev.pos (by omega) (Ev.bind ho (Ev.pos (by omega) (Ev.bindc (a:=rowB T out) rfl (Ev.bind (trow_ev T K M G out (by omega)) (Ev.neg (by simp) ?_)))))))
  exact ih
end
theorem SchemaAll : thresherlaw04_SchemaAll.PureG:=by
 intro x l b hx ⟨hl,hl2⟩ ⟨hb,hb2⟩
 have hB : ∀ c ∈ b,0≤c∧c≤255:=fun c hc=>wf_u8 (hb2 c hc)
 apply Ev.rounds
 simp only [thresherlaw04_SchemaAll.f,thresherlaw04_few.f]
 refine Ev.bind shown04_ev ?_
 by_cases q : (x.f0.length : Int) > 70
 ·rw [if_pos q,if_pos (by omega)]
  exact Ev.bindc rfl (all_l0 l b (x.f0.take 70) x.f1 x.f2 x.f3 (by rw [List.length_take];omega) hB (fun r hr=>(hl2 r hr).2) (min l.length 70) 0 [] (by omega) rfl)
 ·rw [if_neg q]
  exact Ev.bindc rfl (all_l0 l b x.f0 x.f1 x.f2 x.f3 (by omega) hB (fun r hr=>(hl2 r hr).2) (min l.length 70) 0 [] (by omega) rfl)
end Go.Proofs.Ytkodpbellndelaa.Pure

namespace Go.Proofs.Ytkodpbellndelaa.schemaAll
open Go.ChangeShapes Go.WideShapes Go.ChangeAt Go.RowKit Go.Proofs.Ytkodpbellndelaa.P Go.Proofs.YtkodpbellndelaaW.PrintWords
set_option linter.unusedVariables false
set_option linter.unusedSimpArgs false
theorem own : ownKnob Try.prog.godebug=none:=by kernel_rfl
theorem laidOut : laidOutB Try.prog=true:=by kernel_rfl
set_option maxRecDepth 100000 in
theorem lifted (os : Os) (started : os.Started) (H : Type) (enc : TypeId × Value→H) :
  ReturnsInHanded {} Try.checked os 8 .any (Rows.schemaAllSpec.pre6 enc Try.prog Try.f8 Rows.schemaAllRow.domain false) (Rows.schemaAllSpec.post enc Try.prog Try.f8 false true false false):=by
 refine returnsInHanded_of_change_sized (C:=Try.checked) own started (by kernel_rfl) Try.func8
  (ChangeSpec.witness6 (enc:=enc) (C:=Try.checked) false ⟨#[],#[.agg #[.slice none 0 0,.int .i64 0,.int .i64 0,.int .i64 0],.slice none 0 0,.slice none 0 0],[]⟩ 8 (by kernel_rfl) (by kernel_rfl) (by kernel_rfl) (by kernel_rfl)) ?_
 intro W base args ds gs before hval0 hW hcnd hsz0 _
 have hval : ∀ (j : Nat) t v,Try.f8.params[j]?=some t→args[j]?=some v→Value.okWide Try.prog W .any base t v:=hval0
 have hW':=hW
 obtain ⟨p,q,hA0,hV,rfl,hfz,hnd⟩:=hW
 have hA : DataW.TrodAll enc Try.prog W 0 (fun _=>true) true Try.f8.params.toList args.toList ds p:=hA0
 rw [Try.params8] at hA hval
 obtain ⟨v0,vs0,d0,ds0,p0,q0,hargs,rfl,rfl,h0,r0⟩:=trodAll_cons hA
 obtain ⟨v1,vs1,d1,ds1,p1,q1,rfl,rfl,rfl,h1,r1⟩:=trodAll_cons r0
 obtain ⟨v2,vs2,d2,ds2,p2,q2,rfl,rfl,rfl,h2,r2⟩:=trodAll_cons r1
 obtain ⟨rfl,rfl,rfl⟩:=trodAll_nil r2
 obtain rfl : args=#[v0,v1,v2]:=by cases args;simp_all
 obtain ⟨rfl,rfl⟩:=trodVars_none hV
 have lt0 : ∀ x ∈ p0,x.block < W.heap.size:=by obtain ⟨m,hm⟩:=h0;exact DataW.trod_lt m _ _ _ hm
 obtain ⟨x0,K0,g0⟩:=(op30).arg h0
 obtain ⟨cs0,rfl⟩:=okWide_agg Try.underlying30 (hval 0 30 v0 rfl rfl)
 obtain ⟨A0_0,c0_0,e0,hl0_0,hr0_0⟩:=k30_open K0
 replace e0:=agg_of e0
 have lt1 : ∀ x ∈ p1,x.block < W.heap.size:=by obtain ⟨m,hm⟩:=h1;exact DataW.trod_lt m _ _ _ hm
 obtain ⟨x1,K1,g1⟩:=((opens_slice Try.underlying38 (by kernel_rfl) (opens_slice Try.underlying26 (by kernel_rfl) op34))).arg h1
 obtain ⟨a1,len1,cap1,rfl⟩:=okWide_slice Try.underlying38 (hval 1 38 v1 rfl rfl)
 obtain ⟨A1,c1,e1,hl1,hr1⟩:=K1
 simp [Value.cells] at e1
 obtain ⟨rfl,rfl,rfl⟩:=e1
 have lt2 : ∀ x ∈ p2,x.block < W.heap.size:=by obtain ⟨m,hm⟩:=h2;exact DataW.trod_lt m _ _ _ hm
 obtain ⟨x2,K2,g2⟩:=((opens_slice Try.underlying41 (by kernel_rfl) (opens_int Try.underlying5))).arg h2
 obtain ⟨a2,len2,cap2,rfl⟩:=okWide_slice Try.underlying41 (hval 2 41 v2 rfl rfl)
 obtain ⟨A2,c2,e2,hl2,hr2⟩:=K2
 simp [Value.cells] at e2
 obtain ⟨rfl,rfl,rfl⟩:=e2
 obtain ⟨k,hk⟩:=Pure.SchemaAll x0 x1 x2 g0 g1 g2
 have call : Calls Try.prog 8 #[.agg cs0,.slice a1 x1.length cap1,.slice a2 x2.length cap2] W fun e W'=>e=.returned (.bool true)∧Below W.heap.size W W':=by
  rw [e0]
  refine (thresherlaw04_SchemaAll.calls k (fun _=>True) _ _ _ _ _ _ _ _ _ (fun _=>True) _ _ _ true W (Go.Proofs.YtkodpbellndelaaW.PrintWords.Kd.V_mk hl0_0 (fun W' hW'=>(show Go.Proofs.YtkodpbellndelaaW.PrintWords.Kd.Heap (Go.Proofs.YtkodpbellndelaaW.PrintWords.Kd.int .i64) from by repeat' (first|exact Go.Proofs.YtkodpbellndelaaW.PrintWords.Kd.heap_int _|exact Go.Proofs.YtkodpbellndelaaW.PrintWords.Kd.heap_bool|exact Go.Proofs.YtkodpbellndelaaW.PrintWords.Kd.heap_string|refine Go.Proofs.YtkodpbellndelaaW.PrintWords.Kd.heap_slice _ ?_|refine Go.Proofs.YtkodpbellndelaaW.PrintWords.Kd.heap_pair ?_ ?_|refine Go.Proofs.YtkodpbellndelaaW.PrintWords.Kd.heap_iso _ ?_)).C (fun k hk=>hW' k trivial hk) hr0_0)) hr1 hl1 (Go.Proofs.YtkodpbellndelaaW.PrintWords.Kd.V_mk hl2 (fun W' hW'=>(show Go.Proofs.YtkodpbellndelaaW.PrintWords.Kd.Heap (Go.Proofs.YtkodpbellndelaaW.PrintWords.Kd.int .u8) from by repeat' (first|exact Go.Proofs.YtkodpbellndelaaW.PrintWords.Kd.heap_int _|exact Go.Proofs.YtkodpbellndelaaW.PrintWords.Kd.heap_bool|exact Go.Proofs.YtkodpbellndelaaW.PrintWords.Kd.heap_string|refine Go.Proofs.YtkodpbellndelaaW.PrintWords.Kd.heap_slice _ ?_|refine Go.Proofs.YtkodpbellndelaaW.PrintWords.Kd.heap_pair ?_ ?_|refine Go.Proofs.YtkodpbellndelaaW.PrintWords.Kd.heap_iso _ ?_)).C (fun k hk=>hW' k trivial hk) hr2)) hk).mono ?_
  rintro e w' ⟨rfl,hd⟩
  exact ⟨rfl,hd⟩
 refine call.mono fun e W' ⟨he,bel⟩=>?_
 subst he
 exact ⟨_,rfl,_,_,_,[],_,[],hW',trodAll_mk1 (shut_bool Try.underlying4 _),(trodAll_cons_mk (Below.trod laidOut (by kernel_rfl) (of_decide_eq_true (by kernel_rfl)) h0 bel lt0) (trodAll_cons_mk (Below.trod laidOut (by kernel_rfl) (of_decide_eq_true (by kernel_rfl)) h1 bel lt1) (trodAll_cons_mk (Below.trod laidOut (by kernel_rfl) (of_decide_eq_true (by kernel_rfl)) h2 bel lt2) trodAll_mk0))),rfl,bel.frame _,fun h=>by cases h⟩
theorem over : Rows.schemaAllRow.holds Try.pinned (OpenSpec.ofChange Rows.schemaAllSpec) :=
 OpenClaim.holds_of_wide 8 Try.f8 rfl rfl rfl rfl rfl rfl rfl ⟨rfl,rfl,rfl,rfl,rfl⟩ rfl rfl rfl rfl rfl (by kernel_rfl) Try.func8 (by kernel_rfl)
  (of_decide_eq_true (by kernel_rfl)) (by unfold Func.isWrapper;first|(rw [if_pos (by decide +kernel)];kernel_rfl)|(rw [if_neg (by decide +kernel)];exact ⟨rfl,rfl⟩))
  (fun os started H enc _=>lifted os started H enc)
theorem proved : Rows.SchemaAllSaid:=over
#print axioms proved
end Go.Proofs.Ytkodpbellndelaa.schemaAll
namespace Go.Proofs.Ytkodpbellndelaa
theorem schemaAll_holds : Rows.SchemaAllSaid:=schemaAll.proved
end Go.Proofs.Ytkodpbellndelaa

