/- The row of FoldSums. Merged: SFoldSums, XBase, XFit, XMade, XOne, XOrd, XFitOk, XFits, XRVal, XShape, XVal, XRCmp, XVCmp, XRowOk, XSort, XSixty, XFold, XFoldEv, XFoldIn, PureFoldSums, RFoldSums. -/
import Derived.Test.YtmanchjamkpklaaQFoldSumsPx16
import Derived.Test.YtmanchjamkpklaaQFoldSumsO
import Derived.Test.YtmanchjamkpklaaQFoldSumsPx0
import Derived.Test.YtmanchjamkpklaaQFoldSumsHBase
import Derived.Test.YtmanchjamkpklaaQFoldSumsPx10
import Derived.Test.YtmanchjamkpklaaQFoldSumsPx6
import Derived.Test.YtmanchjamkpklaaQFoldSumsPx11
import Derived.Lib.Bytealg
import Derived.Test.YtmanchjamkpklaaQFoldSumsPx7
import Derived.Test.YtmanchjamkpklaaQFoldSumsPx3
import Derived.Test.YtmanchjamkpklaaQFoldSumsPx2
import Derived.Test.YtmanchjamkpklaaQFoldSumsPx8
import Derived.Test.YtmanchjamkpklaaQFoldSumsPx9
import Derived.Test.YtmanchjamkpklaaQFoldSumsPx4
import Derived.Test.YtmanchjamkpklaaQFoldSumsPx12
import Derived.Test.YtmanchjamkpklaaQFoldSumsPx5
import Derived.Test.YtmanchjamkpklaaRows
import Derived.WalkKit
import Derived.ProofKit
import Derived.OpenShut
import Derived.ShutString
import Derived.ChangeOld
import Derived.Below
import Derived.SizedLaws
namespace Go.Proofs.Ytmanchjamkpklaa.P
open Go.RowKit Go.Proofs.YtmanchjamkpklaaW.PrintWords
def thresherlaw13_FoldSums.PureG : Prop:=∀ (x0 : List Int) (x1 : List ByteArray),(x0.length≤maxLen∧∀ a ∈ x0,(Lit.int .i64 a).wf=true)→(x1.length≤maxLen∧∀ a ∈ x1,a.size≤maxLen)→∃ k,thresherlaw13_FoldSums.f k x0 x1=some true
end Go.Proofs.Ytmanchjamkpklaa.P

/- Words of the laws about rows. -/
namespace Go.Proofs.Ytmanchjamkpklaa.P
open Go.RowKit Go.Proofs.YtmanchjamkpklaaW.PrintWords Go.Proofs.YtmanchjamkpklaaW.PrintLast Go.Proofs.YtmanchjamkpklaaW.PrintMore
set_option linter.unusedVariables false
set_option linter.unusedSimpArgs false
abbrev XV:=S45
abbrev rdV (l : List XV) (i : Int) : XV:=rd_T45 l i
abbrev rdR (l : List (List XV)) (i : Int) : List XV:=rd_L5 l i
theorem rd_lt (l : List Int) (i : Nat) (h : i < l.length) : rd l i=l[i]:=by unfold rd;simp [List.getD,h]
theorem rdV_lt (l : List XV) (i : Nat) (h : i < l.length) : rd_T45 l i=l[i]:=by unfold rd_T45;simp [List.getD,h]
theorem rdV_ge (l : List XV) (i : Nat) (h : l.length≤i) : rd_T45 l i=⟨0,⟨#[]⟩⟩:=by unfold rd_T45;simp [List.getD,h];rfl
theorem rdR_lt (l : List (List XV)) (i : Nat) (h : i < l.length) : rd_L5 l i=l[i]:=by unfold rd_L5;simp [List.getD,h]
structure Sch (T : List Int) (K M G : Int) : Prop where
 n1 : 1≤T.length
 n8 : T.length≤8
 ty : ∀ t ∈ T,1≤t∧t≤3
 k1 : 1≤K
 kn : K≤T.length
 m1 : 1≤M
 m3 : M≤3
 g1 : 1≤G
 g8 : G≤8
def fitT (t : Int) (v : XV) : Bool:=if t=1 ∨ t=2 then v.f1.toList == ([] : List UInt8) else if t=3 then (if v.f0=0 then decide ((v.f1.size : Int)≤60) else false) else false
def rowOkB (T : List Int) (r : List XV) : Bool:=decide (T.length=r.length) && (List.range T.length).all fun (i : Nat)=>fitT (rd T i) (rdV r i)
def fit1 (t : Int) (v : XV) : XV:=if t=3 then ⟨0,if (v.f1.size : Int) > 60 then v.f1.extract 0 60 else v.f1⟩ else ⟨v.f0,⟨#[]⟩⟩
def fitRow (T : List Int) (r : List XV) : List XV:=(List.range' 0 T.length).map fun (i : Nat)=>fit1 (rd T i) (rdV r i)
theorem bytes_eq {a b : ByteArray} (h : a.toList=b.toList) : a=b:=by
 rw [ByteArray.toList_eq,ByteArray.toList_eq] at h
 exact ByteArray.ext (Array.toList_inj.mp h)
theorem XV.same {a b : XV} : (!(a.f0 == b.f0) || (!(a.f1.toList == b.f1.toList)))=true ↔ a≠b:=by
 constructor
 ·rintro h rfl
  simp at h
 ·intro h
  by_cases h0 : a.f0=b.f0
  ·by_cases h1 : a.f1.toList=b.f1.toList
   ·exact absurd (by cases a;cases b;simp only at h0 h1;rw [h0,bytes_eq h1]) h
   ·simp [h1]
  ·simp [h0]
instance : DecidableEq XV:=fun a b=>if h : (!(a.f0 == b.f0) || (!(a.f1.toList == b.f1.toList)))=true then isFalse (XV.same.mp h) else isTrue (Classical.byContradiction fun e=>h (XV.same.mpr e))
end Go.Proofs.Ytmanchjamkpklaa.P

/- A row made to fit. -/
namespace Go.Proofs.Ytmanchjamkpklaa.P
open Go.RowKit Go.Proofs.YtmanchjamkpklaaW.PrintWords Go.Proofs.YtmanchjamkpklaaW.PrintLast Go.Proofs.YtmanchjamkpklaaW.PrintMore
set_option linter.unusedVariables false
set_option linter.unusedSimpArgs false
end Go.Proofs.Ytmanchjamkpklaa.P

/- A schema made of any numbers. -/
namespace Go.Proofs.Ytmanchjamkpklaa.P
open Go.RowKit Go.Proofs.YtmanchjamkpklaaW.PrintWords Go.Proofs.YtmanchjamkpklaaW.PrintLast Go.Proofs.YtmanchjamkpklaaW.PrintMore
set_option linter.unusedVariables false
set_option linter.unusedSimpArgs false
def U8 (x : Int) : Prop:=0≤x∧x≤255
end Go.Proofs.Ytmanchjamkpklaa.P

/- Are two rows the same, and two lists of rows? -/
namespace Go.Proofs.Ytmanchjamkpklaa.P
open Go.RowKit Go.Proofs.YtmanchjamkpklaaW.PrintWords Go.Proofs.YtmanchjamkpklaaW.PrintLast Go.Proofs.YtmanchjamkpklaaW.PrintMore
set_option linter.unusedVariables false
set_option linter.unusedSimpArgs false
theorem one_loop (a b : List XV) (hl : a.length=b.length) (hb : a.length≤1000000000) : ∀ (d i : Nat),i + d=a.length→Ev (fun k=>thresherref04_One.l0 k a b i) (decide (a.drop i=b.drop i))
 | 0,i,hi=>by
  refine Ev.succ ?_
  simp only [thresherref04_One.l0]
  refine Ev.neg (by omega) ((Ev.now _).eq ?_)
  rw [List.drop_of_length_le (by omega),List.drop_of_length_le (by omega)]
  simp
 | d + 1,i,hi=>by
  have h1 : i < a.length:=by omega
  have h2 : i < b.length:=by omega
  refine Ev.succ ?_
  simp only [thresherref04_One.l0]
  simp (disch:=omega) only [w64]
  rw [rdV_lt a i h1,rdV_lt b i h2]
  rw [List.drop_eq_getElem_cons h1,List.drop_eq_getElem_cons h2]
  refine Ev.pos (by omega) (Ev.pos (by omega) (Ev.pos (by omega) ?_))
  by_cases e : a[i]=b[i]
  ·refine Ev.neg (fun h=>XV.same.mp h e) ((one_loop a b hl hb d (i + 1) (by omega)).eq ?_)
   rw [e]
   exact decide_eq_decide.mpr ⟨fun h=>by rw [h],fun h=>(List.cons.inj h).2⟩
  ·refine Ev.pos (XV.same.mpr e) ((Ev.now _).eq ?_)
   symm
   rw [decide_eq_false_iff_not]
   intro h
   exact e (List.cons.inj h).1
theorem one_ev (a b : List XV) (hb : a.length≤1000000000) : Ev (fun k=>thresherref04_One.f k a b) (decide (a=b)):=by
 simp only [thresherref04_One.f]
 by_cases hl : a.length=b.length
 ·refine Ev.pos (by omega) ?_
  have:=one_loop a b hl hb a.length 0 (by omega)
  simpa using this
 ·refine Ev.neg (by omega) ((Ev.now _).eq ?_)
  symm
  rw [decide_eq_false_iff_not]
  rintro rfl
  exact hl rfl
end Go.Proofs.Ytmanchjamkpklaa.P

/- The order of values and of rows. -/
namespace Go.Proofs.Ytmanchjamkpklaa.P
open Go.RowKit Go.Proofs.YtmanchjamkpklaaW.PrintWords Go.Proofs.YtmanchjamkpklaaW.PrintLast Go.Proofs.YtmanchjamkpklaaW.PrintMore
set_option linter.unusedVariables false
set_option linter.unusedSimpArgs false
theorem u8_tri (a b : UInt8) : (a < b∧¬ b < a) ∨ (b < a∧¬ a < b) ∨ (a=b∧¬ a < b∧¬ b < a):=by
 rcases Nat.lt_trichotomy a.toNat b.toNat with h|h|h
 ·exact Or.inl ⟨UInt8.lt_iff_toNat_lt.mpr h,fun h2=>by have:=UInt8.lt_iff_toNat_lt.mp h2;omega⟩
 ·have e : a=b:=UInt8.toNat_inj.mp h
  subst e
  exact Or.inr (Or.inr ⟨rfl,fun h2=>by have:=UInt8.lt_iff_toNat_lt.mp h2;omega,fun h2=>by have:=UInt8.lt_iff_toNat_lt.mp h2;omega⟩)
 ·exact Or.inr (Or.inl ⟨UInt8.lt_iff_toNat_lt.mpr h,fun h2=>by have:=UInt8.lt_iff_toNat_lt.mp h2;omega⟩)
theorem cb_anti : ∀ a b : List UInt8,Lib.compareBytes b a=- Lib.compareBytes a b
 | [],[]=>by simp [Lib.compareBytes]
 | [],_ :: _=>by simp [Lib.compareBytes]
 | _ :: _,[]=>by simp [Lib.compareBytes]
 | a :: xs,b :: ys=>by
  unfold Lib.compareBytes
  rcases u8_tri a b with ⟨h1,h2⟩|⟨h1,h2⟩|⟨h0,h1,h2⟩
  ·rw [if_neg h2,if_pos h1,if_pos h1];rfl
  ·rw [if_pos h1,if_neg h2,if_pos h1]
  ·rw [if_neg h2,if_neg h1,if_neg h1,if_neg h2];exact cb_anti xs ys
theorem cb_zero : ∀ a b : List UInt8,Lib.compareBytes a b=0 ↔ a=b
 | [],[]=>by simp [Lib.compareBytes]
 | [],_ :: _=>by simp [Lib.compareBytes]
 | _ :: _,[]=>by simp [Lib.compareBytes]
 | a :: xs,b :: ys=>by
  unfold Lib.compareBytes
  rcases u8_tri a b with ⟨h1,h2⟩|⟨h1,h2⟩|⟨h0,h1,h2⟩
  ·rw [if_pos h1]
   exact ⟨fun h=>by omega,fun h=>absurd h1 (by rw [(List.cons.inj h).1] at h2 ⊢;rw [(List.cons.inj h).1] at h1;exact h2)⟩
  ·rw [if_neg h2,if_pos h1]
   exact ⟨fun h=>by omega,fun h=>absurd h1 (by rw [(List.cons.inj h).1] at h1;rw [(List.cons.inj h).1] at h2;exact absurd h1 h2)⟩
  ·rw [if_neg h1,if_neg h2,cb_zero xs ys,h0]
   exact ⟨fun h=>by rw [h],fun h=>(List.cons.inj h).2⟩
def GV (v : XV) : Prop:=-9223372036854775808≤v.f0∧v.f0≤9223372036854775807
def sgn (x y : Int) : Int:=if x < y then -1 else if x > y then 1 else 0
def un (x : Int) : Int:=x % 18446744073709551616
def cmpV (t : Int) (a b : XV) : Int:=if fitT t a=true∧fitT t b=true then (if t=3 then Lib.compareBytes a.f1.data.toList b.f1.data.toList else if t=2 then sgn (un a.f0) (un b.f0) else sgn a.f0 b.f0) else 0
theorem cmpV_anti (t : Int) (a b : XV) : cmpV t b a=- cmpV t a b:=by
 unfold cmpV
 by_cases h : fitT t a=true∧fitT t b=true
 ·rw [if_pos h,if_pos h.symm]
  split
  ·exact cb_anti _ _
  ·split <;> (unfold sgn;split <;> split <;> (try split) <;> omega)
 ·rw [if_neg h,if_neg (fun q=>h q.symm)]
  rfl
theorem fit_empty {t : Int} {a : XV} (h : fitT t a=true) (h3 : t≠3) : a.f1=⟨#[]⟩:=by
 unfold fitT at h
 split at h
 ·have h2 : a.f1.toList=[]:=by simpa using h
  exact bytes_eq (by rw [h2];simp [ByteArray.toList_eq])
 ·first|exact absurd h (by simp)|(rw [if_neg h3] at h;exact absurd h (by simp))
theorem fit_zero {t : Int} {a : XV} (h : fitT t a=true) (h3 : t=3) : a.f0=0:=by
 subst h3
 unfold fitT at h
 rw [if_neg (by omega),if_pos rfl] at h
 split at h
 ·assumption
 ·exact absurd h (by simp)
theorem XV.ext2 {a b : XV} (h0 : a.f0=b.f0) (h1 : a.f1=b.f1) : a=b:=by cases a;cases b;simp only at h0 h1;rw [h0,h1]
theorem cmpV_zero (t : Int) (a b : XV) (ha : fitT t a=true) (hb : fitT t b=true) (ga : GV a) (gb : GV b) : cmpV t a b=0 ↔ a=b:=by
 unfold cmpV
 rw [if_pos ⟨ha,hb⟩]
 obtain ⟨g1,g2⟩:=ga
 obtain ⟨g3,g4⟩:=gb
 by_cases e : t=3
 ·rw [if_pos e,cb_zero]
  exact ⟨fun h=>XV.ext2 (by rw [fit_zero ha e,fit_zero hb e]) (ByteArray.ext (Array.toList_inj.mp h)),fun h=>by rw [h]⟩
 ·rw [if_neg e]
  have key : a=b ↔ a.f0=b.f0:=⟨fun h=>by rw [h],fun h=>XV.ext2 h (by rw [fit_empty ha e,fit_empty hb e])⟩
  rw [key]
  split
  ·unfold sgn un;split <;> (try split) <;> omega
  ·unfold sgn;split <;> (try split) <;> omega
def cmpC (t : Int) (a b : XV) : Int:=if t=3 then Lib.compareBytes a.f1.data.toList b.f1.data.toList else if t=2 then sgn (un a.f0) (un b.f0) else sgn a.f0 b.f0
theorem cmpV_fit {t : Int} {a b : XV} (ha : fitT t a=true) (hb : fitT t b=true) : cmpV t a b=cmpC t a b:=by
 unfold cmpV cmpC
 rw [if_pos ⟨ha,hb⟩]
def cmpFrom (T : List Int) (a b : List XV) : Nat→Nat→Int
 | 0,_=>0
 | m + 1,i=>if cmpV (rd T i) (rdV a i) (rdV b i)=0 then cmpFrom T a b m (i + 1) else cmpV (rd T i) (rdV a i) (rdV b i)
def cmpRow (T : List Int) (K : Int) (a b : List XV) : Int:=cmpFrom T a b (min (min (min K.toNat T.length) a.length) b.length) 0
theorem cmpFrom_anti (T : List Int) (a b : List XV) : ∀ m i,cmpFrom T b a m i=- cmpFrom T a b m i
 | 0,i=>by simp [cmpFrom]
 | m + 1,i=>by
  unfold cmpFrom
  rw [cmpV_anti _ (rdV a i) (rdV b i),cmpFrom_anti T a b m (i + 1)]
  by_cases h : cmpV (rd T i) (rdV a i) (rdV b i)=0
  ·rw [if_pos (by omega),if_pos h]
  ·rw [if_neg (by omega),if_neg h]
def FitAt (T : List Int) (a : List XV) (m i : Nat) : Prop:=∀ j : Nat,i≤j→j < i + m→fitT (rd T j) (rdV a j)=true∧GV (rdV a j)
theorem FitAt.tail {T : List Int} {a : List XV} {m i : Nat} (h : FitAt T a (m + 1) i) : FitAt T a m (i + 1):=fun j h1 h2=>h j (by omega) (by omega)
theorem cmpFrom_zero (T : List Int) (a b : List XV) : ∀ m i,FitAt T a m i→FitAt T b m i→(cmpFrom T a b m i=0 ↔ ∀ j : Nat,i≤j→j < i + m→rdV a j=rdV b j)
 | 0,i,_,_=>by
  simp only [cmpFrom,true_iff]
  intro j h1 h2
  omega
 | m + 1,i,ha,hb=>by
  obtain ⟨a1,a2⟩:=ha i (by omega) (by omega)
  obtain ⟨b1,b2⟩:=hb i (by omega) (by omega)
  have hz:=cmpV_zero _ _ _ a1 b1 a2 b2
  have ih:=cmpFrom_zero T a b m (i + 1) ha.tail hb.tail
  unfold cmpFrom
  by_cases h : cmpV (rd T i) (rdV a i) (rdV b i)=0
  ·rw [if_pos h,ih]
   constructor
   ·intro q j h1 h2
    by_cases e : j=i
    ·subst e;exact hz.mp h
    ·exact q j (by omega) (by omega)
   ·intro q j h1 h2
    exact q j (by omega) (by omega)
  ·rw [if_neg h]
   constructor
   ·intro q;exact absurd q h
   ·intro q;exact absurd (hz.mpr (q i (by omega) (by omega))) h
end Go.Proofs.Ytmanchjamkpklaa.P

/- A row made to fit fits. -/
namespace Go.Proofs.Ytmanchjamkpklaa.P
open Go.RowKit Go.Proofs.YtmanchjamkpklaaW.PrintWords Go.Proofs.YtmanchjamkpklaaW.PrintLast Go.Proofs.YtmanchjamkpklaaW.PrintMore
set_option linter.unusedVariables false
set_option linter.unusedSimpArgs false
theorem rdV_take (r : List XV) (n j : Nat) (h : j < n) : rdV (r.take n) j=rdV r j:=by
 show rd_T45 _ _=rd_T45 _ _
 by_cases hi : j < r.length
 ·rw [rdV_lt _ j (by rw [List.length_take];omega),rdV_lt r j hi,List.getElem_take]
 ·rw [rdV_ge _ j (by rw [List.length_take];omega),rdV_ge r j (by omega)]
end Go.Proofs.Ytmanchjamkpklaa.P

/- Rows made to fit. -/
namespace Go.Proofs.Ytmanchjamkpklaa.P
open Go.RowKit Go.Proofs.YtmanchjamkpklaaW.PrintWords Go.Proofs.YtmanchjamkpklaaW.PrintLast Go.Proofs.YtmanchjamkpklaaW.PrintMore
set_option linter.unusedVariables false
set_option linter.unusedSimpArgs false
end Go.Proofs.Ytmanchjamkpklaa.P

/- The document's Compare of values tells the same order. -/
namespace Go.Proofs.Ytmanchjamkpklaa.P
open Go.RowKit Go.Proofs.YtmanchjamkpklaaW.PrintWords Go.Proofs.YtmanchjamkpklaaW.PrintLast Go.Proofs.YtmanchjamkpklaaW.PrintMore
set_option linter.unusedVariables false
set_option linter.unusedSimpArgs false
def GR (r : List XV) : Prop:=∀ v ∈ r,GV v∧v.f1.size≤9223372036854775807
theorem GR.rdV {r : List XV} (h : GR r) (i : Nat) : GV (rdV r i)∧(P.rdV r i).f1.size≤9223372036854775807:=by
 by_cases hi : i < r.length
 ·show GV (rd_T45 r i)∧(rd_T45 r i).f1.size≤_
  rw [rdV_lt r i hi]
  exact h _ (List.getElem_mem hi)
 ·show GV (rd_T45 r i)∧(rd_T45 r i).f1.size≤_
  rw [rdV_ge r i (by omega)]
  exact ⟨⟨by simp,by simp⟩,by decide⟩
end Go.Proofs.Ytmanchjamkpklaa.P

/- A schema of a shape. -/
namespace Go.Proofs.Ytmanchjamkpklaa.P
open Go.RowKit Go.Proofs.YtmanchjamkpklaaW.PrintWords Go.Proofs.YtmanchjamkpklaaW.PrintLast Go.Proofs.YtmanchjamkpklaaW.PrintMore
end Go.Proofs.Ytmanchjamkpklaa.P

/- value.Compare tells the order of values. -/
namespace Go.Proofs.Ytmanchjamkpklaa.P
open Go.RowKit Go.Proofs.YtmanchjamkpklaaW.PrintWords Go.Proofs.YtmanchjamkpklaaW.PrintLast Go.Proofs.YtmanchjamkpklaaW.PrintMore
set_option linter.unusedVariables false
set_option linter.unusedSimpArgs false
theorem vfits_f (k : Nat) (t n : Int) (s : ByteArray) : value_Fits.f (k + 1) t n s=some (fitT t ⟨n,s⟩):=by
 unfold value_Fits.f fitT
 by_cases h1 : t=1
 ·rw [if_pos h1,if_pos (Or.inl h1)]
  subst h1
  rfl
 ·rw [if_neg h1]
  by_cases h2 : t=2
  ·rw [if_pos (Or.inr h2)]
   subst h2
   rfl
  ·rw [if_neg (by omega),show (t == 2)=false by simpa using h2]
   simp only [value_Fits.j0,Bool.false_eq_true,if_false]
   by_cases h3 : t=3
   ·rw [if_pos h3,if_pos h3]
    split <;> rfl
   ·rw [if_neg h3,if_neg h3]
theorem vfits_ev (t n : Int) (s : ByteArray) : Ev (fun k=>value_Fits.f k t n s) (fitT t ⟨n,s⟩):=Ev.succ ⟨0,fun k _=>vfits_f k t n s⟩
theorem cmpu_f (x y : Int) : cmp_Compare_uint64.f x y=some (sgn x y):=by
 simp only [cmp_Compare_uint64.f,cmp_isNaN_uint64.f,bne_self_eq_false,Option.bind_some,Bool.false_eq_true,if_false]
 unfold sgn
 split
 ·rfl
 ·split <;> rfl
theorem cmpi_f (x y : Int) : cmp_Compare_int64.f x y=some (sgn x y):=by
 simp only [cmp_Compare_int64.f,cmp_isNaN_int64.f,bne_self_eq_false,Option.bind_some,Bool.false_eq_true,if_false]
 unfold sgn
 split
 ·rfl
 ·split <;> rfl
theorem vcmp_ev (t : Int) (a b : XV) : Ev (fun k=>value_Compare.f k t a.f0 a.f1 b.f0 b.f1) (cmpV t a b):=by
 simp only [value_Compare.f]
 refine Ev.bind (vfits_ev t a.f0 a.f1) ?_
 by_cases ha : fitT t a=true
 ·refine Ev.pos ha (Ev.bind (vfits_ev t b.f0 b.f1) (Ev.succ ?_))
  simp only [value_Compare.j0]
  by_cases hb : fitT t b=true
  ·rw [cmpV_fit ha hb]
   refine Ev.neg (fun h=>?_) ?_
   ·rw [show fitT t ⟨b.f0,b.f1⟩=true from hb] at h
    exact absurd h (by simp)
   ·by_cases e3 : t=3
    ·refine (Ev.pos e3 (Ev.bindc rfl (Ev.now _))).eq ?_
     unfold cmpC
     rw [if_pos e3]
    ·refine Ev.neg e3 ?_
     by_cases e2 : t=2
     ·refine (Ev.pos e2 (Ev.bindc (cmpu_f _ _) (Ev.now _))).eq ?_
      unfold cmpC
      rw [if_neg e3,if_pos e2]
      rfl
     ·refine (Ev.neg e2 (Ev.bindc (cmpi_f _ _) (Ev.now _))).eq ?_
      unfold cmpC
      rw [if_neg e3,if_neg e2]
  ·refine (Ev.pos ?_ (Ev.now _)).eq ?_
   ·rw [show fitT t ⟨b.f0,b.f1⟩=false from Bool.eq_false_iff.mpr hb]
    rfl
   ·unfold cmpV
    rw [if_neg (fun h=>hb h.2)]
 ·refine Ev.neg ha (Ev.succ ?_)
  simp only [value_Compare.j0]
  refine (Ev.pos (by simp) (Ev.now _)).eq ?_
  unfold cmpV
  rw [if_neg (fun h=>ha h.1)]
end Go.Proofs.Ytmanchjamkpklaa.P

/- The document's Compare of rows tells the same order. -/
namespace Go.Proofs.Ytmanchjamkpklaa.P
open Go.RowKit Go.Proofs.YtmanchjamkpklaaW.PrintWords Go.Proofs.YtmanchjamkpklaaW.PrintLast Go.Proofs.YtmanchjamkpklaaW.PrintMore
set_option linter.unusedVariables false
set_option linter.unusedSimpArgs false
end Go.Proofs.Ytmanchjamkpklaa.P

/- schema.Compare tells the order of rows. -/
namespace Go.Proofs.Ytmanchjamkpklaa.P
open Go.RowKit Go.Proofs.YtmanchjamkpklaaW.PrintWords Go.Proofs.YtmanchjamkpklaaW.PrintLast Go.Proofs.YtmanchjamkpklaaW.PrintMore
set_option linter.unusedVariables false
set_option linter.unusedSimpArgs false
theorem scmp_loop (T : List Int) (a b : List XV) (m : Nat) (h1 : m≤T.length) (h2 : m≤a.length) (h3 : m≤b.length) (hm : m≤1000000000) : ∀ (d i : Nat),i + d=m→Ev (fun k=>schema_Compare.l0 k a b (T.take m) m i) (cmpFrom T a b d i)
 | 0,i,hi=>by
  refine Ev.succ ?_
  simp only [schema_Compare.l0]
  exact Ev.neg (by omega) (Ev.now _)
 | d + 1,i,hi=>by
  refine Ev.succ ?_
  simp only [schema_Compare.l0]
  have e : rd (T.take m) i=rd T i:=by rw [rd_lt _ i (by rw [List.length_take];omega),rd_lt T i (by omega),List.getElem_take]
  rw [e]
  have el : (T.take m).length=m:=by rw [List.length_take];omega
  simp (disch:=omega) only [w64]
  unfold cmpFrom
  refine Ev.pos (by omega) (Ev.pos (by omega) (Ev.pos (by omega) (Ev.pos (by omega) (Ev.pos (by omega) (Ev.bind (vcmp_ev _ _ _) ?_)))))
  by_cases h : cmpV (rd T i) (rdV a i) (rdV b i)=0
  ·rw [if_pos h]
   exact Ev.pos h (scmp_loop T a b m h1 h2 h3 hm d (i + 1) (by omega))
  ·rw [if_neg h]
   exact Ev.neg h (Ev.now _)
theorem scmp_ev (T : List Int) (K M G : Int) (a b : List XV) (hT : T.length≤1000000000) : Ev (fun k=>schema_Compare.f k T K M G a b) (cmpRow T K a b):=by
 simp only [schema_Compare.f]
 unfold cmpRow
 obtain ⟨m,hm⟩ : ∃ m,min (min (min K.toNat T.length) a.length) b.length=m:=⟨_,rfl⟩
 have e : mn (mn (mn (mx K 0) (T.length : Int)) (a.length : Int)) (b.length : Int)=(m : Int):=by
  unfold mn mx
  rw [← hm]
  repeat' split
  all_goals omega
 rw [e,hm]
 have el : (T.take m).length=m:=by rw [List.length_take];omega
 refine Ev.pos (by omega) (Ev.pos (by omega) ?_)
 rw [Int.toNat_natCast,el]
 exact scmp_loop T a b m (by omega) (by omega) (by omega) (by omega) m 0 (by omega)
end Go.Proofs.Ytmanchjamkpklaa.P

/- Rows that fit, as far as they go: their order. -/
namespace Go.Proofs.Ytmanchjamkpklaa.P
open Go.RowKit Go.Proofs.YtmanchjamkpklaaW.PrintWords Go.Proofs.YtmanchjamkpklaaW.PrintLast Go.Proofs.YtmanchjamkpklaaW.PrintMore
set_option linter.unusedVariables false
set_option linter.unusedSimpArgs false
structure RowOk (T : List Int) (a : List XV) : Prop where
 len : a.length≤T.length
 fit : FitAt T a a.length 0
 gr : GR a
theorem FitAt.mono {T : List Int} {a : List XV} {m m' : Nat} (h : FitAt T a m 0) (hm : m'≤m) : FitAt T a m' 0:=fun j h1 h2=>h j h1 (by omega)
theorem RowOk.take {T : List Int} {a : List XV} (h : RowOk T a) (n : Nat) : RowOk T (a.take n):=by
 have hl : (a.take n).length≤a.length:=by rw [List.length_take];omega
 refine ⟨by have:=h.len;omega,fun j h1 h2=>?_,fun v hv=>h.gr v (List.mem_of_mem_take hv)⟩
 rw [List.length_take] at h2
 rw [rdV_take a n j (by omega)]
 exact h.fit j h1 (by omega)
theorem cmpRow_anti (T : List Int) (K : Int) (a b : List XV) : cmpRow T K b a=- cmpRow T K a b:=by
 unfold cmpRow
 rw [cmpFrom_anti,show min (min (min K.toNat T.length) b.length) a.length=min (min (min K.toNat T.length) a.length) b.length by omega]
theorem cmpRow_self (T : List Int) (K : Int) (a : List XV) : cmpRow T K a a=0:=by have:=cmpRow_anti T K a a;omega
structure Full (T : List Int) (K : Int) (a : List XV) : Prop where
 ok : RowOk T a
 key : min K.toNat T.length≤a.length
def InOrd (T : List Int) (K : Int) (l : List (List XV)) : Prop:=l.Pairwise (fun a b=>cmpRow T K a b≤0)
theorem InOrd.at {T : List Int} {K : Int} {l : List (List XV)} (h : InOrd T K l) {i j : Nat} (hij : i≤j) (hj : j < l.length) : cmpRow T K (rdR l i) (rdR l j)≤0:=by
 rw [show rdR l i=l[i] from rdR_lt l i (by omega),show rdR l j=l[j] from rdR_lt l j hj]
 rcases Nat.eq_or_lt_of_le hij with e|h1
 ·subst e;rw [cmpRow_self];omega
 ·exact List.pairwise_iff_getElem.mp h i j (by omega) hj h1
end Go.Proofs.Ytmanchjamkpklaa.P

/- The document's Sort puts rows in order. -/
namespace Go.Proofs.Ytmanchjamkpklaa.P
open Go.RowKit Go.Proofs.YtmanchjamkpklaaW.PrintWords Go.Proofs.YtmanchjamkpklaaW.PrintLast Go.Proofs.YtmanchjamkpklaaW.PrintMore
set_option linter.unusedVariables false
set_option linter.unusedSimpArgs false
def insR (T : List Int) (K : Int) (x : List XV) : List (List XV)→List (List XV)
 | []=>[x]
 | y :: l=>if cmpRow T K y x > 0 then x :: y :: l else y :: insR T K x l
def sortR (T : List Int) (K : Int) (l acc : List (List XV)) : List (List XV):=l.foldl (fun a x=>insR T K x a) acc
end Go.Proofs.Ytmanchjamkpklaa.P

/- Rows made to fit, and put in order. -/
namespace Go.Proofs.Ytmanchjamkpklaa.P
open Go.RowKit Go.Proofs.YtmanchjamkpklaaW.PrintWords Go.Proofs.YtmanchjamkpklaaW.PrintLast Go.Proofs.YtmanchjamkpklaaW.PrintMore
set_option linter.unusedVariables false
set_option linter.unusedSimpArgs false
def fitsR (T : List Int) (l : List (List XV)) : List (List XV):=(l.take 60).map (fitRow T)
structure Rows60 (T : List Int) (K : Int) (l : List (List XV)) : Prop where
 len : l.length≤60
 full : ∀ r ∈ l,Full T K r
 wide : ∀ r ∈ l,r.length=T.length
theorem Rows60.gr {T : List Int} {K : Int} {l : List (List XV)} (h : Rows60 T K l) : ∀ r ∈ l,GR r:=fun r hr=>(h.full r hr).ok.gr
end Go.Proofs.Ytmanchjamkpklaa.P

/- Rows of one key as one: plain. -/
namespace Go.Proofs.Ytmanchjamkpklaa.P
open Go.RowKit Go.Proofs.YtmanchjamkpklaaW.PrintWords Go.Proofs.YtmanchjamkpklaaW.PrintLast
set_option linter.unusedVariables false
set_option linter.unusedSectionVars false
def addV (t : Int) (a b : XV) : XV:=if fitT t a=true∧fitT t b=true then (if t=3 then b else ⟨wrap64 (a.f0 + b.f0),⟨#[]⟩⟩) else ⟨0,⟨#[]⟩⟩
theorem addV_fit {t : Int} {a b : XV} (ha : fitT t a=true) (hb : fitT t b=true) : fitT t (addV t a b)=true:=by
 unfold addV
 rw [if_pos ⟨ha,hb⟩]
 by_cases h : t=3
 ·rw [if_pos h];exact hb
 ·rw [if_neg h]
  unfold fitT at ha ⊢
  by_cases c : t=1 ∨ t=2
  ·rw [if_pos c];simp [ByteArray.toList_eq]
  ·rw [if_neg c,if_neg h] at ha;exact absurd ha (by simp)
theorem addV_GV {t : Int} {a b : XV} (hb : GV b) : GV (addV t a b):=by
 unfold addV
 split
 ·split
  ·exact hb
  ·exact ⟨by show _≤wrap64 _;unfold wrap64;omega,by show wrap64 _≤_;unfold wrap64;omega⟩
 ·exact ⟨by simp,by simp⟩
theorem addV_size {t : Int} {a b : XV} (hb : b.f1.size≤9223372036854775807) : (addV t a b).f1.size≤9223372036854775807:=by
 unfold addV
 split
 ·split
  ·exact hb
  ·show (0 : Nat)≤_;omega
 ·show (0 : Nat)≤_;omega
def jnV (K M t : Int) (i : Nat) (x y : XV) : XV:=if M=3∧¬ (i : Int) < K then addV t x y else y
def oneR (T : List Int) (K M : Int) (a b : List XV) : List XV:=(List.range T.length).map fun (i : Nat)=>jnV K M (rd T (i : Int)) i (rdV a (i : Int)) (rdV b (i : Int))
theorem oneR_length (T : List Int) (K M : Int) (a b : List XV) : (oneR T K M a b).length=T.length:=by simp [oneR]
theorem rdV_oneR (T : List Int) (K M : Int) (a b : List XV) (i : Nat) (hi : i < T.length) : rdV (oneR T K M a b) i=jnV K M (rd T (i : Int)) i (rdV a (i : Int)) (rdV b (i : Int)):=by
 show rd_T45 _ _=_
 rw [rdV_lt _ i (by rw [oneR_length];exact hi)]
 simp [oneR]
theorem row_ext {a b : List XV} (hl : a.length=b.length) (h : ∀ i : Nat,i < a.length→rdV a i=rdV b i) : a=b:=by
 apply List.ext_getElem hl
 intro i h1 h2
 have:=h i h1
 rw [show rdV a i=a[i] from rdV_lt a i h1,show rdV b i=b[i] from rdV_lt b i h2] at this
 exact this
structure Whole (T : List Int) (a : List XV) : Prop where
 len : a.length=T.length
 ok : RowOk T a
theorem Whole.at {T : List Int} {a : List XV} (h : Whole T a) (i : Nat) (hi : i < T.length) : fitT (rd T i) (rdV a i)=true∧GV (rdV a i)∧(rdV a i).f1.size≤9223372036854775807:=by
 have f:=h.ok.fit i (Nat.zero_le _) (by rw [h.len];omega)
 exact ⟨f.1,f.2,(h.ok.gr.rdV i).2⟩
theorem whole_mk {T : List Int} {a : List XV} (hl : a.length=T.length) (h : ∀ i : Nat,i < T.length→fitT (rd T i) (rdV a i)=true∧GV (rdV a i)∧(rdV a i).f1.size≤9223372036854775807) : Whole T a:=by
 refine ⟨hl,⟨by omega,fun j h1 h2=>?_,fun v hv=>?_⟩⟩
 ·have:=h j (by omega)
  exact ⟨this.1,this.2.1⟩
 ·obtain ⟨i,hi,rfl⟩:=List.getElem_of_mem hv
  have:=h i (by omega)
  rw [show rdV a i=a[i] from rdV_lt a i hi] at this
  exact this.2
theorem one_whole {T : List Int} (K M : Int) {a b : List XV} (ha : Whole T a) (hb : Whole T b) : Whole T (oneR T K M a b):=by
 refine whole_mk (oneR_length _ _ _ _ _) (fun i hi=>?_)
 rw [rdV_oneR _ _ _ _ _ i hi]
 obtain ⟨a1,a2,a3⟩:=ha.at i hi
 obtain ⟨b1,b2,b3⟩:=hb.at i hi
 unfold jnV
 split
 ·exact ⟨addV_fit a1 b1,addV_GV b2,addV_size b3⟩
 ·exact ⟨b1,b2,b3⟩
theorem cmp_zero {T : List Int} {K : Int} (h0 : 0≤K) {a b : List XV} (ha : Whole T a) (hb : Whole T b) : cmpRow T K a b=0 ↔ ∀ i : Nat,(i : Int) < K→i < T.length→rdV a i=rdV b i:=by
 unfold cmpRow
 rw [ha.len,hb.len,cmpFrom_zero T a b _ 0 (ha.ok.fit.mono (by rw [ha.len];omega)) (hb.ok.fit.mono (by rw [hb.len];omega))]
 constructor
 ·intro h i h1 h2
  exact h i (Nat.zero_le _) (by omega)
 ·intro h j _ h2
  exact h j (by omega) (by omega)
def foldL (T : List Int) (K M : Int) : List XV→List (List XV)→List (List XV)
 | p,[]=>[p]
 | p,r :: l=>if cmpRow T K p r=0 then foldL T K M (oneR T K M p r) l else p :: foldL T K M r l
theorem foldL_cons (T : List Int) (K M : Int) (p r : List XV) (l : List (List XV)) : foldL T K M p (r :: l)=if cmpRow T K p r=0 then foldL T K M (oneR T K M p r) l else p :: foldL T K M r l:=rfl
def foldR (T : List Int) (K M : Int) : List (List XV)→List (List XV)
 | []=>[]
 | r :: l=>foldL T K M r l
section
variable {T : List Int} {K M : Int} (h0 : 0≤K)
include h0
omit h0 in
theorem foldL_app : ∀ (a : List (List XV)) (p : List XV),∃ pre q,foldL T K M p a=pre ++ [q]∧∀ b,foldL T K M p (a ++ b)=pre ++ foldL T K M q b
 | [],p=>⟨[],p,rfl,fun b=>rfl⟩
 | r :: l,p=>by
  by_cases h : cmpRow T K p r=0
  ·obtain ⟨pre,q,e1,e2⟩:=foldL_app l (oneR T K M p r)
   exact ⟨pre,q,by rw [foldL_cons,if_pos h,e1],fun b=>by rw [List.cons_append,foldL_cons,if_pos h,e2]⟩
  ·obtain ⟨pre,q,e1,e2⟩:=foldL_app l r
   exact ⟨p :: pre,q,by rw [foldL_cons,if_neg h,e1];rfl,fun b=>by rw [List.cons_append,foldL_cons,if_neg h,e2];rfl⟩
end
end Go.Proofs.Ytmanchjamkpklaa.P

/- fold.Rows, fold.One and the document's: what they compute. -/
namespace Go.Proofs.Ytmanchjamkpklaa.P
open Go.RowKit Go.Proofs.YtmanchjamkpklaaW.PrintWords Go.Proofs.YtmanchjamkpklaaW.PrintLast
set_option linter.unusedVariables false
set_option linter.unusedSectionVars false
theorem shown13_ev : Ev (fun k=>thresherlaw13_shown.f k) true:=Ev.of thresherlaw13_shown.mono (k:=12) (by kernel_rfl)
theorem vadd_j (t : Int) (a b : XV) (p : Bool) (hp : p=!(fitT t a && fitT t b)) : Ev (fun k=>value_Add.j0 k t p a.f0 a.f1 b.f0 b.f1) ((addV t a b).f0,(addV t a b).f1):=by
 refine Ev.succ ?_
 simp only [value_Add.j0]
 unfold addV
 by_cases h : fitT t a=true∧fitT t b=true
 ·rw [if_pos h]
  refine Ev.neg (by rw [hp,h.1,h.2];simp) ?_
  by_cases h3 : t=3
  ·exact (Ev.pos h3 (Ev.now _)).eq (by simp only [if_pos h3])
  ·exact (Ev.neg h3 (Ev.now _)).eq (by simp only [if_neg h3])
 ·rw [if_neg h]
  refine Ev.pos ?_ (Ev.now _)
  rw [hp]
  by_cases h1 : fitT t a=true
  ·have h2 : fitT t b=false:=by
    cases q : fitT t b with
    | false=>rfl
    | true=>exact absurd ⟨h1,q⟩ h
   rw [h1,h2];rfl
  ·rw [Bool.eq_false_iff.mpr h1];rfl
theorem vadd_ev (t : Int) (a b : XV) : Ev (fun k=>value_Add.f k t a.f0 a.f1 b.f0 b.f1) ((addV t a b).f0,(addV t a b).f1):=by
 simp only [value_Add.f]
 refine Ev.bind (vfits_ev t a.f0 a.f1) ?_
 by_cases h1 : fitT t a=true
 ·refine Ev.pos h1 (Ev.bind (vfits_ev t b.f0 b.f1) (vadd_j t a b _ ?_))
  rw [h1,Bool.true_and]
 ·refine Ev.neg h1 (vadd_j t a b true ?_)
  rw [Bool.eq_false_iff.mpr h1];rfl
theorem foldJ_ev (K M t : Int) (i : Nat) (x y : XV) : Ev (fun k=>foldJ k K M t i x y) (jnV K M t i x y):=by
 unfold foldJ jnV
 by_cases h : M=3∧¬ (i : Int) < K
 ·simp only [if_pos h]
  exact Ev.bind (vadd_ev t x y) (Ev.now _)
 ·simp only [if_neg h]
  exact Ev.now _
theorem oneR_get (T : List Int) (K M : Int) (a b : List XV) (i : Nat) (hi : i < T.length) : (oneR T K M a b).drop i=jnV K M (rd T (i : Int)) i (rdV a (i : Int)) (rdV b (i : Int)) :: (oneR T K M a b).drop (i + 1):=by
 rw [List.drop_eq_getElem_cons (by rw [oneR_length];exact hi)]
 congr 1
 simp [oneR]
theorem foldGo_ev (T : List Int) (K M : Int) (a b : List XV) (ha : a.length=T.length) (hb : b.length=T.length) : ∀ (d i : Nat),i + d=T.length→Ev (fun k=>foldGo k K M i (T.drop i) (a.drop i) (b.drop i)) ((oneR T K M a b).drop i)
 | 0,i,hi=>by
  rw [List.drop_of_length_le (by omega : T.length≤i),List.drop_of_length_le (by omega : a.length≤i),List.drop_of_length_le (by omega : b.length≤i),List.drop_of_length_le (by rw [oneR_length];omega)]
  exact Ev.now _
 | d + 1,i,hi=>by
  have h : i < T.length:=by omega
  rw [oneR_get T K M a b i h,List.drop_eq_getElem_cons h,List.drop_eq_getElem_cons (by omega : i < a.length),List.drop_eq_getElem_cons (by omega : i < b.length)]
  simp only [foldGo]
  have e0 : rd T (i : Int)=T[i]:=rd_lt T i h
  have e1 : rdV a (i : Int)=a[i]:=rdV_lt a i (by omega)
  have e2 : rdV b (i : Int)=b[i]:=rdV_lt b i (by omega)
  rw [e0,e1,e2]
  exact Ev.bind (foldJ_ev _ _ _ _ _ _) (Ev.bind (foldGo_ev T K M a b ha hb d (i + 1) (by omega)) (Ev.now _))
theorem fone_ev {T : List Int} {K M G : Int} (hS : Sch T K M G) {a b : List XV} (ha : a.length=T.length) (hb : b.length=T.length) : Ev (fun k=>fold_One.f k T K M G a b) (oneR T K M a b):=by
 unfold fold_One.f
 have:=hS.n8
 refine Ev.pos ⟨by omega,hS.m1,hS.m3,hb⟩ ?_
 have:=foldGo_ev T K M a b ha hb T.length 0 (by omega)
 simpa only [List.drop_zero] using this
section
variable {T : List Int} {K M G : Int} (hS : Sch T K M G) (l : List (List XV)) (hl : l.length≤1000) (hw : ∀ r ∈ l,Whole T r)
include hS hl hw
theorem set_last (pre : List (List XV)) (p z : List XV) : (pre ++ [p]).set pre.length z=pre ++ [z]:=by
 rw [List.set_append,if_neg (by omega),Nat.sub_self,List.set_cons_zero]
theorem rdR_last (pre : List (List XV)) (p : List XV) : rdR (pre ++ [p]) (pre.length : Nat)=p:=by
 rw [show rdR (pre ++ [p]) (pre.length : Nat)=_ from rdR_lt (pre ++ [p]) pre.length (by simp)]
 simp
theorem frows_loop : ∀ (d i : Nat) (pre : List (List XV)) (p : List XV),i + d=l.length→pre.length < i→Whole T p→Ev (fun k=>fold_Rows.l0 k (pre ++ [p]) l (l.length : Int) i T K M G) (pre ++ foldL T K M p (l.drop i))
 | 0,i,pre,p,hi,hp,hwp=>by
  refine Ev.succ ?_
  simp only [fold_Rows.l0]
  rw [List.drop_of_length_le (by omega)]
  exact Ev.neg (by omega) (Ev.now _)
 | d + 1,i,pre,p,hi,hp,hwp=>by
  have h : i < l.length:=by omega
  have h8:=hS.n8
  have hx:=hw _ (List.getElem_mem h)
  refine Ev.succ ?_
  simp only [fold_Rows.l0]
  have e : wrap64 (((pre ++ [p]).length : Int) - 1)=(pre.length : Int):=by
   rw [List.length_append,List.length_singleton,w64 (by omega) (by omega)]
   omega
  rw [e,show wrap64 ((i : Int) + 1)=(i : Int) + 1 from w64 (by omega) (by omega),rdR_lt l i h,show rd_L5 (pre ++ [p]) (pre.length : Int)=p from rdR_last hS l hl hw pre p,Int.toNat_natCast]
  clear e
  have hpl : ((pre ++ [p]).length : Int)=pre.length + 1:=by rw [List.length_append];rfl
  rw [List.drop_eq_getElem_cons h]
  refine Ev.pos (by omega) (Ev.pos (by omega) (Ev.pos (by omega) (Ev.pos (by omega) (Ev.pos (by omega) (Ev.pos (by omega) (Ev.bind (scmp_ev T K M G p l[i] (by omega)) ?_))))))
  have e2 : foldL T K M p (l[i] :: l.drop (i + 1))=if cmpRow T K p l[i]=0 then foldL T K M (oneR T K M p l[i]) (l.drop (i + 1)) else p :: foldL T K M l[i] (l.drop (i + 1)):=rfl
  rw [e2]
  by_cases hc : cmpRow T K p l[i]=0
  ·rw [if_pos hc]
   refine Ev.pos hc (Ev.bind (fone_ev hS hwp.len hx.len) ?_)
   rw [set_last hS l hl hw]
   exact frows_loop d (i + 1) pre _ (by omega) (by omega) (one_whole K M hwp hx)
  ·rw [if_neg hc]
   refine Ev.neg hc (Ev.pos (by omega) ?_)
   have:=frows_loop d (i + 1) (pre ++ [p]) l[i] (by omega) (by rw [List.length_append,List.length_singleton];omega) hx
   exact this.eq (by rw [List.append_assoc];rfl)
def foldA (T : List Int) (K M : Int) (l : List (List XV)) : List (List XV):=if M=1 then l else foldR T K M l
theorem frows_ev : Ev (fun k=>fold_Rows.f k T K M G l) (foldA T K M l):=by
 simp only [fold_Rows.f]
 unfold foldA
 by_cases hM : M=1
 ·rw [if_pos hM]
  refine Ev.pos hM (Ev.bindc (a:=l) ?_ (Ev.now _))
  simp only [api_Row.f,Option.bind_some,List.length_nil,List.nil_append]
  rw [if_pos (by omega)]
 ·rw [if_neg hM]
  refine Ev.neg hM ?_
  cases hc : l with
  | nil =>
   refine Ev.succ ?_
   simp only [fold_Rows.l0]
   exact Ev.neg (by simp) (Ev.now _)
  | cons x xs =>
   have h : 0 < l.length:=by rw [hc];simp
   have h8:=hS.n8
   have e0 : rdR l (0 : Int)=x:=by
    have:=rdR_lt l 0 h
    rw [show rdR l (0 : Int)=_ from this]
    simp [hc]
   have:=frows_loop hS l hl hw (l.length - 1) 1 [] x (by omega) (by simp) (hw x (by rw [hc];exact List.mem_cons_self))
   rw [← hc]
   refine Ev.succ ?_
   simp only [fold_Rows.l0]
   rw [show wrap64 ((([] : List (List XV)).length : Int) - 1)=-1 from w64 (by simp) (by simp),show wrap64 ((0 : Int) + 1)=1 from w64 (by omega) (by omega)]
   rw [show rd_L5 l (0 : Int)=x from e0]
   refine Ev.pos (by omega) (Ev.pos (by omega) (Ev.pos (by omega) (Ev.neg (by omega) (Ev.pos (by simp) ?_))))
   rw [List.nil_append,hc] at this ⊢
   exact this
end
end Go.Proofs.Ytmanchjamkpklaa.P

/- Rows that come in, made to fit and put in order; folded: how many, and of which form. -/
namespace Go.Proofs.Ytmanchjamkpklaa.P
open Go.RowKit Go.Proofs.YtmanchjamkpklaaW.PrintWords Go.Proofs.YtmanchjamkpklaaW.PrintLast
set_option linter.unusedVariables false
set_option linter.unusedSectionVars false
end Go.Proofs.Ytmanchjamkpklaa.P

/- In a summing table the numbers of one key are summed, and go round, and its texts are those of the last row: the plain law. -/
namespace Go.Proofs.Ytmanchjamkpklaa.Pure
open Go.RowKit Go.Proofs.Ytmanchjamkpklaa.P Go.Proofs.YtmanchjamkpklaaW.PrintWords Go.Proofs.YtmanchjamkpklaaW.PrintLast
set_option linter.unusedVariables false
set_option linter.unusedSectionVars false
def T4 : List Int:=[1,2,1,3]
theorem S4 : Sch T4 1 3 1:=⟨by decide,by decide,by decide,by decide,by decide,by decide,by decide,by decide,by decide⟩
def rowOf (n : Int) (s : ByteArray) : List XV:=[⟨5,⟨#[]⟩⟩,⟨n,⟨#[]⟩⟩,⟨wrap64 (-n),⟨#[]⟩⟩,⟨0,s⟩]
def In64 (n : Int) : Prop:=-9223372036854775808≤n∧n≤9223372036854775807
theorem in64 (n : Int) : In64 (wrap64 n):=⟨by unfold wrap64;omega,by unfold wrap64;omega⟩
theorem four {p : Nat→Prop} (h0 : p 0) (h1 : p 1) (h2 : p 2) (h3 : p 3) : ∀ i,i < 4→p i:=by
 intro i hi
 have : i=0 ∨ i=1 ∨ i=2 ∨ i=3:=by omega
 rcases this with rfl|rfl|rfl|rfl <;> assumption
theorem fit_num {t : Int} (ht : t=1 ∨ t=2) (n : Int) : fitT t ⟨n,⟨#[]⟩⟩=true:=by
 unfold fitT
 rw [if_pos ht]
 simp [ByteArray.toList_eq]
theorem fit_txt {s : ByteArray} (hs : s.size≤60) : fitT 3 ⟨0,s⟩=true:=by
 unfold fitT
 rw [if_neg (by omega),if_pos rfl,if_pos rfl]
 refine decide_eq_true ?_
 show (s.size : Int)≤60
 omega
theorem rowOf_whole {n : Int} {s : ByteArray} (hn : In64 n) (hs : s.size≤60) : Whole T4 (rowOf n s):=by
 refine whole_mk rfl (four ?_ ?_ ?_ ?_)
 ·show fitT 1 ⟨5,⟨#[]⟩⟩=true∧GV ⟨5,⟨#[]⟩⟩∧(0 : Nat)≤_
  exact ⟨fit_num (Or.inl rfl) _,⟨by decide,by decide⟩,by omega⟩
 ·show fitT 2 ⟨n,⟨#[]⟩⟩=true∧GV ⟨n,⟨#[]⟩⟩∧(0 : Nat)≤_
  exact ⟨fit_num (Or.inr rfl) _,hn,by omega⟩
 ·show fitT 1 ⟨wrap64 (-n),⟨#[]⟩⟩=true∧GV ⟨wrap64 (-n),⟨#[]⟩⟩∧(0 : Nat)≤_
  exact ⟨fit_num (Or.inl rfl) _,in64 _,by omega⟩
 ·show fitT 3 ⟨0,s⟩=true∧GV ⟨0,s⟩∧s.size≤_
  exact ⟨fit_txt hs,⟨by show (-9223372036854775808 : Int)≤0;omega,by show (0 : Int)≤9223372036854775807;omega⟩,by omega⟩
theorem one_rowOf {a b : Int} {s t : ByteArray} (ha : In64 a) (hb : In64 b) (hs : s.size≤60) (ht : t.size≤60) : oneR T4 1 3 (rowOf a s) (rowOf b t)=rowOf (wrap64 (a + b)) t:=by
 have wa:=rowOf_whole ha hs
 have wb:=rowOf_whole hb ht
 refine row_ext (by rw [oneR_length];rfl) (fun i hi=>?_)
 rw [oneR_length] at hi
 rw [rdV_oneR _ _ _ _ _ i hi]
 have key : ∀ i : Nat,i < 4→jnV 1 3 (rd T4 (i : Int)) i (rdV (rowOf a s) (i : Int)) (rdV (rowOf b t) (i : Int))=rdV (rowOf (wrap64 (a + b)) t) (i : Int):=by
  refine four ?_ ?_ ?_ ?_
  ·show jnV 1 3 1 0 ⟨5,⟨#[]⟩⟩ ⟨5,⟨#[]⟩⟩=⟨5,⟨#[]⟩⟩
   rfl
  ·show jnV 1 3 2 1 ⟨a,⟨#[]⟩⟩ ⟨b,⟨#[]⟩⟩=⟨wrap64 (a + b),⟨#[]⟩⟩
   unfold jnV addV
   rw [if_pos ⟨rfl,by decide⟩,if_pos ⟨fit_num (Or.inr rfl) _,fit_num (Or.inr rfl) _⟩,if_neg (by omega)]
  ·show jnV 1 3 1 2 ⟨wrap64 (-a),⟨#[]⟩⟩ ⟨wrap64 (-b),⟨#[]⟩⟩=⟨wrap64 (-(wrap64 (a + b))),⟨#[]⟩⟩
   unfold jnV addV
   rw [if_pos ⟨rfl,by decide⟩,if_pos ⟨fit_num (Or.inl rfl) _,fit_num (Or.inl rfl) _⟩,if_neg (by omega)]
   simp only [S45.mk.injEq,and_true]
   unfold wrap64
   omega
  ·show jnV 1 3 3 3 ⟨0,s⟩ ⟨0,t⟩=⟨0,t⟩
   unfold jnV addV
   rw [if_pos ⟨rfl,by decide⟩,if_pos ⟨fit_txt hs,fit_txt ht⟩,if_pos rfl]
 exact key i hi
theorem cmp_rowOf (a b : Int) (s t : ByteArray) (ha : In64 a) (hb : In64 b) (hs : s.size≤60) (ht : t.size≤60) : cmpRow T4 1 (rowOf a s) (rowOf b t)=0:=by
 refine (cmp_zero (by omega) (rowOf_whole ha hs) (rowOf_whole hb ht)).mpr (fun i h1 h2=>?_)
 obtain rfl : i=0:=by omega
 rfl
theorem snoc_fold {rows : List (List XV)} {q : List XV} (r : List XV) (h : foldR T4 1 3 rows=[q]) (hc : cmpRow T4 1 q r=0) : foldR T4 1 3 (rows ++ [r])=[oneR T4 1 3 q r]:=by
 cases rows with
 | nil=>simp [foldR] at h
 | cons x xs =>
  obtain ⟨pre,p,e1,e2⟩:=foldL_app (T:=T4) (K:=1) (M:=3) xs x
  have h' : foldL T4 1 3 x xs=[q]:=h
  rw [h'] at e1
  have : pre=[]∧p=q:=by
   cases pre with
   | nil=>exact ⟨rfl,(List.cons.inj e1).1.symm⟩
   | cons u us=>exact absurd e1 (by simp)
  obtain ⟨rfl,rfl⟩:=this
  show foldL T4 1 3 x (xs ++ [r])=_
  rw [e2,foldL_cons,if_pos hc]
  rfl
def Sofar (rows : List (List XV)) (sum : Int) (last : ByteArray) : Prop:=(∀ r ∈ rows,Whole T4 r)∧In64 sum∧last.size≤60∧((rows=[]∧sum=0) ∨ (rows≠[]∧foldR T4 1 3 rows=[rowOf sum last]))
theorem Sofar.next {rows : List (List XV)} {sum : Int} {last : ByteArray} (h : Sofar rows sum last) {n : Int} {s : ByteArray} (hn : In64 n) (hs : s.size≤60) : Sofar (rows ++ [rowOf n s]) (wrap64 (sum + n)) s:=by
 obtain ⟨h1,h2,h3,h4⟩:=h
 refine ⟨fun r hr=>?_,in64 _,hs,Or.inr ⟨by simp,?_⟩⟩
 ·rcases List.mem_append.mp hr with q|q
  ·exact h1 r q
  ·rw [List.mem_singleton.mp q];exact rowOf_whole hn hs
 ·rcases h4 with ⟨rfl,rfl⟩|⟨_,h5⟩
  ·rw [List.nil_append,Int.zero_add,w64 hn.1 hn.2]
   rfl
  ·rw [snoc_fold _ h5 (cmp_rowOf _ _ _ _ h2 hn h3 hs),one_rowOf h2 hn h3 hs]
section
variable (l : List Int) (hl : ∀ a ∈ l,In64 a) (t : List ByteArray)
include hl
theorem sums_end (rows : List (List XV)) (sum : Int) (last x9 : ByteArray) (i : Int) (hr : rows.length≤60) (h : Sofar rows sum last) : Ev (fun k=>thresherlaw13_FoldSums.j1 k l t true rows sum last i false T4 1 3 1) true:=by
 obtain ⟨h1,h2,h3,h4⟩:=h
 refine Ev.succ ?_
 simp only [thresherlaw13_FoldSums.j1]
 have e : foldA T4 1 3 rows=foldR T4 1 3 rows:=by unfold foldA;rw [if_neg (by omega)]
 refine Ev.neg (by simp) (Ev.bind (frows_ev S4 rows (by omega) h1) ?_)
 rw [e]
 rcases h4 with ⟨rfl,rfl⟩|⟨hne,h5⟩
 ·exact Ev.pos (by simp) (Ev.pos trivial ((Ev.now _).eq rfl))
 ·rw [h5]
  have hl0 : rows.length≠0:=fun q=>hne (List.length_eq_zero_iff.mp q)
  refine Ev.neg (by omega) (Ev.pos trivial (Ev.pos (by simp) (Ev.pos (by simp) (Ev.bind (one_ev (rowOf sum last) (rowOf sum last) (by show (4 : Nat)≤_;omega)) ((Ev.now _).eq (by simp))))))
theorem sums_loop : ∀ (d i : Nat) (rows : List (List XV)) (sum : Int) (last : ByteArray),i + d=min l.length 60→rows.length=i→Sofar rows sum last→Ev (fun k=>thresherlaw13_FoldSums.l0 k l t true rows sum last i T4 1 3 1) true
 | 0,i,rows,sum,last,hi,hr,h=>by
  refine Ev.succ ?_
  simp only [thresherlaw13_FoldSums.l0]
  by_cases c : (i : Int) < (l.length : Int)
  ·refine Ev.pos c ?_
   rw [decide_eq_false (by omega)]
   exact sums_end l hl t rows sum last last i (by omega) h
  ·exact Ev.neg c (sums_end l hl t rows sum last last i (by omega) h)
 | d + 1,i,rows,sum,last,hi,hr,h=>by
  have hil : i < l.length:=by omega
  have hn:=hl _ (List.getElem_mem hil)
  have j2 : ∀ s : ByteArray,Ev (fun k=>thresherlaw13_FoldSums.j2 k l t true rows sum s i T4 1 3 1) true:=fun s=>by
   refine Ev.succ ?_
   simp only [thresherlaw13_FoldSums.j2]
   rw [show wrap64 ((i : Int) + 1)=(i : Int) + 1 from w64 (by omega) (by omega),rd_lt l i hil]
   have hlen : ∀ r : List XV,(rows ++ [r]).length=i + 1:=fun r=>by rw [List.length_append,hr];rfl
   by_cases c : (s.size : Int) > 60
   ·have hs : (s.extract 0 60).size≤60:=by rw [ByteArray.size_extract];omega
    refine Ev.pos c (Ev.pos (by omega) (Ev.pos (by omega) (Ev.pos (by omega) (Ev.pos (by omega) (Ev.pos (by omega) ?_)))))
    exact sums_loop d (i + 1) _ _ _ (by omega) (hlen _) (h.next hn hs)
   ·refine Ev.neg c (Ev.pos (by omega) (Ev.pos (by omega) (Ev.pos (by omega) ?_)))
    exact sums_loop d (i + 1) _ _ _ (by omega) (hlen _) (h.next hn (by omega))
  refine Ev.succ ?_
  simp only [thresherlaw13_FoldSums.l0]
  refine Ev.pos (by omega) ?_
  rw [decide_eq_true (by omega)]
  refine Ev.succ ?_
  simp only [thresherlaw13_FoldSums.j1]
  refine Ev.pos trivial ?_
  by_cases c : (i : Int) < (t.length : Int)
  ·exact Ev.pos c (Ev.pos (by omega) (j2 _))
  ·exact Ev.neg c (j2 _)
end
theorem FoldSums : thresherlaw13_FoldSums.PureG:=by
 intro l t ⟨hl,hl2⟩ ht
 apply Ev.rounds
 simp only [thresherlaw13_FoldSums.f]
 refine Ev.bind shown13_ev ?_
 exact sums_loop l (fun a h=>wf_i64 (hl2 a h)) t (min l.length 60) 0 [] 0 ⟨#[]⟩ (by omega) rfl ⟨by simp,⟨by omega,by omega⟩,by decide,Or.inl ⟨rfl,rfl⟩⟩
end Go.Proofs.Ytmanchjamkpklaa.Pure

namespace Go.Proofs.Ytmanchjamkpklaa.foldSums
open Go.ChangeShapes Go.WideShapes Go.ChangeAt Go.RowKit Go.Proofs.Ytmanchjamkpklaa.P Go.Proofs.YtmanchjamkpklaaW.PrintWords
set_option linter.unusedVariables false
set_option linter.unusedSimpArgs false
theorem own : ownKnob Try.prog.godebug=none:=by kernel_rfl
theorem laidOut : laidOutB Try.prog=true:=by kernel_rfl
set_option maxRecDepth 100000 in
theorem lifted (os : Os) (started : os.Started) (H : Type) (enc : TypeId × Value→H) :
  ReturnsInHanded {} Try.checked os 6 .any (Rows.foldSumsSpec.pre6 enc Try.prog Try.f6 Rows.foldSumsRow.domain false) (Rows.foldSumsSpec.post enc Try.prog Try.f6 false true false false):=by
 refine returnsInHanded_of_change_sized (C:=Try.checked) own started (by kernel_rfl) Try.func6
  (ChangeSpec.witness6 (enc:=enc) (C:=Try.checked) false ⟨#[],#[.slice none 0 0,.slice none 0 0],[]⟩ 8 (by kernel_rfl) (by kernel_rfl) (by kernel_rfl) (by kernel_rfl)) ?_
 intro W base args ds gs before hval0 hW hcnd hsz0 _
 have hval : ∀ (j : Nat) t v,Try.f6.params[j]?=some t→args[j]?=some v→Value.okWide Try.prog W .any base t v:=hval0
 have hW':=hW
 obtain ⟨p,q,hA0,hV,rfl,hfz,hnd⟩:=hW
 have hA : DataW.TrodAll enc Try.prog W 0 (fun _=>true) true Try.f6.params.toList args.toList ds p:=hA0
 rw [Try.params6] at hA hval
 obtain ⟨v0,vs0,d0,ds0,p0,q0,hargs,rfl,rfl,h0,r0⟩:=trodAll_cons hA
 obtain ⟨v1,vs1,d1,ds1,p1,q1,rfl,rfl,rfl,h1,r1⟩:=trodAll_cons r0
 obtain ⟨rfl,rfl,rfl⟩:=trodAll_nil r1
 obtain rfl : args=#[v0,v1]:=by cases args;simp_all
 obtain ⟨rfl,rfl⟩:=trodVars_none hV
 have lt0 : ∀ x ∈ p0,x.block < W.heap.size:=by obtain ⟨m,hm⟩:=h0;exact DataW.trod_lt m _ _ _ hm
 obtain ⟨x0,K0,g0⟩:=((opens_slice Try.underlying42 (by kernel_rfl) (opens_int Try.underlying2))).arg h0
 obtain ⟨a0,len0,cap0,rfl⟩:=okWide_slice Try.underlying42 (hval 0 42 v0 rfl rfl)
 obtain ⟨A0,c0,e0,hl0,hr0⟩:=K0
 simp [Value.cells] at e0
 obtain ⟨rfl,rfl,rfl⟩:=e0
 have lt1 : ∀ x ∈ p1,x.block < W.heap.size:=by obtain ⟨m,hm⟩:=h1;exact DataW.trod_lt m _ _ _ hm
 obtain ⟨x1,K1,g1⟩:=((opens_slice Try.underlying43 (by kernel_rfl) (opens_string Try.underlying9))).arg h1
 obtain ⟨a1,len1,cap1,rfl⟩:=okWide_slice Try.underlying43 (hval 1 43 v1 rfl rfl)
 obtain ⟨A1,c1,e1,hl1,hr1⟩:=K1
 simp [Value.cells] at e1
 obtain ⟨rfl,rfl,rfl⟩:=e1
 obtain ⟨k,hk⟩:=Pure.FoldSums x0 x1 g0 g1
 have call : Calls Try.prog 6 #[.slice a0 x0.length cap0,.slice a1 x1.length cap1] W fun e W'=>e=.returned (.bool true)∧Below W.heap.size W W':=by
  refine (thresherlaw13_FoldSums.calls k _ _ _ _ _ _ true W hr0 hl0 hr1 hl1 hk).mono ?_
  rintro e w' ⟨rfl,hd⟩
  exact ⟨rfl,hd⟩
 refine call.mono fun e W' ⟨he,bel⟩=>?_
 subst he
 exact ⟨_,rfl,_,_,_,[],_,[],hW',trodAll_mk1 (shut_bool Try.underlying4 _),(trodAll_cons_mk (Below.trod laidOut (by kernel_rfl) (of_decide_eq_true (by kernel_rfl)) h0 bel lt0) (trodAll_cons_mk (Below.trod laidOut (by kernel_rfl) (of_decide_eq_true (by kernel_rfl)) h1 bel lt1) trodAll_mk0)),rfl,bel.frame _,fun h=>by cases h⟩
theorem over : Rows.foldSumsRow.holds Try.pinned (OpenSpec.ofChange Rows.foldSumsSpec) :=
 OpenClaim.holds_of_wide 6 Try.f6 rfl rfl rfl rfl rfl rfl rfl ⟨rfl,rfl,rfl,rfl,rfl⟩ rfl rfl rfl rfl rfl (by kernel_rfl) Try.func6 (by kernel_rfl)
  (of_decide_eq_true (by kernel_rfl)) (by unfold Func.isWrapper;first|(rw [if_pos (by decide +kernel)];kernel_rfl)|(rw [if_neg (by decide +kernel)];exact ⟨rfl,rfl⟩))
  (fun os started H enc _=>lifted os started H enc)
theorem proved : Rows.FoldSumsSaid:=over
#print axioms proved
end Go.Proofs.Ytmanchjamkpklaa.foldSums
namespace Go.Proofs.Ytmanchjamkpklaa
theorem foldSums_holds : Rows.FoldSumsSaid:=foldSums.proved
end Go.Proofs.Ytmanchjamkpklaa

