/- The row of ValueAll. Merged: SValueAll, X3Base, X3Ord, X3RVal, X3Val, X3Law, X3Add, X3Dig, X3Txt, X3Read, X3RTxt, X3RRead, PureValueAll, RValueAll. -/
import Derived.Test.YtifpjhghbafcjaaDoorQValueAllPx18
import Derived.Test.YtifpjhghbafcjaaDoorQValueAllO
import Derived.Test.YtifpjhghbafcjaaDoorQValueAllPx0
import Derived.Test.YtifpjhghbafcjaaDoorQValueAllHBase
import Derived.Lib.Bytealg
import Derived.Test.YtifpjhghbafcjaaDoorQValueAllPx17
import Derived.Test.YtifpjhghbafcjaaDoorQValueAllPx16
import Derived.Test.YtifpjhghbafcjaaDoorQValueAllPx3
import Derived.Test.YtifpjhghbafcjaaDoorQValueAllPx2
import Derived.Test.YtifpjhghbafcjaaDoorQValueAllPx4
import Derived.Test.YtifpjhghbafcjaaDoorQValueAllPx8
import Derived.Test.YtifpjhghbafcjaaDoorQValueAllHRead
import Derived.Test.YtifpjhghbafcjaaDoorQValueAllPx14
import Derived.Test.YtifpjhghbafcjaaDoorQValueAllPx15
import Derived.Test.YtifpjhghbafcjaaDoorRows
import Derived.WalkKit
import Derived.ProofKit
import Derived.OpenShut
import Derived.ShutString
import Derived.ChangeOld
import Derived.Below
import Derived.SizedLaws
import Derived.Test.YtifpjhghbafcjaaDoorQValueAllHLaidE
import Derived.Test.YtifpjhghbafcjaaDoorCards
import Derived.Test.YtifpjhghbafcjaaDoorTie
import Derived.SevenTiedAt
import Derived.LaidMore
import Derived.Stop.Joined
namespace Go.Proofs.YtifpjhghbafcjaaDoor.P
open Go.RowKit Go.Proofs.YtifpjhghbafcjaaDoorW.PrintWords
def thresherlaw03_ValueAll.PureG : Prop:=∀ (x0 : Int) (x1 : S35) (x2 : ByteArray),(Lit.int .i64 x0).wf=true→gd35 x1→x2.size≤maxLen→∃ k,thresherlaw03_ValueAll.f k x0 x1.f0.f0 x1.f0.f1 x1.f1.f0 x1.f1.f1 x2=some true
end Go.Proofs.YtifpjhghbafcjaaDoor.P

/- Values, and the types that they fit. -/
namespace Go.Proofs.YtifpjhghbafcjaaDoor.P
open Go.RowKit Go.Proofs.YtifpjhghbafcjaaDoorW.PrintWords Go.Proofs.YtifpjhghbafcjaaDoorW.PrintLast Go.Proofs.YtifpjhghbafcjaaDoorW.PrintMore
set_option linter.unusedVariables false
set_option linter.unusedSimpArgs false
abbrev XV:=S23
def fitT (t : Int) (v : XV) : Bool:=if t=1 ∨ t=2 then v.f1.toList == ([] : List UInt8) else if t=3 then (if v.f0=0 then decide ((v.f1.size : Int)≤60) else false) else false
def fit1 (t : Int) (v : XV) : XV:=if t=3 then ⟨0,if (v.f1.size : Int) > 60 then v.f1.extract 0 60 else v.f1⟩ else ⟨v.f0,⟨#[]⟩⟩
theorem fitT_fit1 (t : Int) (v : XV) (h1 : 1≤t) (h3 : t≤3) : fitT t (fit1 t v)=true:=by
 unfold fitT fit1
 by_cases e : t=3
 ·subst e
  simp only [if_true,if_pos rfl]
  rw [if_neg (by omega)]
  rw [decide_eq_true_iff]
  split
  ·simp only [ByteArray.size_extract];omega
  ·omega
 ·rw [if_pos (by omega),if_neg e]
  simp [ByteArray.toList_eq]
theorem bytes_eq {a b : ByteArray} (h : a.toList=b.toList) : a=b:=by
 rw [ByteArray.toList_eq,ByteArray.toList_eq] at h
 exact ByteArray.ext (Array.toList_inj.mp h)
theorem XV.same {a b : XV} : (!(a.f0 == b.f0) || (!(a.f1.toList == b.f1.toList)))=true ↔ a≠b:=by
 constructor
 ·rintro h rfl
  simp at h
 ·intro h
  by_cases h0 : a.f0=b.f0
  ·by_cases h1 : a.f1.toList=b.f1.toList
   ·exact absurd (by cases a;cases b;simp only at h0 h1;rw [h0,bytes_eq h1]) h
   ·simp [h1]
  ·simp [h0]
instance : DecidableEq XV:=fun a b=>if h : (!(a.f0 == b.f0) || (!(a.f1.toList == b.f1.toList)))=true then isFalse (XV.same.mp h) else isTrue (Classical.byContradiction fun e=>h (XV.same.mpr e))
end Go.Proofs.YtifpjhghbafcjaaDoor.P

/- The order of values and of rows. -/
namespace Go.Proofs.YtifpjhghbafcjaaDoor.P
open Go.RowKit Go.Proofs.YtifpjhghbafcjaaDoorW.PrintWords Go.Proofs.YtifpjhghbafcjaaDoorW.PrintLast Go.Proofs.YtifpjhghbafcjaaDoorW.PrintMore
set_option linter.unusedVariables false
set_option linter.unusedSimpArgs false
theorem cb_rng : ∀ a b : List UInt8,Lib.compareBytes a b=-1 ∨ Lib.compareBytes a b=0 ∨ Lib.compareBytes a b=1
 | [],[]=>by simp [Lib.compareBytes]
 | [],_ :: _=>by simp [Lib.compareBytes]
 | _ :: _,[]=>by simp [Lib.compareBytes]
 | a :: xs,b :: ys=>by
  unfold Lib.compareBytes
  split
  ·simp
  ·split
   ·simp
   ·exact cb_rng xs ys
theorem u8_tri (a b : UInt8) : (a < b∧¬ b < a) ∨ (b < a∧¬ a < b) ∨ (a=b∧¬ a < b∧¬ b < a):=by
 rcases Nat.lt_trichotomy a.toNat b.toNat with h|h|h
 ·exact Or.inl ⟨UInt8.lt_iff_toNat_lt.mpr h,fun h2=>by have:=UInt8.lt_iff_toNat_lt.mp h2;omega⟩
 ·have e : a=b:=UInt8.toNat_inj.mp h
  subst e
  exact Or.inr (Or.inr ⟨rfl,fun h2=>by have:=UInt8.lt_iff_toNat_lt.mp h2;omega,fun h2=>by have:=UInt8.lt_iff_toNat_lt.mp h2;omega⟩)
 ·exact Or.inr (Or.inl ⟨UInt8.lt_iff_toNat_lt.mpr h,fun h2=>by have:=UInt8.lt_iff_toNat_lt.mp h2;omega⟩)
theorem cb_anti : ∀ a b : List UInt8,Lib.compareBytes b a=- Lib.compareBytes a b
 | [],[]=>by simp [Lib.compareBytes]
 | [],_ :: _=>by simp [Lib.compareBytes]
 | _ :: _,[]=>by simp [Lib.compareBytes]
 | a :: xs,b :: ys=>by
  unfold Lib.compareBytes
  rcases u8_tri a b with ⟨h1,h2⟩|⟨h1,h2⟩|⟨h0,h1,h2⟩
  ·rw [if_neg h2,if_pos h1,if_pos h1];rfl
  ·rw [if_pos h1,if_neg h2,if_pos h1]
  ·rw [if_neg h2,if_neg h1,if_neg h1,if_neg h2];exact cb_anti xs ys
theorem cb_zero : ∀ a b : List UInt8,Lib.compareBytes a b=0 ↔ a=b
 | [],[]=>by simp [Lib.compareBytes]
 | [],_ :: _=>by simp [Lib.compareBytes]
 | _ :: _,[]=>by simp [Lib.compareBytes]
 | a :: xs,b :: ys=>by
  unfold Lib.compareBytes
  rcases u8_tri a b with ⟨h1,h2⟩|⟨h1,h2⟩|⟨h0,h1,h2⟩
  ·rw [if_pos h1]
   exact ⟨fun h=>by omega,fun h=>absurd h1 (by rw [(List.cons.inj h).1] at h2 ⊢;rw [(List.cons.inj h).1] at h1;exact h2)⟩
  ·rw [if_neg h2,if_pos h1]
   exact ⟨fun h=>by omega,fun h=>absurd h1 (by rw [(List.cons.inj h).1] at h1;rw [(List.cons.inj h).1] at h2;exact absurd h1 h2)⟩
  ·rw [if_neg h1,if_neg h2,cb_zero xs ys,h0]
   exact ⟨fun h=>by rw [h],fun h=>(List.cons.inj h).2⟩
theorem cb_trans : ∀ a b c : List UInt8,Lib.compareBytes a b≤0→Lib.compareBytes b c≤0→Lib.compareBytes a c≤0
 | [],_,[],_,_=>by simp [Lib.compareBytes]
 | [],_,_ :: _,_,_=>by simp [Lib.compareBytes]
 | _ :: _,[],_,h,_=>by simp [Lib.compareBytes] at h
 | _ :: _,_ :: _,[],_,h=>by simp [Lib.compareBytes] at h
 | a :: xs,b :: ys,c :: zs,h1,h2=>by
  unfold Lib.compareBytes at h1 h2 ⊢
  rcases u8_tri a b with ⟨p1,p2⟩|⟨p1,p2⟩|⟨p0,p1,p2⟩
  ·rcases u8_tri b c with ⟨q1,q2⟩|⟨q1,q2⟩|⟨q0,q1,q2⟩
   ·rw [if_pos (UInt8.lt_trans p1 q1)];omega
   ·rw [if_neg q2,if_pos q1] at h2;omega
   ·subst q0;rw [if_pos p1];omega
  ·rw [if_neg p2,if_pos p1] at h1;omega
  ·subst p0
   rw [if_neg p1,if_neg p2] at h1
   rcases u8_tri a c with ⟨q1,q2⟩|⟨q1,q2⟩|⟨q0,q1,q2⟩
   ·rw [if_pos q1];omega
   ·rw [if_neg q2,if_pos q1] at h2;omega
   ·rw [if_neg q1,if_neg q2] at h2 ⊢
    exact cb_trans xs ys zs h1 h2
def GV (v : XV) : Prop:=-9223372036854775808≤v.f0∧v.f0≤9223372036854775807
def sgn (x y : Int) : Int:=if x < y then -1 else if x > y then 1 else 0
def un (x : Int) : Int:=x % 18446744073709551616
def cmpV (t : Int) (a b : XV) : Int:=if fitT t a=true∧fitT t b=true then (if t=3 then Lib.compareBytes a.f1.data.toList b.f1.data.toList else if t=2 then sgn (un a.f0) (un b.f0) else sgn a.f0 b.f0) else 0
theorem sgn_rng (x y : Int) : sgn x y=-1 ∨ sgn x y=0 ∨ sgn x y=1:=by unfold sgn;split <;> (try split) <;> simp
theorem cmpV_rng (t : Int) (a b : XV) : cmpV t a b=-1 ∨ cmpV t a b=0 ∨ cmpV t a b=1:=by
 unfold cmpV
 split
 ·split
  ·exact cb_rng _ _
  ·split <;> exact sgn_rng _ _
 ·simp
theorem cmpV_anti (t : Int) (a b : XV) : cmpV t b a=- cmpV t a b:=by
 unfold cmpV
 by_cases h : fitT t a=true∧fitT t b=true
 ·rw [if_pos h,if_pos h.symm]
  split
  ·exact cb_anti _ _
  ·split <;> (unfold sgn;split <;> split <;> (try split) <;> omega)
 ·rw [if_neg h,if_neg (fun q=>h q.symm)]
  rfl
theorem fit_empty {t : Int} {a : XV} (h : fitT t a=true) (h3 : t≠3) : a.f1=⟨#[]⟩:=by
 unfold fitT at h
 split at h
 ·have h2 : a.f1.toList=[]:=by simpa using h
  exact bytes_eq (by rw [h2];simp [ByteArray.toList_eq])
 ·first|exact absurd h (by simp)|(rw [if_neg h3] at h;exact absurd h (by simp))
theorem fit_zero {t : Int} {a : XV} (h : fitT t a=true) (h3 : t=3) : a.f0=0:=by
 subst h3
 unfold fitT at h
 rw [if_neg (by omega),if_pos rfl] at h
 split at h
 ·assumption
 ·exact absurd h (by simp)
theorem XV.ext2 {a b : XV} (h0 : a.f0=b.f0) (h1 : a.f1=b.f1) : a=b:=by cases a;cases b;simp only at h0 h1;rw [h0,h1]
theorem cmpV_zero (t : Int) (a b : XV) (ha : fitT t a=true) (hb : fitT t b=true) (ga : GV a) (gb : GV b) : cmpV t a b=0 ↔ a=b:=by
 unfold cmpV
 rw [if_pos ⟨ha,hb⟩]
 obtain ⟨g1,g2⟩:=ga
 obtain ⟨g3,g4⟩:=gb
 by_cases e : t=3
 ·rw [if_pos e,cb_zero]
  exact ⟨fun h=>XV.ext2 (by rw [fit_zero ha e,fit_zero hb e]) (ByteArray.ext (Array.toList_inj.mp h)),fun h=>by rw [h]⟩
 ·rw [if_neg e]
  have key : a=b ↔ a.f0=b.f0:=⟨fun h=>by rw [h],fun h=>XV.ext2 h (by rw [fit_empty ha e,fit_empty hb e])⟩
  rw [key]
  split
  ·unfold sgn un;split <;> (try split) <;> omega
  ·unfold sgn;split <;> (try split) <;> omega
theorem sgn_trans (x y z : Int) : sgn x y≤0→sgn y z≤0→sgn x z≤0:=by
 unfold sgn
 intro h1 h2
 split
 ·omega
 ·split
  ·exfalso
   by_cases p : x < y
   ·by_cases q : y < z
    ·omega
    ·rw [if_neg q] at h2
     by_cases r : y > z
     ·rw [if_pos r] at h2;omega
     ·omega
   ·rw [if_neg p] at h1
    by_cases r : x > y
    ·rw [if_pos r] at h1;omega
    ·by_cases q : y < z
     ·omega
     ·rw [if_neg q] at h2
      by_cases r : y > z
      ·rw [if_pos r] at h2;omega
      ·omega
  ·omega
def cmpC (t : Int) (a b : XV) : Int:=if t=3 then Lib.compareBytes a.f1.data.toList b.f1.data.toList else if t=2 then sgn (un a.f0) (un b.f0) else sgn a.f0 b.f0
theorem cmpV_fit {t : Int} {a b : XV} (ha : fitT t a=true) (hb : fitT t b=true) : cmpV t a b=cmpC t a b:=by
 unfold cmpV cmpC
 rw [if_pos ⟨ha,hb⟩]
theorem cmpV_trans (t : Int) (a b c : XV) (ha : fitT t a=true) (hb : fitT t b=true) (hc : fitT t c=true) : cmpV t a b≤0→cmpV t b c≤0→cmpV t a c≤0:=by
 rw [cmpV_fit ha hb,cmpV_fit hb hc,cmpV_fit ha hc]
 unfold cmpC
 by_cases e : t=3
 ·rw [if_pos e,if_pos e,if_pos e]
  exact cb_trans _ _ _
 ·rw [if_neg e,if_neg e,if_neg e]
  by_cases e2 : t=2
  ·rw [if_pos e2,if_pos e2,if_pos e2]
   exact sgn_trans _ _ _
  ·rw [if_neg e2,if_neg e2,if_neg e2]
   exact sgn_trans _ _ _
end Go.Proofs.YtifpjhghbafcjaaDoor.P

/- The document's Compare of values tells the same order. -/
namespace Go.Proofs.YtifpjhghbafcjaaDoor.P
open Go.RowKit Go.Proofs.YtifpjhghbafcjaaDoorW.PrintWords Go.Proofs.YtifpjhghbafcjaaDoorW.PrintLast Go.Proofs.YtifpjhghbafcjaaDoorW.PrintMore
set_option linter.unusedVariables false
set_option linter.unusedSimpArgs false
theorem rfits_f (k : Nat) (t n : Int) (s : ByteArray) : thresherref03_Fits.f (k + 1) t n s=some (fitT t ⟨n,s⟩):=by
 unfold thresherref03_Fits.f fitT
 by_cases h1 : t=1
 ·rw [if_pos h1,if_pos (Or.inl h1)]
  subst h1
  rfl
 ·rw [if_neg h1]
  by_cases h2 : t=2
  ·rw [if_pos (Or.inr h2)]
   subst h2
   rfl
  ·rw [if_neg (by omega),show (t == 2)=false by simpa using h2]
   simp only [thresherref03_Fits.j0,Bool.false_eq_true,if_false]
   by_cases h3 : t=3
   ·rw [if_pos h3,if_pos h3]
    split <;> rfl
   ·rw [if_neg h3,if_neg h3]
theorem rfits_ev (t n : Int) (s : ByteArray) : Ev (fun k=>thresherref03_Fits.f k t n s) (fitT t ⟨n,s⟩):=Ev.succ ⟨0,fun k _=>rfits_f k t n s⟩
theorem both_ev (t : Int) (a b : XV) : Ev (fun k=>thresherref03_both.f k t a.f0 a.f1 b.f0 b.f1) (fitT t a && fitT t b):=by
 simp only [thresherref03_both.f]
 refine Ev.bind (rfits_ev t a.f0 a.f1) (Ev.bind (rfits_ev t b.f0 b.f1) ?_)
 by_cases ha : fitT t a=true
 ·exact (Ev.pos ha (Ev.now _)).eq (by rw [ha,Bool.true_and])
 ·exact (Ev.neg ha (Ev.now _)).eq (by rw [Bool.eq_false_iff.mpr ha,Bool.false_and])
theorem bt_lt (s : ByteArray) (i : Nat) (h : i < s.size) : bt s i=((s.data.toList[i]'(by simpa using h)).toNat : Int):=by
 unfold bt
 rw [dif_pos (by simpa using h)]
 rfl
theorem texts_loop (a b : ByteArray) (ha : a.size≤9223372036854775807) : ∀ (d i : Nat),i + d=a.size→i≤b.size→Ev (fun k=>thresherref03_texts.l0 k a b i) (Lib.compareBytes (a.data.toList.drop i) (b.data.toList.drop i))
 | 0,i,hi,hb=>by
  have hn : a.data.toList.length=a.size:=by simp
  have hn2 : b.data.toList.length=b.size:=by simp
  refine Ev.succ ?_
  simp only [thresherref03_texts.l0]
  refine Ev.neg (by omega) (Ev.succ ?_)
  simp only [thresherref03_texts.j1]
  refine Ev.neg (by simp) ?_
  rw [List.drop_of_length_le (by omega : a.data.toList.length≤i)]
  by_cases h : i < b.size
  ·rw [List.drop_eq_getElem_cons (by omega : i < b.data.toList.length)]
   exact Ev.pos (by omega) (Ev.now _)
  ·rw [List.drop_of_length_le (by omega : b.data.toList.length≤i)]
   exact Ev.neg (by omega) (Ev.neg (by omega) (Ev.now _))
 | d + 1,i,hi,hb=>by
  have hn : a.data.toList.length=a.size:=by simp
  have hn2 : b.data.toList.length=b.size:=by simp
  have h1 : i < a.data.toList.length:=by omega
  refine Ev.succ ?_
  simp only [thresherref03_texts.l0]
  refine Ev.pos (by omega) (Ev.succ ?_)
  simp only [thresherref03_texts.j1]
  rw [List.drop_eq_getElem_cons h1]
  by_cases h : i < b.size
  ·have h2 : i < b.data.toList.length:=by omega
   rw [List.drop_eq_getElem_cons h2,bt_lt a i (by omega),bt_lt b i h]
   simp (disch:=omega) only [w64]
   unfold Lib.compareBytes
   refine Ev.pos (by simpa using h) (Ev.pos (by omega) (Ev.pos (by omega) (Ev.pos (by omega) ?_)))
   by_cases p : a.data.toList[i] < b.data.toList[i]
   ·rw [if_pos p]
    exact Ev.pos (by have:=UInt8.lt_iff_toNat_lt.mp p;omega) (Ev.now _)
   ·rw [if_neg p]
    refine Ev.neg (fun q=>p (UInt8.lt_iff_toNat_lt.mpr (by omega))) ?_
    by_cases r : b.data.toList[i] < a.data.toList[i]
    ·rw [if_pos r]
     exact Ev.pos (by have:=UInt8.lt_iff_toNat_lt.mp r;omega) (Ev.now _)
    ·rw [if_neg r]
     exact Ev.neg (fun q=>r (UInt8.lt_iff_toNat_lt.mpr (by omega))) (texts_loop a b ha d (i + 1) (by omega) (by omega))
  ·rw [List.drop_of_length_le (by omega : b.data.toList.length≤i)]
   exact Ev.neg (by simpa using h) (Ev.neg (by omega) (Ev.pos (by omega) (Ev.now _)))
theorem texts_ev (a b : ByteArray) (ha : a.size≤9223372036854775807) : Ev (fun k=>thresherref03_texts.f k a b) (Lib.compareBytes a.data.toList b.data.toList):=by
 simp only [thresherref03_texts.f]
 exact texts_loop a b ha a.size 0 (by omega) (by omega)
theorem rcmpj_ev (p q : Bool) (r : Int) (h : r=if p=true then -1 else if q=true then 1 else 0) : Ev (fun k=>thresherref03_Compare.j0 k p q) r:=by
 refine Ev.succ ⟨0,fun k _=>?_⟩
 simp only [thresherref03_Compare.j0]
 rw [h]
 cases p <;> cases q <;> rfl
theorem rcmp_ev (t : Int) (a b : XV) (ga : GV a) (gb : GV b) (hs : a.f1.size≤9223372036854775807) : Ev (fun k=>thresherref03_Compare.f k t a.f0 a.f1 b.f0 b.f1) (cmpV t a b):=by
 obtain ⟨g1,g2⟩:=ga
 obtain ⟨g3,g4⟩:=gb
 simp only [thresherref03_Compare.f]
 refine Ev.bind (both_ev t a b) ?_
 by_cases h : fitT t a=true∧fitT t b=true
 ·rw [cmpV_fit h.1 h.2]
  refine Ev.pos (by rw [h.1,h.2];rfl) ?_
  by_cases e2 : t=2
  ·have ec : cmpC t a b=sgn (un a.f0) (un b.f0):=by unfold cmpC;rw [if_neg (by omega),if_pos e2]
   rw [ec]
   refine Ev.pos e2 ?_
   by_cases hn : ((decide (a.f0 < 0)) != (decide (b.f0 < 0)))=true
   ·refine Ev.pos hn (rcmpj_ev _ _ _ ?_)
    simp only [decide_eq_true_eq]
    unfold sgn un
    by_cases p : a.f0 < 0
    ·by_cases q : b.f0 < 0
     ·simp [p,q] at hn
     ·repeat' split
      all_goals omega
    ·by_cases q : b.f0 < 0
     ·repeat' split
      all_goals omega
     ·simp [p,q] at hn
   ·refine Ev.neg hn (rcmpj_ev _ _ _ ?_)
    simp only [decide_eq_true_eq]
    unfold sgn un
    by_cases p : a.f0 < 0
    ·by_cases q : b.f0 < 0
     ·repeat' split
      all_goals omega
     ·simp [p,q] at hn
    ·by_cases q : b.f0 < 0
     ·simp [p,q] at hn
     ·repeat' split
      all_goals omega
  ·refine Ev.neg e2 ?_
   by_cases e3 : t=3
   ·exact (Ev.pos e3 (Ev.bind (texts_ev _ _ hs) (Ev.now _))).eq (by unfold cmpC;rw [if_pos e3])
   ·have ec : cmpC t a b=sgn a.f0 b.f0:=by unfold cmpC;rw [if_neg e3,if_neg e2]
    rw [ec]
    refine Ev.neg e3 (rcmpj_ev _ _ _ ?_)
    simp only [decide_eq_true_eq]
    rfl
 ·exact (Ev.neg (fun q=>h (by simpa using q)) (Ev.now _)).eq (by unfold cmpV;rw [if_neg h])
end Go.Proofs.YtifpjhghbafcjaaDoor.P

/- value.Compare tells the order of values. -/
namespace Go.Proofs.YtifpjhghbafcjaaDoor.P
open Go.RowKit Go.Proofs.YtifpjhghbafcjaaDoorW.PrintWords Go.Proofs.YtifpjhghbafcjaaDoorW.PrintLast Go.Proofs.YtifpjhghbafcjaaDoorW.PrintMore
set_option linter.unusedVariables false
set_option linter.unusedSimpArgs false
theorem vfits_f (k : Nat) (t n : Int) (s : ByteArray) : value_Fits.f (k + 1) t n s=some (fitT t ⟨n,s⟩):=by
 unfold value_Fits.f fitT
 by_cases h1 : t=1
 ·rw [if_pos h1,if_pos (Or.inl h1)]
  subst h1
  rfl
 ·rw [if_neg h1]
  by_cases h2 : t=2
  ·rw [if_pos (Or.inr h2)]
   subst h2
   rfl
  ·rw [if_neg (by omega),show (t == 2)=false by simpa using h2]
   simp only [value_Fits.j0,Bool.false_eq_true,if_false]
   by_cases h3 : t=3
   ·rw [if_pos h3,if_pos h3]
    split <;> rfl
   ·rw [if_neg h3,if_neg h3]
theorem vfits_ev (t n : Int) (s : ByteArray) : Ev (fun k=>value_Fits.f k t n s) (fitT t ⟨n,s⟩):=Ev.succ ⟨0,fun k _=>vfits_f k t n s⟩
theorem cmpu_f (x y : Int) : cmp_Compare_uint64.f x y=some (sgn x y):=by
 simp only [cmp_Compare_uint64.f,cmp_isNaN_uint64.f,bne_self_eq_false,Option.bind_some,Bool.false_eq_true,if_false]
 unfold sgn
 split
 ·rfl
 ·split <;> rfl
theorem cmpi_f (x y : Int) : cmp_Compare_int64.f x y=some (sgn x y):=by
 simp only [cmp_Compare_int64.f,cmp_isNaN_int64.f,bne_self_eq_false,Option.bind_some,Bool.false_eq_true,if_false]
 unfold sgn
 split
 ·rfl
 ·split <;> rfl
theorem vcmp_ev (t : Int) (a b : XV) : Ev (fun k=>value_Compare.f k t a.f0 a.f1 b.f0 b.f1) (cmpV t a b):=by
 simp only [value_Compare.f]
 refine Ev.bind (vfits_ev t a.f0 a.f1) ?_
 by_cases ha : fitT t a=true
 ·refine Ev.pos ha (Ev.bind (vfits_ev t b.f0 b.f1) (Ev.succ ?_))
  simp only [value_Compare.j0]
  by_cases hb : fitT t b=true
  ·rw [cmpV_fit ha hb]
   refine Ev.neg (fun h=>?_) ?_
   ·rw [show fitT t ⟨b.f0,b.f1⟩=true from hb] at h
    exact absurd h (by simp)
   ·by_cases e3 : t=3
    ·refine (Ev.pos e3 (Ev.bindc rfl (Ev.now _))).eq ?_
     unfold cmpC
     rw [if_pos e3]
    ·refine Ev.neg e3 ?_
     by_cases e2 : t=2
     ·refine (Ev.pos e2 (Ev.bindc (cmpu_f _ _) (Ev.now _))).eq ?_
      unfold cmpC
      rw [if_neg e3,if_pos e2]
      rfl
     ·refine (Ev.neg e2 (Ev.bindc (cmpi_f _ _) (Ev.now _))).eq ?_
      unfold cmpC
      rw [if_neg e3,if_neg e2]
  ·refine (Ev.pos ?_ (Ev.now _)).eq ?_
   ·rw [show fitT t ⟨b.f0,b.f1⟩=false from Bool.eq_false_iff.mpr hb]
    rfl
   ·unfold cmpV
    rw [if_neg (fun h=>hb h.2)]
 ·refine Ev.neg ha (Ev.succ ?_)
  simp only [value_Compare.j0]
  refine (Ev.pos (by simp) (Ev.now _)).eq ?_
  unfold cmpV
  rw [if_neg (fun h=>ha h.1)]
end Go.Proofs.YtifpjhghbafcjaaDoor.P

/- The document's example; a type out of a byte; a value made to fit. -/
namespace Go.Proofs.YtifpjhghbafcjaaDoor.P
open Go.RowKit Go.Proofs.YtifpjhghbafcjaaDoorW.PrintWords Go.Proofs.YtifpjhghbafcjaaDoorW.PrintLast Go.Proofs.YtifpjhghbafcjaaDoorW.PrintMore
set_option linter.unusedVariables false
set_option linter.unusedSimpArgs false
theorem arr_toList (l : List UInt8) : (⟨l.toArray⟩ : ByteArray).toList=l:=by rw [ByteArray.toList_eq]
theorem dd_step (u : Nat) (h : ¬ u < 10) : Lib.decDigits u=Lib.decDigits (u / 10) ++ [UInt8.ofNat (48 + u % 10)]:=by rw [Lib.decDigits,dif_neg h]
theorem dd_max : Lib.decDigits 18446744073709551615=[49,56,52,52,54,55,52,52,48,55,51,55,48,57,53,53,49,54,49,53]:=by
 repeat rw [dd_step _ (by decide)]
 rw [Lib.decDigits_one (by decide)]
 decide
theorem shown_ev : Ev (fun k=>thresherlaw03_shown.f k) true:=by
 have e : value_Text.f 2 (-1) (⟨#[]⟩ : ByteArray)=some ⟨([49,56,52,52,54,55,52,52,48,55,51,55,48,57,53,53,49,54,49,53] : List UInt8).toArray⟩:=by
  unfold value_Text.f
  rw [if_neg (by decide),if_pos rfl,if_pos (show (⟨#[]⟩ : ByteArray).size=0 from rfl),show (-1 % 18446744073709551616 : Int).toNat=18446744073709551615 from rfl,dd_max]
 simp only [thresherlaw03_shown.f]
 refine Ev.bindc e (Ev.pos (arr_toList _) (Ev.bind (vcmp_ev 2 (⟨-1,⟨#[]⟩⟩ : XV) ⟨1,⟨#[]⟩⟩) ((Ev.now _).eq ?_)))
 have h1 : fitT 2 (⟨-1,⟨#[]⟩⟩ : XV)=true:=by simp [fitT,ByteArray.toList_eq]
 have h2 : fitT 2 (⟨1,⟨#[]⟩⟩ : XV)=true:=by simp [fitT,ByteArray.toList_eq]
 rw [cmpV_fit h1 h2]
 rfl
def kd3 (x : Int) : Int:=1 + x % 3
theorem kd3_rng (x : Int) : 1≤kd3 x∧kd3 x≤3:=by unfold kd3;omega
theorem kind_f (x : Int) (h0 : 0≤x) (h1 : x≤255) : thresherlaw03_kind.f x=some (kd3 x):=by
 unfold thresherlaw03_kind.f kd3
 rw [w64 (x:=x) (by omega) (by omega),Int.tmod_eq_emod_of_nonneg h0,w64 (by omega) (by omega)]
theorem fit_f (t : Int) (v : XV) : thresherlaw03_fit.f t v.f0 v.f1=some ((fit1 t v).f0,(fit1 t v).f1):=by
 unfold thresherlaw03_fit.f fit1
 by_cases e : t=3
 ·rw [if_pos e,if_pos e]
  by_cases q : (v.f1.size : Int) > 60
  ·rw [if_pos q,if_pos (by omega),if_pos (by omega)];simp [q]
  ·rw [if_neg q];simp [q]
 ·rw [if_neg e,if_neg e]
theorem fit1_GV (t : Int) (v : XV) (h : GV v) : GV (fit1 t v):=by
 unfold fit1
 split
 ·exact ⟨by show (_ : Int)≤0;omega,by show (0 : Int)≤_;omega⟩
 ·exact h
end Go.Proofs.YtifpjhghbafcjaaDoor.P

/- The sum of two values. -/
namespace Go.Proofs.YtifpjhghbafcjaaDoor.P
open Go.RowKit Go.Proofs.YtifpjhghbafcjaaDoorW.PrintWords Go.Proofs.YtifpjhghbafcjaaDoorW.PrintLast Go.Proofs.YtifpjhghbafcjaaDoorW.PrintMore
set_option linter.unusedVariables false
set_option linter.unusedSimpArgs false
def addV (t : Int) (a b : XV) : XV:=if fitT t a=true∧fitT t b=true then (if t=3 then b else ⟨wrap64 (a.f0 + b.f0),⟨#[]⟩⟩) else ⟨0,⟨#[]⟩⟩
theorem addV_fit (t : Int) (a b : XV) (ha : fitT t a=true) (hb : fitT t b=true) : addV t a b=if t=3 then b else ⟨wrap64 (a.f0 + b.f0),⟨#[]⟩⟩:=by
 unfold addV
 exact if_pos ⟨ha,hb⟩
theorem addV_not (t : Int) (a b : XV) (h : ¬ (fitT t a=true∧fitT t b=true)) : addV t a b=⟨0,⟨#[]⟩⟩:=by
 unfold addV
 exact if_neg h
theorem add_ev (t : Int) (a b : XV) : Ev (fun k=>value_Add.f k t a.f0 a.f1 b.f0 b.f1) ((addV t a b).f0,(addV t a b).f1):=by
 simp only [value_Add.f]
 refine Ev.bind (vfits_ev t a.f0 a.f1) ?_
 by_cases ha : fitT t a=true
 ·refine Ev.pos ha (Ev.bind (vfits_ev t b.f0 b.f1) (Ev.succ ?_))
  simp only [value_Add.j0]
  by_cases hb : fitT t b=true
  ·refine Ev.neg (fun h=>?_) ?_
   ·rw [show fitT t ⟨b.f0,b.f1⟩=true from hb] at h
    exact absurd h (by simp)
   ·have e:=addV_fit t a b ha hb
    by_cases e3 : t=3
    ·rw [if_pos e3] at e
     rw [e]
     exact Ev.pos e3 (Ev.now _)
    ·rw [if_neg e3] at e
     rw [e]
     exact Ev.neg e3 (Ev.now _)
  ·rw [addV_not t a b (fun h=>hb h.2)]
   refine Ev.pos ?_ (Ev.now _)
   rw [show fitT t ⟨b.f0,b.f1⟩=false from Bool.eq_false_iff.mpr hb]
   rfl
 ·rw [addV_not t a b (fun h=>ha h.1)]
  refine Ev.neg ha (Ev.succ ?_)
  simp only [value_Add.j0]
  exact Ev.pos (by simp) (Ev.now _)
theorem fit_num (t : Int) (h : t=1 ∨ t=2) (x : Int) : fitT t ⟨x,⟨#[]⟩⟩=true:=by
 unfold fitT
 rw [if_pos h]
 simp [ByteArray.toList_eq]
theorem add_num (t : Int) (h : t=1 ∨ t=2) (x y : Int) : addV t ⟨x,⟨#[]⟩⟩ ⟨y,⟨#[]⟩⟩=⟨wrap64 (x + y),⟨#[]⟩⟩:=by
 rw [addV_fit t _ _ (fit_num t h x) (fit_num t h y),if_neg (by omega)]
theorem add_text (a b : XV) (ha : fitT 3 a=true) (hb : fitT 3 b=true) : addV 3 a b=b:=by
 rw [addV_fit 3 a b ha hb,if_pos rfl]
theorem wrap_assoc (x y z : Int) : wrap64 (wrap64 (x + y) + z)=wrap64 (x + wrap64 (y + z)):=by
 unfold wrap64
 omega
end Go.Proofs.YtifpjhghbafcjaaDoor.P

/- What is written of a number. -/
namespace Go.Proofs.YtifpjhghbafcjaaDoor.P
open Go.RowKit Go.Proofs.YtifpjhghbafcjaaDoorW.PrintWords Go.Proofs.YtifpjhghbafcjaaDoorW.PrintLast Go.Proofs.YtifpjhghbafcjaaDoorW.PrintMore
set_option linter.unusedVariables false
set_option linter.unusedSimpArgs false
theorem dig_rng (d : Nat) (h : d < 10) : 48≤(UInt8.ofNat (48 + d)).toNat∧(UInt8.ofNat (48 + d)).toNat≤57:=by
 rw [UInt8.toNat_ofNat']
 omega
theorem dd_dig (u : Nat) : ∀ c ∈ Lib.decDigits u,48≤c.toNat∧c.toNat≤57:=by
 induction u using Nat.strongRecOn with
 | _ u ih =>
  by_cases h : u < 10
  ·rw [Lib.decDigits_one h]
   intro c hc
   rw [List.mem_singleton.mp hc]
   exact dig_rng u h
  ·rw [dd_step u h]
   intro c hc
   rcases List.mem_append.mp hc with hc|hc
   ·exact ih (u / 10) (by omega) c hc
   ·rw [List.mem_singleton.mp hc]
    exact dig_rng _ (by omega)
theorem dd_ne (u : Nat) : Lib.decDigits u≠[]:=by
 by_cases h : u < 10
 ·rw [Lib.decDigits_one h];simp
 ·rw [dd_step u h];simp
theorem text_int (n : Int) (h0 : -9223372036854775808≤n) (h1 : n≤9223372036854775807) : value_Text.f 1 n ⟨#[]⟩=some ⟨(Lib.itoa n).toArray⟩:=by
 unfold value_Text.f
 rw [if_pos rfl,if_pos (show (⟨#[]⟩ : ByteArray).size=0 from rfl),if_pos ⟨h0,h1⟩]
theorem text_uint (n : Int) : value_Text.f 2 n ⟨#[]⟩=some ⟨(Lib.decDigits (n % 18446744073709551616).toNat).toArray⟩:=by
 unfold value_Text.f
 rw [if_neg (by decide),if_pos rfl,if_pos (show (⟨#[]⟩ : ByteArray).size=0 from rfl)]
theorem itoa_dd (n : Int) (h0 : -9223372036854775808≤n) (h1 : n≤9223372036854775807) : (Lib.itoa n == Lib.decDigits (n % 18446744073709551616).toNat)=decide (n ≥ 0):=by
 unfold Lib.itoa
 by_cases h : n < 0
 ·rw [if_pos h,decide_eq_false (by omega)]
  obtain ⟨u,hu⟩ : ∃ u,u=(n % 18446744073709551616).toNat:=⟨_,rfl⟩
  rw [← hu,beq_eq_false_iff_ne]
  intro e
  have:=dd_dig u 45 (by rw [← e];simp)
  simp at this
 ·rw [if_neg h,decide_eq_true (by omega),show n % 18446744073709551616=n by omega]
  simp
theorem cb_less : ∀ a b : List UInt8,Op.bytesLess a b=decide (Lib.compareBytes a b < 0)
 | [],[]=>by simp [Op.bytesLess,Lib.compareBytes]
 | [],_ :: _=>by simp [Op.bytesLess,Lib.compareBytes]
 | _ :: _,[]=>by simp [Op.bytesLess,Lib.compareBytes]
 | a :: xs,b :: ys=>by
  unfold Op.bytesLess Lib.compareBytes
  rcases u8_tri a b with ⟨h1,h2⟩|⟨h1,h2⟩|⟨h0,h1,h2⟩
  ·rw [if_pos h1];simp [h1]
  ·rw [if_neg h2,if_pos h1]
   have : (a == b)=false:=by
    rw [beq_eq_false_iff_ne];rintro rfl;exact h2 h1
   simp [h2,this]
  ·rw [if_neg h1,if_neg h2,cb_less xs ys]
   subst h0
   simp [h1]
theorem cb_longer : ∀ a : List UInt8,∀ c : UInt8,Lib.compareBytes a (a ++ [c])=-1
 | [],c=>by simp [Lib.compareBytes]
 | x :: xs,c=>by
  rw [List.cons_append]
  unfold Lib.compareBytes
  have h : ¬ x < x:=fun h=>by have:=UInt8.lt_iff_toNat_lt.mp h;omega
  rw [if_neg h,if_neg h]
  exact cb_longer xs c
end Go.Proofs.YtifpjhghbafcjaaDoor.P

/- What is written of any value: its bytes. -/
namespace Go.Proofs.YtifpjhghbafcjaaDoor.P
open Go.RowKit Go.Proofs.YtifpjhghbafcjaaDoorW.PrintWords Go.Proofs.YtifpjhghbafcjaaDoorW.PrintLast Go.Proofs.YtifpjhghbafcjaaDoorW.PrintMore
set_option linter.unusedVariables false
set_option linter.unusedSimpArgs false
theorem bt_arr (l : List UInt8) (i : Int) (h0 : 0≤i) (h : i < (l.length : Int)) : bt (⟨l.toArray⟩ : ByteArray) i=((l[i.toNat]'(by omega)).toNat : Int):=by
 have hs : i.toNat < (⟨l.toArray⟩ : ByteArray).size:=by show i.toNat < l.toArray.size;simp;omega
 rw [← bt_at _ _ hs]
 rfl
theorem arr_size (l : List UInt8) : ((⟨l.toArray⟩ : ByteArray).size : Int)=(l.length : Int):=by show (l.toArray.size : Int)=_;simp
theorem dd_len : ∀ k u : Nat,u < 10 ^ (k + 1)→(Lib.decDigits u).length≤k + 1
 | 0,u,h=>by rw [Lib.decDigits_one (by simpa using h)];simp
 | k + 1,u,h=>by
  by_cases h1 : u < 10
  ·rw [Lib.decDigits_one h1];simp
  ·rw [dd_step u h1,List.length_append]
   have:=dd_len k (u / 10) (by rw [Nat.pow_succ] at h;omega)
   simp
   omega
theorem dd_len20 (u : Nat) (h : u < 18446744073709551616) : (Lib.decDigits u).length≤20:=dd_len 19 u (by omega)
theorem dd_pos (u : Nat) : 1≤(Lib.decDigits u).length:=by
 have:=dd_ne u
 rcases h : Lib.decDigits u with _|⟨c,l⟩
 ·exact absurd h this
 ·simp
theorem hex_rng (d : Nat) (h : d < 16) : 48≤(hexU d).toNat∧(hexU d).toNat≤102:=by
 unfold hexU
 rw [UInt8.toNat_ofNat']
 split <;> omega
theorem quo1_rng (x : UInt8) : ∀ c ∈ quo1 x,32≤c.toNat∧c.toNat≤126∧c.toNat≠34:=by
 intro c hc
 cases h : esc x with
 | true =>
  rw [quo1_esc x h] at hc
  have:=x.toNat_lt
  have h1:=hex_rng (x.toNat / 16) (by omega)
  have h2:=hex_rng (x.toNat % 16) (by omega)
  simp only [List.mem_cons,List.not_mem_nil,or_false] at hc
  rcases hc with rfl|rfl|rfl
  ·decide
  ·omega
  ·omega
 | false =>
  rw [quo1_plain x h,List.mem_singleton] at hc
  subst hc
  simp only [esc,Bool.or_eq_false_iff,decide_eq_false_iff_not] at h
  omega
theorem flat_rng (l : List UInt8) : ∀ c ∈ l.flatMap quo1,32≤c.toNat∧c.toNat≤126∧c.toNat≠34:=by
 intro c hc
 obtain ⟨x,_,hx⟩:=List.mem_flatMap.mp hc
 exact quo1_rng x c hx
end Go.Proofs.YtifpjhghbafcjaaDoor.P

/- What is written is read again as itself. -/
namespace Go.Proofs.YtifpjhghbafcjaaDoor.P
open Go.RowKit Go.Proofs.YtifpjhghbafcjaaDoorW.PrintWords Go.Proofs.YtifpjhghbafcjaaDoorW.PrintLast
set_option linter.unusedVariables false
set_option linter.unusedSimpArgs false
theorem pm_app (M : Nat) (r : List UInt8) : ∀ (l : List UInt8) (acc v : Nat),Lib.parseUintM M acc l=.ok v→Lib.parseUintM M acc (l ++ r)=Lib.parseUintM M v r
 | [],acc,v,h=>by
  simp only [Lib.parseUintM] at h
  rw [Lib.NumEnd.ok.inj h,List.nil_append]
 | c :: l,acc,v,h=>by
  rw [List.cons_append]
  obtain ⟨R,hR⟩ : ∃ R,R=Lib.parseUintM M v r:=⟨_,rfl⟩
  rw [← hR]
  unfold Lib.parseUintM at h ⊢
  by_cases h1 : 48≤c.toNat∧c.toNat≤57
  ·rw [if_pos h1] at h ⊢
   by_cases h2 : 1844674407370955162≤acc
   ·rw [if_pos h2] at h;cases h
   ·rw [if_neg h2] at h ⊢
    by_cases h3 : M < acc * 10 + (c.toNat - 48)
    ·rw [if_pos h3] at h;cases h
    ·rw [if_neg h3] at h ⊢
     rw [hR]
     exact pm_app M r l _ v h
  ·rw [if_neg h1] at h;cases h
theorem dig_nat (d : Nat) (h : d < 10) : (UInt8.ofNat (48 + d)).toNat=48 + d:=by rw [UInt8.toNat_ofNat'];omega
theorem pm_dd (M : Nat) (hM : M≤18446744073709551615) (u : Nat) : u≤M→Lib.parseUintM M 0 (Lib.decDigits u)=.ok u:=by
 induction u using Nat.strongRecOn with
 | _ u ih =>
  intro hu
  by_cases h : u < 10
  ·rw [Lib.decDigits_one h]
   simp only [Lib.parseUintM]
   rw [dig_nat u h,if_pos (by omega),if_neg (by omega),if_neg (by omega)]
   congr 1
   omega
  ·rw [dd_step u h,pm_app M _ _ _ _ (ih (u / 10) (by omega) (by omega))]
   simp only [Lib.parseUintM]
   rw [dig_nat (u % 10) (by omega),if_pos (by omega),if_neg (by omega),if_neg (by omega)]
   congr 1
   omega
theorem pu_dd (u : Nat) (h : u < 18446744073709551616) : Lib.parseUintB 64 (Lib.decDigits u)=.ok u:=by
 unfold Lib.parseUintB
 rw [if_neg (dd_ne u)]
 exact pm_dd _ (by decide) u (by omega)
theorem pi_itoa (n : Int) (h0 : -9223372036854775808≤n) (h1 : n≤9223372036854775807) : Lib.parseIntB 64 (Lib.itoa n)=.ok n:=by
 unfold Lib.itoa
 by_cases h : n < 0
 ·rw [if_pos h]
  unfold Lib.parseIntB
  simp only []
  rw [if_pos (by right;rfl),pu_dd n.natAbs (by omega)]
  simp only []
  rw [if_neg (by intro hh;exact hh.1 rfl),if_neg (by omega),if_pos (show UInt8.toNat 45=45 from rfl)]
  congr 1
  omega
 ·rw [if_neg h]
  have hd:=dd_dig n.toNat
  have hp:=pu_dd n.toNat (by omega)
  rcases hl : Lib.decDigits n.toNat with _|⟨c,r⟩
  ·exact absurd hl (dd_ne _)
  ·rw [hl] at hd hp
   have hc:=hd c (List.mem_cons_self ..)
   unfold Lib.parseIntB
   simp only []
   rw [if_neg (by omega),hp]
   simp only []
   rw [if_neg (by intro hh;have:=hh.2;omega),if_neg (by intro hh;have:=hh.1;omega),if_neg (by omega)]
   congr 1
   omega
theorem hexv_hexU (d : Nat) (h : d < 16) : hexv (hexU d).toNat=some d:=by
 have : ∀ d : Fin 16,hexv (hexU d.val).toNat=some d.val:=by decide +kernel
 exact this ⟨d,h⟩
theorem hexr_hexU (c : UInt8) : hexr 0 [hexU (c.toNat / 16),hexU (c.toNat % 16)]=some c.toNat:=by
 have:=c.toNat_lt
 rw [hexr_some _ (c.toNat / 16) _ _ (hexv_hexU _ (by omega)),hexr_some _ (c.toNat % 16) _ _ (hexv_hexU _ (by omega))]
 simp only [hexr]
 congr 1
 omega
theorem dec_flat : ∀ l : List UInt8,dec (l.flatMap quo1)=some l
 | []=>by rw [List.flatMap_nil];exact dec_nil
 | c :: l=>by
  have ih:=dec_flat l
  rw [List.flatMap_cons]
  cases h : esc c with
  | true =>
   rw [quo1_esc c h]
   show dec (92 :: hexU (c.toNat / 16) :: hexU (c.toNat % 16) :: l.flatMap quo1)=_
   rw [dec_esc 92 _ _ c.toNat _ rfl (hexr_hexU c),ih]
   simp
  | false =>
   rw [quo1_plain c h]
   show dec (c :: l.flatMap quo1)=_
   rw [dec_plain c _ (by simp only [esc,Bool.or_eq_false_iff,decide_eq_false_iff_not] at h;exact h.2),ih]
   rfl
theorem textL_quo (l : List UInt8) : textL (quoL l)=(l,true):=by
 have e1 : Lib.hasPrefix (quoL l) [34]=true:=by simp [Lib.hasPrefix,quoL]
 have e2 : Lib.trimPrefix (quoL l) [34]=l.flatMap quo1 ++ [34]:=by unfold Lib.trimPrefix;rw [if_pos e1];rfl
 have e3 : Lib.hasSuffix (l.flatMap quo1 ++ [34]) [34]=true:=by
  unfold Lib.hasSuffix
  rw [List.isSuffixOf_iff_suffix]
  exact List.suffix_append _ _
 have e4 : Lib.trimSuffix (l.flatMap quo1 ++ [34]) [34]=l.flatMap quo1:=by
  unfold Lib.trimSuffix
  rw [if_pos e3]
  simp
 unfold textL
 rw [e2,e4,e1,e3,dec_flat]
 rfl
theorem text_fit (k : Int) (k1 : 1≤k) (k3 : k≤3) (a : XV) (h : fitT k a=true) (g : GV a) : ∃ s : ByteArray,value_Text.f k a.f0 a.f1=some s∧s.size≠0∧s.size≤1000∧value_Read.p k s=some (a.f0,a.f1):=by
 by_cases e3 : k=3
 ·subst e3
  have a0 : a.f0=0:=fit_zero h rfl
  have a1 : a.f1.size≤60:=by
   unfold fitT at h
   rw [if_neg (by decide),if_pos rfl,if_pos a0,decide_eq_true_iff] at h
   omega
  have hl : a.f1.data.toList.length≤60:=by simpa using a1
  have hq:=quo_len a.f1.data.toList
  have hn : (quoL a.f1.data.toList).length=(a.f1.data.toList.flatMap quo1).length + 2:=by simp [quoL]
  refine ⟨⟨(quoL a.f1.data.toList).toArray⟩,?_,?_,?_,?_⟩
  ·unfold value_Text.f
   rw [if_neg (by decide),if_neg (by decide),if_pos rfl,if_pos ⟨a0,a1⟩]
  ·show (quoL a.f1.data.toList).toArray.size≠0
   simp only [List.size_toArray]
   omega
  ·show (quoL a.f1.data.toList).toArray.size≤1000
   simp only [List.size_toArray]
   omega
  ·unfold value_Read.p
   rw [if_neg (by decide),if_neg (by decide)]
   show (if (textL (quoL a.f1.data.toList)).2=true then some (0,(⟨(textL (quoL a.f1.data.toList)).1.toArray⟩ : ByteArray)) else none)=_
   rw [textL_quo,if_pos rfl,a0]
 ·have a1 : a.f1=⟨#[]⟩:=fit_empty h e3
  rw [a1]
  by_cases e1 : k=1
  ·subst e1
   refine ⟨⟨(Lib.itoa a.f0).toArray⟩,text_int a.f0 g.1 g.2,?_,?_,?_⟩
   ·show (Lib.itoa a.f0).toArray.size≠0
    simp only [List.size_toArray]
    unfold Lib.itoa
    split
    ·simp
    ·have:=dd_pos a.f0.toNat;omega
   ·show (Lib.itoa a.f0).toArray.size≤1000
    simp only [List.size_toArray]
    have:=g.1
    have:=g.2
    unfold Lib.itoa
    split
    ·have:=dd_len20 a.f0.natAbs (by omega)
     rw [List.length_cons];omega
    ·have:=dd_len20 a.f0.toNat (by omega)
     omega
   ·unfold value_Read.p
    rw [if_pos rfl]
    show (match Lib.parseIntB 64 (Lib.itoa a.f0) with|.ok v=>some (v,(⟨#[]⟩ : ByteArray))|_=>none)=_
    rw [pi_itoa a.f0 g.1 g.2]
  ·obtain rfl : k=2:=by omega
   have hu : (a.f0 % 18446744073709551616).toNat < 18446744073709551616:=by omega
   refine ⟨⟨(Lib.decDigits (a.f0 % 18446744073709551616).toNat).toArray⟩,text_uint a.f0,?_,?_,?_⟩
   ·show (Lib.decDigits (a.f0 % 18446744073709551616).toNat).toArray.size≠0
    simp only [List.size_toArray]
    have:=dd_pos (a.f0 % 18446744073709551616).toNat
    omega
   ·show (Lib.decDigits (a.f0 % 18446744073709551616).toNat).toArray.size≤1000
    simp only [List.size_toArray]
    have:=dd_len20 _ hu
    omega
   ·unfold value_Read.p
    rw [if_neg (by decide),if_pos rfl]
    show (match Lib.parseUintB 64 (Lib.decDigits (a.f0 % 18446744073709551616).toNat) with|.ok u=>some (wrap64 (u : Int),(⟨#[]⟩ : ByteArray))|_=>none)=_
    rw [pu_dd _ hu]
    have g0:=g.1
    have g1:=g.2
    have e : wrap64 (((a.f0 % 18446744073709551616).toNat : Nat) : Int)=a.f0:=by
     rw [Int.toNat_of_nonneg (by omega)]
     unfold wrap64
     omega
    simp only [e]
theorem read_fit {k : Int} {s : ByteArray} {a : XV} (ht : value_Text.f k a.f0 a.f1=some s) (h0 : s.size≠0) (h1 : s.size≤1000) (hp : value_Read.p k s=some (a.f0,a.f1)) : value_Read.f k s=some (a.f0,a.f1,true):=by
 unfold value_Read.f
 rw [if_pos h1,hp]
 simp only
 rw [if_pos ⟨h0,ht⟩]
theorem text_not (k : Int) (k1 : 1≤k) (k3 : k≤3) (a : XV) (h : fitT k a=false) : value_Text.f k a.f0 a.f1=some ⟨#[]⟩:=by
 unfold fitT at h
 unfold value_Text.f
 by_cases e3 : k=3
 ·subst e3
  rw [if_neg (by decide),if_pos rfl] at h
  rw [if_neg (by decide),if_neg (by decide),if_pos rfl]
  by_cases e : a.f0=0
  ·rw [if_pos e,decide_eq_false_iff_not] at h
   rw [if_neg (by omega)]
  ·rw [if_neg (fun hh=>e hh.1)]
 ·have h12 : k=1 ∨ k=2:=by omega
  rw [if_pos h12] at h
  have hs : a.f1.size≠0:=by
   intro e
   have : a.f1.toList=[]:=by
    rw [ByteArray.toList_eq]
    exact List.length_eq_zero_iff.1 (by simpa using e)
   rw [this] at h
   cases h
  rcases h12 with rfl|rfl
  ·rw [if_pos rfl,if_neg hs]
  ·rw [if_neg (by decide),if_pos rfl,if_neg hs]
end Go.Proofs.YtifpjhghbafcjaaDoor.P

/- The document's Text writes what the program's writes. -/
namespace Go.Proofs.YtifpjhghbafcjaaDoor.P
open Go.RowKit Go.Proofs.YtifpjhghbafcjaaDoorW.PrintWords Go.Proofs.YtifpjhghbafcjaaDoorW.PrintLast
set_option linter.unusedVariables false
set_option linter.unusedSimpArgs false
theorem arr_app (a b : List UInt8) : (⟨a.toArray⟩ : ByteArray) ++ ⟨b.toArray⟩=⟨(a ++ b).toArray⟩:=by
 apply ByteArray.ext
 rw [ByteArray.data_append]
 simp
theorem arr_szN (l : List UInt8) : (⟨l.toArray⟩ : ByteArray).size=l.length:=by show l.toArray.size=_;simp
theorem dig_cut (d : Nat) (h : d < 10) : (⟨#[48,49,50,51,52,53,54,55,56,57]⟩ : ByteArray).extract d (d + 1)=⟨[UInt8.ofNat (48 + d)].toArray⟩:=by
 have : ∀ d : Fin 10,(⟨#[48,49,50,51,52,53,54,55,56,57]⟩ : ByteArray).extract d.val (d.val + 1)=⟨[UInt8.ofNat (48 + d.val)].toArray⟩:=by decide +kernel
 exact this ⟨d,h⟩
theorem hex_cut (d : Nat) (h : d < 16) : (⟨#[48,49,50,51,52,53,54,55,56,57,97,98,99,100,101,102]⟩ : ByteArray).extract d (d + 1)=⟨[hexU d].toArray⟩:=by
 have : ∀ d : Fin 16,(⟨#[48,49,50,51,52,53,54,55,56,57,97,98,99,100,101,102]⟩ : ByteArray).extract d.val (d.val + 1)=⟨[hexU d.val].toArray⟩:=by decide +kernel
 exact this ⟨d,h⟩
theorem digits_loop : ∀ (d x : Nat) (l : List UInt8) (i : Int),x < 10 ^ (d + 1)→x < 18446744073709551616→0≤i→i + d < 20→l.length + d≤1000→Ev (fun k=>thresherref03_digits.l0 k x ⟨l.toArray⟩ i) ⟨(Lib.decDigits x ++ l).toArray⟩:=by
 intro d
 induction d with
 | zero =>
  intro x l i hx h64 h0 hi hl
  have hx10 : x < 10:=by simpa using hx
  refine Ev.succ ?_
  simp only [thresherref03_digits.l0]
  have e1 : Int.tmod (x : Int) 10=(x : Int):=by rw [Int.tmod_eq_emod_of_nonneg (by omega)];omega
  have e2 : Int.tdiv (x : Int) 10=0:=by rw [Int.tdiv_eq_ediv_of_nonneg (by omega)];omega
  have e3 : IntKind.u64.wrap ((x : Int) + 1)=(x : Int) + 1:=by rw [IntKind.wrap_u64];omega
  have e4 : IntKind.u64.wrap (0 : Int)=0:=by rw [IntKind.wrap_u64];rfl
  rw [e1,e2,e3,e4]
  rw [show ((x : Int)).toNat=x by omega,show ((x : Int) + 1).toNat=x + 1 by omega,dig_cut x hx10,arr_szN,arr_szN,arr_app]
  refine Ev.pos (by omega) (Ev.pos (by omega) (Ev.pos (by omega) (Ev.pos (by omega) (Ev.pos (by simp;omega) (Ev.pos rfl ((Ev.now _).eq ?_))))))
  rw [Lib.decDigits_one hx10]
 | succ d ih =>
  intro x l i hx h64 h0 hi hl
  rw [Nat.pow_succ] at hx
  by_cases hx10 : x < 10
  ·refine Ev.succ ?_
   simp only [thresherref03_digits.l0]
   have e1 : Int.tmod (x : Int) 10=(x : Int):=by rw [Int.tmod_eq_emod_of_nonneg (by omega)];omega
   have e2 : Int.tdiv (x : Int) 10=0:=by rw [Int.tdiv_eq_ediv_of_nonneg (by omega)];omega
   have e3 : IntKind.u64.wrap ((x : Int) + 1)=(x : Int) + 1:=by rw [IntKind.wrap_u64];omega
   have e4 : IntKind.u64.wrap (0 : Int)=0:=by rw [IntKind.wrap_u64];rfl
   rw [e1,e2,e3,e4]
   rw [show ((x : Int)).toNat=x by omega,show ((x : Int) + 1).toNat=x + 1 by omega,dig_cut x hx10,arr_szN,arr_szN,arr_app]
   refine Ev.pos (by omega) (Ev.pos (by omega) (Ev.pos (by omega) (Ev.pos (by omega) (Ev.pos (by simp;omega) (Ev.pos rfl ((Ev.now _).eq ?_))))))
   rw [Lib.decDigits_one hx10]
  ·refine Ev.succ ?_
   simp only [thresherref03_digits.l0]
   obtain ⟨m,hm⟩ : ∃ m : Nat,m=x % 10:=⟨_,rfl⟩
   obtain ⟨y,hy⟩ : ∃ y : Nat,y=x / 10:=⟨_,rfl⟩
   have e1 : Int.tmod (x : Int) 10=(m : Int):=by rw [Int.tmod_eq_emod_of_nonneg (by omega)];omega
   have e2 : IntKind.u64.wrap (Int.tdiv (x : Int) 10)=(y : Int):=by rw [Int.tdiv_eq_ediv_of_nonneg (by omega),IntKind.wrap_u64];omega
   have e3 : IntKind.u64.wrap ((m : Int) + 1)=(m : Int) + 1:=by rw [IntKind.wrap_u64];omega
   rw [e1,e2,e3]
   rw [show ((m : Int)).toNat=m by omega,show ((m : Int) + 1).toNat=m + 1 by omega,dig_cut m (by omega),arr_szN,arr_szN,arr_app]
   simp (disch:=omega) only [w64]
   refine Ev.pos (by omega) (Ev.pos (by omega) (Ev.pos (by omega) (Ev.pos (by omega) (Ev.pos (by simp;omega) (Ev.neg (by omega) ((ih y _ (i + 1) (by omega) (by omega) (by omega) (by omega) (by simp;omega)).eq ?_))))))
   rw [dd_step x hx10,← hm,← hy,List.append_assoc]
theorem digits_ev (x : Nat) (h : x < 18446744073709551616) : Ev (fun k=>thresherref03_digits.f k x) ⟨(Lib.decDigits x).toArray⟩:=by
 simp only [thresherref03_digits.f]
 exact (digits_loop 19 x [] 0 (by omega) h (by omega) (by omega) (by simp)).eq (by rw [List.append_nil])
theorem bt_get (s : ByteArray) (q : Nat) (h : q < s.data.toList.length) : bt s q=((s.data.toList[q]).toNat : Int):=by
 have : q < s.size:=by simpa using h
 exact bt_lt s q this
theorem rquo_loop (s : ByteArray) (n : Int) (hs : s.size≤1000) : ∀ (d i : Nat) (acc : List UInt8),i + d=s.size→acc.length≤3 * i + 1→Ev (fun k=>thresherref03_Text.l0 k ⟨acc.toArray⟩ ⟨#[48,49,50,51,52,53,54,55,56,57,97,98,99,100,101,102]⟩ i n s) ⟨(acc ++ (s.data.toList.drop i).flatMap quo1 ++ [34]).toArray⟩:=by
 intro d
 induction d with
 | zero =>
  intro i acc hi ha
  have hn : s.data.toList.length=s.size:=by simp
  refine Ev.succ ?_
  simp only [thresherref03_Text.l0]
  refine Ev.neg (by omega) ?_
  rw [arr_szN]
  refine Ev.pos (by omega) ((Ev.now _).eq ?_)
  rw [List.drop_of_length_le (by omega),List.flatMap_nil,List.append_nil]
  exact arr_app acc [34]
 | succ d ih =>
  intro i acc hi ha
  have hn : s.data.toList.length=s.size:=by simp
  have hlt : i < s.data.toList.length:=by omega
  rw [List.drop_eq_getElem_cons hlt,List.flatMap_cons]
  refine Ev.succ ?_
  simp only [thresherref03_Text.l0]
  rw [bt_get s i hlt]
  obtain ⟨c,hc⟩ : ∃ c,c=s.data.toList[i]:=⟨_,rfl⟩
  rw [← hc]
  have hc256:=c.toNat_lt
  have next : ∀ b : Bool,b=esc c→Ev (fun k=>thresherref03_Text.j2 k ⟨acc.toArray⟩ ⟨#[48,49,50,51,52,53,54,55,56,57,97,98,99,100,101,102]⟩ i (c.toNat : Int) b n s) ⟨(acc ++ (quo1 c ++ (s.data.toList.drop (i + 1)).flatMap quo1) ++ [34]).toArray⟩:=by
   intro b hb
   refine Ev.succ ?_
   simp only [thresherref03_Text.j2]
   cases he : esc c with
   | true =>
    rw [he] at hb
    subst hb
    obtain ⟨p,hp⟩ : ∃ p : Nat,p=c.toNat / 16:=⟨_,rfl⟩
    obtain ⟨q,hq⟩ : ∃ q : Nat,q=c.toNat % 16:=⟨_,rfl⟩
    have e1 : (Int.tdiv (c.toNat : Int) 16)=(p : Int):=by rw [Int.tdiv_eq_ediv_of_nonneg (by omega)];omega
    have e2 : (Int.tmod (c.toNat : Int) 16)=(q : Int):=by rw [Int.tmod_eq_emod_of_nonneg (by omega)];omega
    rw [e1,e2,show (p : Int) % 256=p by omega,show ((p : Int) + 1) % 256=p + 1 by omega,show ((q : Int) + 1) % 256=q + 1 by omega]
    rw [show ((p : Int)).toNat=p by omega,show ((p : Int) + 1).toNat=p + 1 by omega,show ((q : Int)).toNat=q by omega,show ((q : Int) + 1).toNat=q + 1 by omega]
    rw [hex_cut p (by omega),hex_cut q (by omega)]
    rw [show (⟨acc.toArray⟩ : ByteArray) ++ ⟨#[92]⟩=⟨(acc ++ [92]).toArray⟩ from arr_app acc [92],arr_app,arr_app]
    simp only [arr_szN]
    rw [w64 (by omega : -9223372036854775808≤(i : Int) + 1) (by omega)]
    refine Ev.pos (by simp) (Ev.pos (by first|omega|(simp;omega)|(simp only [List.length_append,List.length_cons,List.length_nil];omega)) (Ev.pos (by first|omega|(simp;omega)|(simp only [List.length_append,List.length_cons,List.length_nil];omega)) (Ev.pos (by first|omega|(simp;omega)|(simp only [List.length_append,List.length_cons,List.length_nil];omega)) (Ev.pos (by first|omega|(simp;omega)|(simp only [List.length_append,List.length_cons,List.length_nil];omega)) (Ev.pos (by first|omega|(simp;omega)|(simp only [List.length_append,List.length_cons,List.length_nil];omega)) (Ev.pos (by first|omega|(simp;omega)|(simp only [List.length_append,List.length_cons,List.length_nil];omega)) (Ev.pos (by first|omega|(simp;omega)|(simp only [List.length_append,List.length_cons,List.length_nil];omega)) (Ev.pos (by first|omega|(simp;omega)|(simp only [List.length_append,List.length_cons,List.length_nil];omega)) (Ev.pos (by first|omega|(simp;omega)|(simp only [List.length_append,List.length_cons,List.length_nil];omega)) ?_)))))))))
    refine (ih (i + 1) _ (by omega) (by first|omega|(simp;omega)|(simp only [List.length_append,List.length_cons,List.length_nil];omega))).eq ?_
    rw [quo1_esc c he,← hp,← hq]
    simp
   | false =>
    rw [he] at hb
    subst hb
    rw [w64 (by omega : -9223372036854775808≤(i : Int) + 1) (by omega)]
    have hx : s.extract ((i : Int)).toNat ((i : Int) + 1).toNat=⟨[c].toArray⟩:=by
     rw [show ((i : Int)).toNat=i by omega,show ((i : Int) + 1).toNat=i + 1 by omega]
     have:=arr_cut s.data.toList i (i + 1)
     have e : (⟨s.data.toList.toArray⟩ : ByteArray)=s:=by apply ByteArray.ext;simp
     rw [e] at this
     rw [this,List.take_succ_eq_append_getElem hlt,List.drop_append_of_le_length (by rw [List.length_take];omega),List.drop_of_length_le (by rw [List.length_take];omega),← hc]
     rfl
    rw [hx,arr_app]
    simp only [arr_szN]
    refine Ev.neg (by simp) (Ev.pos (by first|omega|(simp;omega)|(simp only [List.length_append,List.length_cons,List.length_nil];omega)) (Ev.pos (by first|omega|(simp;omega)|(simp only [List.length_append,List.length_cons,List.length_nil];omega)) (Ev.pos (by first|omega|(simp;omega)|(simp only [List.length_append,List.length_cons,List.length_nil];omega)) (Ev.pos (by first|omega|(simp;omega)|(simp only [List.length_append,List.length_cons,List.length_nil];omega)) ?_))))
    refine (ih (i + 1) _ (by omega) (by first|omega|(simp;omega)|(simp only [List.length_append,List.length_cons,List.length_nil];omega))).eq ?_
    rw [quo1_plain c he]
    simp
  have goal : Ev (fun k=>thresherref03_Text.j2 k ⟨acc.toArray⟩ ⟨#[48,49,50,51,52,53,54,55,56,57,97,98,99,100,101,102]⟩ i (c.toNat : Int) (esc c) n s) ⟨(acc ++ (quo1 c ++ (s.data.toList.drop (i + 1)).flatMap quo1) ++ [34]).toArray⟩:=next _ rfl
  refine Ev.pos (by omega) (Ev.pos (by omega) ?_)
  by_cases h1 : (c.toNat : Int) < 32
  ·exact Ev.pos h1 (next _ (by simp [esc];omega))
  ·refine Ev.neg h1 ?_
   by_cases h2 : (c.toNat : Int) > 126
   ·exact Ev.pos h2 (next _ (by simp [esc];omega))
   ·refine Ev.neg h2 ?_
    by_cases h3 : (c.toNat : Int)=34
    ·exact Ev.pos h3 (next _ (by simp [esc];omega))
    ·refine Ev.neg h3 (next _ ?_)
     have a1 : decide (c.toNat < 32)=false:=decide_eq_false (by omega)
     have a2 : decide (126 < c.toNat)=false:=decide_eq_false (by omega)
     have a3 : decide (c.toNat=34)=false:=decide_eq_false (by omega)
     unfold esc
     rw [a1,a2,a3,Bool.eq_iff_iff]
     simp only [Bool.false_or,beq_iff_eq,decide_eq_true_eq]
     omega
def textV (t : Int) (v : XV) : ByteArray:=if fitT t v=true then (if t=1 then ⟨(Lib.itoa v.f0).toArray⟩ else if t=2 then ⟨(Lib.decDigits (v.f0 % 18446744073709551616).toNat).toArray⟩ else ⟨(quoL v.f1.data.toList).toArray⟩) else ⟨#[]⟩
theorem fit_three {t : Int} {v : XV} (h : fitT t v=true) : t=1 ∨ t=2 ∨ t=3:=by
 unfold fitT at h
 split at h
 ·omega
 ·split at h
  ·omega
  ·cases h
theorem ptext_ev (t : Int) (v : XV) (g : GV v) : value_Text.f t v.f0 v.f1=some (textV t v):=by
 unfold textV
 by_cases h : fitT t v=true
 ·rw [if_pos h]
  rcases fit_three h with rfl|rfl|rfl
  ·rw [if_pos rfl,fit_empty h (by decide)]
   exact text_int v.f0 g.1 g.2
  ·rw [if_neg (by decide),if_pos rfl,fit_empty h (by decide)]
   exact text_uint v.f0
  ·rw [if_neg (by decide),if_neg (by decide)]
   have a0 : v.f0=0:=fit_zero h rfl
   have a1 : v.f1.size≤60:=by
    unfold fitT at h
    rw [if_neg (by decide),if_pos rfl,if_pos a0,decide_eq_true_iff] at h
    omega
   unfold value_Text.f
   rw [if_neg (by decide),if_neg (by decide),if_pos rfl,if_pos ⟨a0,a1⟩]
 ·rw [if_neg h]
  by_cases ht : 1≤t∧t≤3
  ·exact text_not t ht.1 ht.2 v (by simpa using h)
  ·unfold value_Text.f
   rw [if_neg (by omega),if_neg (by omega),if_neg (by omega)]
theorem rtext_ev (t : Int) (v : XV) (g : GV v) : Ev (fun k=>thresherref03_Text.f k t v.f0 v.f1) (textV t v):=by
 obtain ⟨g0,g1⟩:=g
 simp only [thresherref03_Text.f]
 refine Ev.bind (rfits_ev t v.f0 v.f1) ?_
 unfold textV
 by_cases h : fitT t v=true
 ·rw [if_pos h]
  refine Ev.pos h ?_
  have num : ∀ u : Nat,u < 18446744073709551616→IntKind.u64.wrap v.f0=(u : Int)→t≠3→Ev (fun k=>thresherref03_Text.j0 k t false v.f0 v.f1) ⟨(Lib.decDigits u).toArray⟩:=by
   intro u hu hw h3
   refine Ev.succ ?_
   simp only [thresherref03_Text.j0]
   refine Ev.neg (by simp) (Ev.neg h3 ?_)
   rw [hw]
   exact Ev.bind (digits_ev u hu) (Ev.now _)
  rcases fit_three h with rfl|rfl|rfl
  ·rw [if_pos rfl]
   refine Ev.pos rfl ?_
   unfold Lib.itoa
   by_cases hn : v.f0 < 0
   ·rw [if_pos hn,decide_eq_true hn]
    refine Ev.succ ?_
    simp only [thresherref03_Text.j0]
    have hw : IntKind.u64.wrap (-(IntKind.u64.wrap v.f0))=(v.f0.natAbs : Int):=by rw [IntKind.wrap_u64,IntKind.wrap_u64];omega
    rw [hw]
    have hd:=dd_len20 v.f0.natAbs (by omega)
    refine Ev.pos trivial (Ev.bind (digits_ev v.f0.natAbs (by omega)) ?_)
    rw [arr_szN]
    exact Ev.pos (by omega) ((Ev.now _).eq (arr_app [45] _))
   ·rw [if_neg hn,decide_eq_false hn]
    exact num v.f0.toNat (by omega) (by rw [IntKind.wrap_u64];omega) (by decide)
  ·rw [if_neg (by decide),if_pos rfl]
   exact Ev.neg (by decide) (num (v.f0 % 18446744073709551616).toNat (by omega) (by rw [IntKind.wrap_u64];omega) (by decide))
  ·rw [if_neg (by decide),if_neg (by decide)]
   have a0 : v.f0=0:=fit_zero h rfl
   have a1 : v.f1.size≤60:=by
    unfold fitT at h
    rw [if_neg (by decide),if_pos rfl,if_pos a0,decide_eq_true_iff] at h
    omega
   refine Ev.neg (by decide) (Ev.succ ?_)
   simp only [thresherref03_Text.j0]
   refine Ev.neg (by simp) (Ev.pos trivial ?_)
   exact (rquo_loop v.f1 v.f0 (by omega) v.f1.size 0 [34] (by omega) (by simp)).eq rfl
 ·rw [if_neg h]
  exact Ev.neg h (Ev.now _)
end Go.Proofs.YtifpjhghbafcjaaDoor.P

/- The document's Read reads what the program's reads. -/
namespace Go.Proofs.YtifpjhghbafcjaaDoor.P
open Go.RowKit Go.Proofs.YtifpjhghbafcjaaDoorW.PrintWords Go.Proofs.YtifpjhghbafcjaaDoorW.PrintLast
set_option linter.unusedVariables false
set_option linter.unusedSimpArgs false
theorem u64_rng (x : Int) : 0≤IntKind.u64.wrap x∧IntKind.u64.wrap x < 18446744073709551616:=by rw [IntKind.wrap_u64];omega
theorem whole_loop (s : ByteArray) (hs : s.size≤1000) : ∀ (d i : Nat) (x : Int),i + d=s.size→0≤x→x < 18446744073709551616→∃ (y : Int) (b : Bool),Ev (fun k=>thresherref03_whole.l0 k s x i) (y,b)∧0≤y∧y < 18446744073709551616:=by
 intro d
 induction d with
 | zero =>
  intro i x hi h0 h1
  refine ⟨x,true,Ev.succ ?_,h0,h1⟩
  simp only [thresherref03_whole.l0]
  exact Ev.neg (by omega) (Ev.now _)
 | succ d ih =>
  intro i x hi h0 h1
  by_cases c1 : bt s i < 48
  ·refine ⟨0,false,Ev.succ ?_,by omega,by omega⟩
   simp only [thresherref03_whole.l0]
   exact Ev.pos (by omega) (Ev.pos (by omega) (Ev.pos c1 (Ev.now _)))
  ·by_cases c2 : bt s i > 57
   ·refine ⟨0,false,Ev.succ ?_,by omega,by omega⟩
    simp only [thresherref03_whole.l0]
    exact Ev.pos (by omega) (Ev.pos (by omega) (Ev.neg c1 (Ev.pos c2 (Ev.now _))))
   ·obtain ⟨y,b,hy,y0,y1⟩:=ih (i + 1) (IntKind.u64.wrap ((IntKind.u64.wrap (x * 10)) + (((bt s i) - 48) % 256))) (by omega) (u64_rng _).1 (u64_rng _).2
    refine ⟨y,b,Ev.succ ?_,y0,y1⟩
    simp only [thresherref03_whole.l0]
    refine Ev.pos (by omega) (Ev.pos (by omega) (Ev.neg c1 (Ev.neg c2 ?_)))
    rw [w64 (by omega : -9223372036854775808≤(i : Int) + 1) (by omega)]
    exact hy
theorem whole_any (s : ByteArray) (hs : s.size≤1000) : ∃ (y : Int) (b : Bool),Ev (fun k=>thresherref03_whole.f k s) (y,b)∧0≤y∧y < 18446744073709551616:=by
 have bad : Ev (fun k=>thresherref03_whole.j0 k s true) (0,false):=by
  refine Ev.succ ?_
  simp only [thresherref03_whole.j0]
  exact Ev.pos (by simp) (Ev.now _)
 by_cases h1 : (s.size : Int) < 1
 ·refine ⟨0,false,?_,by omega,by omega⟩
  simp only [thresherref03_whole.f]
  exact Ev.pos h1 bad
 ·by_cases h2 : (s.size : Int) > 20
  ·refine ⟨0,false,?_,by omega,by omega⟩
   simp only [thresherref03_whole.f]
   refine Ev.neg h1 ?_
   rw [decide_eq_true h2]
   exact bad
  ·obtain ⟨y,b,hy,y0,y1⟩:=whole_loop s hs s.size 0 0 (by omega) (by omega) (by omega)
   refine ⟨y,b,?_,y0,y1⟩
   simp only [thresherref03_whole.f]
   refine Ev.neg h1 ?_
   rw [decide_eq_false h2]
   refine Ev.succ ?_
   simp only [thresherref03_whole.j0]
   exact Ev.neg (by simp) hy
def numOf (acc : Nat) (l : List UInt8) : Nat:=l.foldl (fun a c=>a * 10 + (c.toNat - 48)) acc
theorem numOf_nil (acc : Nat) : numOf acc []=acc:=by unfold numOf;rw [List.foldl_nil]
theorem numOf_cons (acc : Nat) (c : UInt8) (l : List UInt8) : numOf acc (c :: l)=numOf (acc * 10 + (c.toNat - 48)) l:=by unfold numOf;rw [List.foldl_cons]
theorem numOf_one (acc : Nat) (c : UInt8) : numOf acc [c]=acc * 10 + (c.toNat - 48):=by rw [numOf_cons,numOf_nil]
theorem numOf_app (l r : List UInt8) (acc : Nat) : numOf acc (l ++ r)=numOf (numOf acc l) r:=by unfold numOf;rw [List.foldl_append]
attribute [irreducible] numOf
theorem numOf_dd (u : Nat) : numOf 0 (Lib.decDigits u)=u:=by
 induction u using Nat.strongRecOn with
 | _ u ih =>
  rcases Nat.lt_or_ge u 10 with h|h
  ·rw [Lib.decDigits_one h,numOf_one,dig_nat u h]
   omega
  ·rw [dd_step u (Nat.not_lt.2 h),numOf_app,ih (u / 10) (by omega),numOf_one,dig_nat (u % 10) (by omega)]
   omega
theorem numOf_le (l : List UInt8) (acc : Nat) : acc≤numOf acc l:=by
 induction l generalizing acc with
 | nil=>rw [numOf_nil];exact Nat.le_refl _
 | cons c l ih=>rw [numOf_cons];exact Nat.le_trans (by omega) (ih (acc * 10 + (c.toNat - 48)))
theorem whole_dig (s : ByteArray) (hs : s.size≤1000) (hd : ∀ c ∈ s.data.toList,48≤c.toNat∧c.toNat≤57) : ∀ (d i acc : Nat),i + d=s.size→numOf acc (s.data.toList.drop i) < 18446744073709551616→Ev (fun k=>thresherref03_whole.l0 k s (acc : Int) i) ((numOf acc (s.data.toList.drop i) : Int),true):=by
 intro d
 induction d with
 | zero =>
  intro i acc hi hx
  have hn : s.data.toList.length=s.size:=by simp
  refine Ev.succ ?_
  simp only [thresherref03_whole.l0]
  rw [List.drop_of_length_le (by omega),numOf_nil]
  exact Ev.neg (by omega) (Ev.now _)
 | succ d ih =>
  intro i acc hi hx
  have hn : s.data.toList.length=s.size:=by simp
  have hlt : i < s.data.toList.length:=by omega
  rw [List.drop_eq_getElem_cons hlt] at hx ⊢
  have hc:=hd _ (List.getElem_mem hlt)
  obtain ⟨c,e⟩ : ∃ c,c=s.data.toList[i]:=⟨_,rfl⟩
  rw [← e] at hx hc ⊢
  rw [numOf_cons] at hx ⊢
  have hle:=numOf_le (s.data.toList.drop (i + 1)) (acc * 10 + (c.toNat - 48))
  refine Ev.succ ?_
  simp only [thresherref03_whole.l0]
  rw [bt_get s i hlt,← e]
  refine Ev.pos (by omega) (Ev.pos (by omega) (Ev.neg (by omega) (Ev.neg (by omega) ?_)))
  rw [w64 (by omega : -9223372036854775808≤(i : Int) + 1) (by omega)]
  have ew : IntKind.u64.wrap ((IntKind.u64.wrap ((acc : Int) * 10)) + (((c.toNat : Int) - 48) % 256))=((acc * 10 + (c.toNat - 48) : Nat) : Int):=by
   rw [IntKind.wrap_u64,IntKind.wrap_u64]
   omega
  rw [ew]
  exact ih (i + 1) _ (by omega) hx
theorem whole_dd (u : Nat) (h : u < 18446744073709551616) : Ev (fun k=>thresherref03_whole.f k ⟨(Lib.decDigits u).toArray⟩) ((u : Int),true):=by
 have hl:=dd_len20 u h
 have hp:=dd_pos u
 have hsz:=arr_szN (Lib.decDigits u)
 simp only [thresherref03_whole.f]
 refine Ev.neg (by rw [hsz];omega) ?_
 rw [decide_eq_false (by rw [hsz];omega)]
 refine Ev.succ ?_
 simp only [thresherref03_whole.j0]
 refine Ev.neg (by simp) ?_
 have:=whole_dig ⟨(Lib.decDigits u).toArray⟩ (by rw [hsz];omega) (fun c hc=>dd_dig u c hc) (Lib.decDigits u).length 0 0 (by rw [hsz];omega) (by show numOf 0 (Lib.decDigits u) < _;rw [numOf_dd];exact h)
 refine this.eq ?_
 show ((numOf 0 (Lib.decDigits u) : Int),true)=_
 rw [numOf_dd]
def halfV (c : Int) : Int:=if 48≤c∧c≤57 then c - 48 else if 97≤c∧c≤102 then c - 87 else -1
theorem half_ev (c : Int) (h0 : 0≤c) (h1 : c≤255) : Ev (fun k=>thresherref03_half.f k c) (halfV c):=by
 simp only [thresherref03_half.f]
 have low : ∀ b : Bool,b=false→¬ (48≤c∧c≤57)→Ev (fun k=>thresherref03_half.j0 k c b) (halfV c):=by
  intro b hb hn
  subst hb
  refine Ev.succ ?_
  simp only [thresherref03_half.j0]
  refine Ev.neg (by simp) ?_
  by_cases h3 : c ≥ 97
  ·refine Ev.pos h3 ?_
   by_cases h4 : c≤102
   ·exact Ev.pos h4 ((Ev.now _).eq (by unfold halfV;rw [if_neg hn,if_pos ⟨h3,h4⟩];omega))
   ·exact Ev.neg h4 ((Ev.now _).eq (by unfold halfV;rw [if_neg hn,if_neg (fun hh=>h4 hh.2)]))
  ·exact Ev.neg h3 ((Ev.now _).eq (by unfold halfV;rw [if_neg hn,if_neg (fun hh=>h3 hh.1)]))
 by_cases h2 : c ≥ 48
 ·refine Ev.pos h2 ?_
  by_cases h5 : c≤57
  ·rw [decide_eq_true h5]
   refine Ev.succ ?_
   simp only [thresherref03_half.j0]
   exact Ev.pos (by simp) ((Ev.now _).eq (by unfold halfV;rw [if_pos ⟨h2,h5⟩];omega))
  ·rw [decide_eq_false h5]
   exact low false rfl (by omega)
 ·exact Ev.neg h2 (low false rfl (by omega))
theorem half_hex (d : Nat) (h : d < 16) : halfV ((hexU d).toNat : Int)=d:=by
 have : ∀ d : Fin 16,halfV ((hexU d.val).toNat : Int)=d.val:=by decide +kernel
 exact this ⟨d,h⟩
theorem text_loop (s : ByteArray) (hs : s.size≤1000) : ∀ (d i : Nat) (l : List Int),s.size≤i + d→l.length≤i→i≤2000→∃ (b : ByteArray) (ok : Bool),Ev (fun k=>thresherref03_text.l0 k s l i) (0,b,ok):=by
 intro d
 induction d using Nat.strongRecOn with
 | _ d ih =>
  intro i l hi hl hi2
  by_cases hend : (i : Int) < wrap64 ((s.size : Int) - 1)
  ·rw [w64 (by omega) (by omega)] at hend
   have e0 : wrap64 ((s.size : Int) - 1)=(s.size : Int) - 1:=w64 (by omega) (by omega)
   have e1 : wrap64 ((i : Int) + 1)=((i + 1 : Nat) : Int):=by rw [w64 (by omega) (by omega)];omega
   have e2 : wrap64 ((i : Int) + 2)=((i + 2 : Nat) : Int):=by rw [w64 (by omega) (by omega)];omega
   have e3 : wrap64 (((i + 2 : Nat) : Int) + 1)=((i + 3 : Nat) : Int):=by rw [w64 (by omega) (by omega)];omega
   by_cases hc : bt s i=92
   ·have bad : ∀ b : Bool,b=true→Ev (fun k=>thresherref03_text.j1 k s l i b) (0,(⟨#[]⟩ : ByteArray),false):=by
     intro b hb
     subst hb
     refine Ev.succ ?_
     simp only [thresherref03_text.j1]
     exact Ev.pos (by simp) (Ev.now _)
    by_cases h2 : ((i + 2 : Nat) : Int) ≥ (s.size : Int)
    ·refine ⟨⟨#[]⟩,false,Ev.succ ?_⟩
     simp only [thresherref03_text.l0]
     rw [e0,e1,e2]
     exact Ev.pos hend (Ev.pos (by omega) (Ev.pos (by omega) (Ev.pos hc (Ev.pos h2 (bad true rfl)))))
    ·have b1:=bt_range s ((i + 1 : Nat) : Int)
     have b2:=bt_range s ((i + 2 : Nat) : Int)
     by_cases h3 : halfV (bt s ((i + 1 : Nat) : Int)) < 0
     ·refine ⟨⟨#[]⟩,false,Ev.succ ?_⟩
      simp only [thresherref03_text.l0]
      rw [e0,e1,e2]
      exact Ev.pos hend (Ev.pos (by omega) (Ev.pos (by omega) (Ev.pos hc (Ev.neg h2 (Ev.pos (by omega) (Ev.pos (by omega) (Ev.bind (half_ev _ b1.1 b1.2) (Ev.pos h3 (bad true rfl)))))))))
     ·by_cases h4 : halfV (bt s ((i + 2 : Nat) : Int)) < 0
      ·refine ⟨⟨#[]⟩,false,Ev.succ ?_⟩
       simp only [thresherref03_text.l0]
       rw [e0,e1,e2]
       exact Ev.pos hend (Ev.pos (by omega) (Ev.pos (by omega) (Ev.pos hc (Ev.neg h2 (Ev.pos (by omega) (Ev.pos (by omega) (Ev.bind (half_ev _ b1.1 b1.2) (Ev.neg h3 (Ev.pos (by omega) (Ev.pos (by omega) (Ev.bind (half_ev _ b2.1 b2.2) (bad _ (decide_eq_true h4)))))))))))))
      ·obtain ⟨b,ok,hb⟩:=ih (d - 3) (by omega) (i + 3) (l ++ [(wrap64 ((wrap64 (halfV (bt s ((i + 1 : Nat) : Int)) * 16)) + halfV (bt s ((i + 2 : Nat) : Int)))) % 256]) (by omega) (by simp;omega) (by omega)
       refine ⟨b,ok,Ev.succ ?_⟩
       simp only [thresherref03_text.l0]
       rw [e0,e1,e2]
       refine Ev.pos hend (Ev.pos (by omega) (Ev.pos (by omega) (Ev.pos hc (Ev.neg h2 (Ev.pos (by omega) (Ev.pos (by omega) (Ev.bind (half_ev _ b1.1 b1.2) (Ev.neg h3 (Ev.pos (by omega) (Ev.pos (by omega) (Ev.bind (half_ev _ b2.1 b2.2) ?_)))))))))))
       rw [decide_eq_false h4]
       refine Ev.succ ?_
       simp only [thresherref03_text.j1]
       rw [e1,e2,e3]
       exact Ev.neg (by simp) (Ev.pos (by omega) (Ev.pos (by omega) (Ev.bind (half_ev _ b1.1 b1.2) (Ev.pos (by omega) (Ev.pos (by omega) (Ev.bind (half_ev _ b2.1 b2.2) (Ev.pos (by omega) hb)))))))
   ·obtain ⟨b,ok,hb⟩:=ih (d - 1) (by omega) (i + 1) (l ++ [bt s i]) (by omega) (by simp;omega) (by omega)
    refine ⟨b,ok,Ev.succ ?_⟩
    simp only [thresherref03_text.l0]
    rw [e0,e1,e2]
    exact Ev.pos hend (Ev.pos (by omega) (Ev.pos (by omega) (Ev.neg hc (Ev.pos (by omega) hb))))
  ·refine ⟨strOfNums l,true,Ev.succ ?_⟩
   simp only [thresherref03_text.l0]
   exact Ev.neg hend (Ev.now _)
theorem text_all (s : ByteArray) (hs : s.size≤1000) : ∃ (b : ByteArray) (ok : Bool),Ev (fun k=>thresherref03_text.f k s) (0,b,ok):=by
 simp only [thresherref03_text.f]
 exact text_loop s hs s.size 1 [] (by omega) (by simp) (by omega)
theorem bt_mid (P Q : List UInt8) (c : UInt8) (i : Int) (h : i=(P.length : Int)) : bt ⟨(P ++ c :: Q).toArray⟩ i=(c.toNat : Int):=by
 subst h
 rw [bt_arr _ _ (by omega) (by rw [List.length_append,List.length_cons];omega)]
 congr 2
 simp only [Int.toNat_natCast]
 rw [List.getElem_append_right (Nat.le_refl _)]
 simp
theorem nums_str (l : List UInt8) : strOfNums (l.map fun c=>(c.toNat : Int))=⟨l.toArray⟩:=by
 unfold strOfNums
 rw [List.map_map]
 congr 2
 have : ((fun n : Int=>UInt8.ofNat n.toNat) ∘ fun c : UInt8=>(c.toNat : Int))=id:=by
  funext c
  simp
 rw [this,List.map_id]
set_option maxHeartbeats 2000000 in
theorem rquo_read : ∀ (l2 l1 P : List UInt8) (S : ByteArray),S=⟨(P ++ (l2.flatMap quo1 ++ [34])).toArray⟩→l1.length + l2.length≤1000→P.length + 3 * l2.length≤10000→Ev (fun k=>thresherref03_text.l0 k S (l1.map fun c=>(c.toNat : Int)) P.length) (0,⟨(l1 ++ l2).toArray⟩,true)
 | [],l1,P,S,hS,h1,h2=>by
  have hz : (S.size : Int)=(P.length : Int) + 1:=by rw [hS,arr_size];simp
  refine Ev.succ ?_
  simp only [thresherref03_text.l0]
  rw [hz,w64 (by omega) (by omega)]
  refine Ev.neg (by omega) ((Ev.now _).eq ?_)
  rw [nums_str,List.append_nil]
 | c :: l2,l1,P,S,hS,h1,h2=>by
  rw [List.flatMap_cons] at hS
  have hc:=c.toNat_lt
  simp only [List.length_cons] at h1 h2
  have hq:=quo_len l2
  have E1 : Aside0 (wrap64 ((P.length : Int) + 1)=(P.length : Int) + 1):=⟨w64 (by omega) (by omega)⟩
  cases he : esc c with
  | false =>
   rw [quo1_plain c he] at hS
   have hz : (S.size : Int)=(P.length : Int) + 2 + ((l2.flatMap quo1).length : Int):=by rw [hS,arr_size];simp;omega
   have hb : bt S (P.length : Int)=(c.toNat : Int):=by rw [hS];exact bt_mid P _ c _ rfl
   have hn : c.toNat≠92:=by simp only [esc,Bool.or_eq_false_iff,decide_eq_false_iff_not] at he;exact he.2
   have ih:=rquo_read l2 (l1 ++ [c]) (P ++ [c]) S (by rw [hS];simp) (by simp;omega) (by simp;omega)
   rw [List.map_append,List.length_append] at ih
   refine Ev.succ ?_
   simp only [thresherref03_text.l0]
   rw [hz,hb,w64 (by omega) (by omega),E1.out]
   refine Ev.pos (by omega) (Ev.pos (by omega) (Ev.pos (by omega) (Ev.neg (by omega) (Ev.pos (by rw [List.length_map];omega) ?_))))
   refine Ev.eq (Ev.rw ih ?_) (by simp)
   rfl
  | true =>
   rw [quo1_esc c he] at hS
   obtain ⟨p,hp⟩ : ∃ p : Nat,p=c.toNat / 16:=⟨_,rfl⟩
   obtain ⟨q,hq2⟩ : ∃ q : Nat,q=c.toNat % 16:=⟨_,rfl⟩
   rw [← hp,← hq2] at hS
   have hz : (S.size : Int)=(P.length : Int) + 4 + ((l2.flatMap quo1).length : Int):=by rw [hS,arr_size];simp;omega
   have b0 : bt S (P.length : Int)=92:=by rw [hS];exact bt_mid P _ 92 _ rfl
   have b1 : bt S ((P.length : Int) + 1)=((hexU p).toNat : Int):=by
    rw [hS,show P ++ ([92,hexU p,hexU q] ++ l2.flatMap quo1 ++ [34])=(P ++ [92]) ++ hexU p :: (hexU q :: (l2.flatMap quo1 ++ [34])) by simp]
    exact bt_mid _ _ _ _ (by simp)
   have b2 : bt S ((P.length : Int) + 2)=((hexU q).toNat : Int):=by
    rw [hS,show P ++ ([92,hexU p,hexU q] ++ l2.flatMap quo1 ++ [34])=(P ++ [92,hexU p]) ++ hexU q :: (l2.flatMap quo1 ++ [34]) by simp]
    exact bt_mid _ _ _ _ (by simp)
   have r1:=(hexU p).toNat_lt
   have r2:=(hexU q).toNat_lt
   have v1:=half_ev ((hexU p).toNat : Int) (by omega) (by omega)
   have v2:=half_ev ((hexU q).toNat : Int) (by omega) (by omega)
   rw [half_hex p (by omega)] at v1
   rw [half_hex q (by omega)] at v2
   have E2 : Aside0 (wrap64 ((P.length : Int) + 2)=(P.length : Int) + 2):=⟨w64 (by omega) (by omega)⟩
   have E3 : Aside0 (wrap64 ((P.length : Int) + 2 + 1)=(P.length : Int) + 3):=⟨by rw [w64 (by omega) (by omega)];omega⟩
   have EW : Aside0 ((wrap64 ((wrap64 ((p : Int) * 16)) + (q : Int))) % 256=(c.toNat : Int)):=⟨by
    rw [w64 (x:=(p : Int) * 16) (by omega) (by omega),w64 (by omega) (by omega)]
    omega⟩
   have ih:=rquo_read l2 (l1 ++ [c]) (P ++ [92,hexU p,hexU q]) S (by rw [hS];simp) (by simp;omega) (by simp;omega)
   rw [List.map_append,List.length_append] at ih
   refine Ev.succ ?_
   simp only [thresherref03_text.l0]
   rw [hz,b0,E1.out,E2.out,b1,b2,w64 (x:=(P.length : Int) + 4 + ((l2.flatMap quo1).length : Int) - 1) (by omega) (by omega)]
   refine Ev.pos (by omega) (Ev.pos (by omega) (Ev.pos (by omega) (Ev.pos rfl (Ev.neg (by omega) (Ev.pos (by omega) (Ev.pos (by omega) (Ev.bind v1 (Ev.neg (by omega) (Ev.pos (by omega) (Ev.pos (by omega) (Ev.bind v2 ?_)))))))))))
   rw [decide_eq_false (by omega)]
   refine Ev.succ ?_
   simp only [thresherref03_text.j1]
   rw [hz,E1.out,E2.out,b1,b2,E3.out]
   refine Ev.neg (by simp) (Ev.pos (by omega) (Ev.pos (by omega) (Ev.bind v1 (Ev.pos (by omega) (Ev.pos (by omega) (Ev.bind v2 (Ev.pos (by rw [List.length_map];omega) ?_)))))))
   rw [EW.out]
   refine Ev.eq (Ev.rw ih ?_) (by simp)
   rfl
theorem rtext_quo (l : List UInt8) (h : l.length≤60) : Ev (fun k=>thresherref03_text.f k ⟨(quoL l).toArray⟩) (0,⟨l.toArray⟩,true):=by
 simp only [thresherref03_text.f]
 exact (rquo_read l [] [34] _ rfl (by simp;omega) (by simp;omega)).eq (by simp)
theorem w64_GV (x : Int) (b : ByteArray) : GV (⟨wrap64 x,b⟩ : XV):=by
 constructor
 ·show -9223372036854775808≤wrap64 x
  unfold wrap64;omega
 ·show wrap64 x≤9223372036854775807
  unfold wrap64;omega
theorem toList_nil (s : ByteArray) : (s.toList == ([] : List UInt8))=decide (s.size=0):=by
 rw [Bool.eq_iff_iff,beq_iff_eq,decide_eq_true_iff,ByteArray.toList_eq]
 constructor
 ·intro h;have:=congrArg List.length h;simpa using this
 ·intro h;exact List.length_eq_zero_iff.1 (by simpa using h)
theorem j1_yes (t : Int) (s : ByteArray) (v : XV) (g : GV v) (h : textV t v=s) (h0 : s.size≠0) : Ev (fun k=>thresherref03_Read.j1 k t s true v.f0 v.f1) (v.f0,v.f1,true):=by
 refine Ev.succ ?_
 simp only [thresherref03_Read.j1]
 refine Ev.bind (rtext_ev t v g) (Ev.pos trivial (Ev.pos (by rw [h]) ?_))
 rw [toList_nil,decide_eq_false h0]
 refine Ev.succ ?_
 simp only [thresherref03_Read.j2]
 exact Ev.neg (by simp) (Ev.now _)
theorem j1_no (t : Int) (s : ByteArray) (hB : ∀ v : XV,GV v→fitT t v=true→textV t v≠s) (ok : Bool) (n : Int) (b : ByteArray) (g : GV (⟨n,b⟩ : XV)) : Ev (fun k=>thresherref03_Read.j1 k t s ok n b) (0,(⟨#[]⟩ : ByteArray),false):=by
 have no : ∀ f : Bool,f=true→Ev (fun k=>thresherref03_Read.j2 k f n b) (0,(⟨#[]⟩ : ByteArray),false):=by
  intro f hf
  subst hf
  refine Ev.succ ?_
  simp only [thresherref03_Read.j2]
  exact Ev.pos (by simp) (Ev.now _)
 refine Ev.succ ?_
 simp only [thresherref03_Read.j1]
 refine Ev.bind (rtext_ev t ⟨n,b⟩ g) ?_
 by_cases h1 : ok=true
 ·refine Ev.pos h1 ?_
  by_cases h2 : (textV t ⟨n,b⟩).toList=s.toList
  ·refine Ev.pos h2 (no _ ?_)
   rw [toList_nil,decide_eq_true_iff]
   have e : textV t ⟨n,b⟩=s:=bytes_eq h2
   by_cases hf : fitT t ⟨n,b⟩=true
   ·exact absurd e (hB _ g hf)
   ·rw [← e]
    unfold textV
    rw [if_neg hf]
    rfl
  ·exact Ev.neg h2 (no _ rfl)
 ·exact Ev.neg h1 (no _ rfl)
theorem p_GV (t : Int) (s : ByteArray) (v : Int × ByteArray) (h : value_Read.p t s=some v) : GV (⟨v.1,v.2⟩ : XV):=by
 unfold value_Read.p at h
 split at h
 ·split at h
  ·rename_i n hn
   have e:=Option.some.inj h
   rw [← e]
   exact pint_rng _ n hn
  ·cases h
 ·split at h
  ·split at h
   ·have e:=Option.some.inj h
    rw [← e]
    exact w64_GV _ _
   ·cases h
  ·split at h
   ·have e:=Option.some.inj h
    rw [← e]
    exact ⟨by show (-9223372036854775808 : Int)≤0;omega,by show (0 : Int)≤_;omega⟩
   ·cases h
theorem both_read (t : Int) (s : ByteArray) (hs : s.size≤1000) : ∃ r : Int × ByteArray × Bool,value_Read.f t s=some r∧Ev (fun k=>thresherref03_Read.f k t s) r:=by
 by_cases hA : ∃ v : XV,GV v∧fitT t v=true∧textV t v=s
 ·obtain ⟨v,g,hf,hv⟩:=hA
  have ht:=fit_three hf
  obtain ⟨s',q1,q2,q3,q4⟩:=text_fit t (by omega) (by omega) v hf g
  have e : s'=s:=by
   rw [ptext_ev t v g,hv] at q1
   exact (Option.some.inj q1).symm
  subst e
  refine ⟨(v.f0,v.f1,true),read_fit q1 q2 q3 q4,?_⟩
  have last:=j1_yes t s' v g hv q2
  simp only [thresherref03_Read.f]
  rcases ht with rfl|rfl|rfl
  ·refine Ev.neg (by decide) (Ev.pos (by omega) (Ev.pos (by omega) ?_))
   have b0 : v.f1=⟨#[]⟩:=fit_empty hf (by decide)
   have hv2 : s'=⟨(Lib.itoa v.f0).toArray⟩:=by rw [← hv];unfold textV;rw [if_pos hf,if_pos rfl]
   rw [b0] at last ⊢
   obtain ⟨g0,g1⟩:=g
   by_cases hn : v.f0 < 0
   ·have hi : Lib.itoa v.f0=45 :: Lib.decDigits v.f0.natAbs:=by unfold Lib.itoa;rw [if_pos hn]
    have hb : bt s' 0=45:=by rw [hv2,hi];exact bt_mid [] _ 45 0 rfl
    rw [hb,show ((45 : Int) == 45)=true from rfl]
    refine Ev.succ ?_
    simp only [thresherref03_Read.j0]
    have hcut : s'.extract 1 s'.size=⟨(Lib.decDigits v.f0.natAbs).toArray⟩:=by
     rw [hv2,hi,arr_cut,List.take_of_length_le (by rw [arr_szN];exact Nat.le_refl _)]
     rfl
    rw [hcut]
    refine Ev.pos (by simp) (Ev.pos (by omega) (Ev.bind (whole_dd v.f0.natAbs (by omega)) ?_))
    have ew : wrap64 (IntKind.u64.wrap (-((v.f0.natAbs : Nat) : Int)))=v.f0:=by
     rw [IntKind.wrap_u64]
     unfold wrap64
     omega
    simp only [ew]
    exact last
   ·have hi : Lib.itoa v.f0=Lib.decDigits v.f0.toNat:=by unfold Lib.itoa;rw [if_neg hn]
    have hb : (bt s' 0 == 45)=false:=by
     rw [beq_eq_false_iff_ne,hv2,hi]
     have hd:=dd_dig v.f0.toNat
     rcases hl : Lib.decDigits v.f0.toNat with _|⟨c,r⟩
     ·exact absurd hl (dd_ne _)
     ·rw [hl] at hd
      have:=hd c (List.mem_cons_self ..)
      have hb2 : bt (⟨(c :: r).toArray⟩ : ByteArray) 0=(c.toNat : Int):=bt_mid [] r c 0 rfl
      rw [hb2]
      omega
    rw [hb]
    refine Ev.succ ?_
    simp only [thresherref03_Read.j0]
    rw [hv2,hi] at last ⊢
    refine Ev.neg (by simp) (Ev.bind (whole_dd v.f0.toNat (by omega)) ?_)
    have ew : wrap64 ((v.f0.toNat : Nat) : Int)=v.f0:=by
     unfold wrap64
     omega
    simp only [ew]
    exact last
  ·refine Ev.neg (by decide) (Ev.pos (by omega) (Ev.pos (by omega) ?_))
   have b0 : v.f1=⟨#[]⟩:=fit_empty hf (by decide)
   have hv2 : s'=⟨(Lib.decDigits (v.f0 % 18446744073709551616).toNat).toArray⟩:=by rw [← hv];unfold textV;rw [if_pos hf,if_neg (by decide),if_pos rfl]
   rw [b0] at last ⊢
   obtain ⟨g0,g1⟩:=g
   obtain ⟨u,hu⟩ : ∃ u : Nat,u=(v.f0 % 18446744073709551616).toNat:=⟨_,rfl⟩
   rw [← hu] at hv2
   have hb : (bt s' 0 == 45)=false:=by
    rw [beq_eq_false_iff_ne,hv2]
    have hd:=dd_dig u
    rcases hl : Lib.decDigits u with _|⟨c,r⟩
    ·exact absurd hl (dd_ne _)
    ·rw [hl] at hd
     have:=hd c (List.mem_cons_self ..)
     have hb2 : bt (⟨(c :: r).toArray⟩ : ByteArray) 0=(c.toNat : Int):=bt_mid [] r c 0 rfl
     rw [hb2]
     omega
   rw [hb]
   refine Ev.succ ?_
   simp only [thresherref03_Read.j0]
   rw [hv2] at last ⊢
   refine Ev.neg (by simp) (Ev.bind (whole_dd u (by omega)) ?_)
   have ew : wrap64 ((u : Nat) : Int)=v.f0:=by
    rw [hu]
    unfold wrap64
    omega
   simp only [ew]
   exact last
  ·have a0 : v.f0=0:=fit_zero hf rfl
   have a1 : v.f1.size≤60:=by
    unfold fitT at hf
    rw [if_neg (by decide),if_pos rfl,if_pos a0,decide_eq_true_iff] at hf
    omega
   have hv2 : s'=⟨(quoL v.f1.data.toList).toArray⟩:=by rw [← hv];unfold textV;rw [if_pos hf,if_neg (by decide),if_neg (by decide)]
   refine Ev.pos rfl ?_
   rw [hv2] at last ⊢
   have e1 : (⟨v.f1.data.toList.toArray⟩ : ByteArray)=v.f1:=by apply ByteArray.ext;simp
   have hr:=rtext_quo v.f1.data.toList (by simpa using a1)
   rw [e1] at hr
   refine Ev.bind hr ?_
   rw [a0] at last ⊢
   exact last
 ·have hB : ∀ v : XV,GV v→fitT t v=true→textV t v≠s:=fun v g hf e=>hA ⟨v,g,hf,e⟩
  clear hA
  refine ⟨(0,⟨#[]⟩,false),?_,?_⟩
  ·unfold value_Read.f
   rw [if_pos hs]
   cases hp : value_Read.p t s with
   | none=>rfl
   | some v =>
    have g:=p_GV t s v hp
    simp only
    rw [if_neg]
    rintro ⟨h0,h1⟩
    rw [ptext_ev t ⟨v.1,v.2⟩ g] at h1
    have e:=Option.some.inj h1
    by_cases hf : fitT t ⟨v.1,v.2⟩=true
    ·exact hB _ g hf e
    ·apply h0
     rw [← e]
     unfold textV
     rw [if_neg hf]
     rfl
  ·simp only [thresherref03_Read.f]
   have j0n : Ev (fun k=>thresherref03_Read.j0 k t s false) (0,(⟨#[]⟩ : ByteArray),false):=by
    refine Ev.succ ?_
    simp only [thresherref03_Read.j0]
    obtain ⟨y,b,hy,y0,y1⟩:=whole_any s hs
    exact Ev.neg (by simp) (Ev.bind hy (j1_no t s hB _ _ _ (w64_GV _ _)))
   by_cases h3 : t=3
   ·obtain ⟨b,ok,hb⟩:=text_all s hs
    exact Ev.pos h3 (Ev.bind hb (j1_no t s hB _ _ _ ⟨by show (-9223372036854775808 : Int)≤0;omega,by show (0 : Int)≤_;omega⟩))
   ·refine Ev.neg h3 ?_
    by_cases h4 : (s.size : Int) > 0
    ·refine Ev.pos h4 (Ev.pos (by omega) ?_)
     cases hb : (bt s 0 == 45) with
     | false=>exact j0n
     | true =>
      refine Ev.succ ?_
      simp only [thresherref03_Read.j0]
      obtain ⟨y,b,hy,y0,y1⟩:=whole_any (s.extract 1 s.size) (by rw [ByteArray.size_extract];omega)
      exact Ev.pos (by simp) (Ev.pos (by omega) (Ev.bind hy (j1_no t s hB _ _ _ (w64_GV _ _))))
    ·exact Ev.neg h4 j0n
end Go.Proofs.YtifpjhghbafcjaaDoor.P

/- The values' layer is as the document says: the plain law. -/
namespace Go.Proofs.YtifpjhghbafcjaaDoor.Pure
open Go.RowKit Go.Proofs.YtifpjhghbafcjaaDoor.P Go.Proofs.YtifpjhghbafcjaaDoorW.PrintWords Go.Proofs.YtifpjhghbafcjaaDoorW.PrintLast
set_option linter.unusedVariables false
def some4 (v : XV) : XV:=⟨v.f0,if (v.f1.size : Int) > 100 then v.f1.extract 0 100 else v.f1⟩
theorem some4_f (v : XV) : thresherlaw03_some.f v.f0 v.f1=some ((some4 v).f0,(some4 v).f1):=by
 unfold thresherlaw03_some.f some4
 by_cases h : (v.f1.size : Int) > 100
 ·rw [if_pos h,if_pos (by omega),if_pos (by omega),if_pos h]
 ·rw [if_neg h,if_neg h]
theorem some4_size (v : XV) : (some4 v).f1.size≤100:=by
 unfold some4
 show (if (v.f1.size : Int) > 100 then v.f1.extract 0 100 else v.f1).size≤100
 split
 ·rw [ByteArray.size_extract];omega
 ·omega
theorem some4_GV (v : XV) (h : GV v) : GV (some4 v):=h
theorem short_f (s : ByteArray) : ∃ q : ByteArray,thresherlaw03_short.f s=some q∧q.size≤200:=by
 unfold thresherlaw03_short.f
 by_cases h : (s.size : Int) > 200
 ·exact ⟨s.extract 0 200,by rw [if_pos h,if_pos (by omega),if_pos (by omega)],by rw [ByteArray.size_extract];omega⟩
 ·exact ⟨s,by rw [if_neg h],by omega⟩
theorem radd_ev (t : Int) (a b : XV) : Ev (fun k=>thresherref03_Add.f k t a.f0 a.f1 b.f0 b.f1) ((addV t a b).f0,(addV t a b).f1):=by
 simp only [thresherref03_Add.f]
 refine Ev.bind (both_ev t a b) ?_
 by_cases h : fitT t a=true∧fitT t b=true
 ·refine Ev.pos (by rw [h.1,h.2];rfl) ?_
  have e:=addV_fit t a b h.1 h.2
  by_cases e3 : t=3
  ·rw [if_pos e3] at e
   rw [e]
   exact Ev.pos e3 (Ev.now _)
  ·rw [if_neg e3] at e
   rw [e]
   exact Ev.neg e3 (Ev.now _)
 ·rw [addV_not t a b h]
  exact Ev.neg (fun q=>h (by simpa using q)) (Ev.now _)
theorem ValueAll : thresherlaw03_ValueAll.PureG:=by
 intro t l s _ ⟨⟨g1,_⟩,⟨g2,_⟩⟩ _
 have n1 : GV (some4 l.f0):=some4_GV _ (wf_i64 g1)
 have n2 : GV (some4 l.f1):=some4_GV _ (wf_i64 g2)
 have z1:=some4_size l.f0
 apply Ev.rounds
 simp only [thresherlaw03_ValueAll.f]
 obtain ⟨q,hq,hq2⟩:=short_f s
 obtain ⟨⟨rn,rb,rk⟩,r1,r2⟩:=both_read t q (by omega)
 refine Ev.bind shown_ev (Ev.bindc (some4_f l.f0) (Ev.bindc (some4_f l.f1) (Ev.bindc hq (Ev.bindc r1 (Ev.bind r2 ?_)))))
 obtain ⟨a,ha⟩ : ∃ a,a=some4 l.f0:=⟨_,rfl⟩
 obtain ⟨b,hb⟩ : ∃ b,b=some4 l.f1:=⟨_,rfl⟩
 rw [← ha] at n1 z1 ⊢
 rw [← hb] at n2 ⊢
 clear ha hb
 have c1:=vcmp_ev t a b
 have c2:=rcmp_ev t a b n1 n2 (by omega)
 refine Ev.bind (vfits_ev t a.f0 a.f1) (Ev.bind (rfits_ev t a.f0 a.f1) (Ev.pos (by simp) (Ev.bind c1 (Ev.bind c2 (Ev.pos rfl (Ev.bind (add_ev t a b) (Ev.bind (radd_ev t a b) ?_)))))))
 refine Ev.succ ?_
 simp only [thresherlaw03_ValueAll.j0]
 refine Ev.pos trivial (Ev.pos (by simp) (Ev.bindc (ptext_ev t a n1) (Ev.bind (rtext_ev t a n1) (Ev.pos rfl (Ev.pos (by simp) ?_)))))
 refine Ev.succ ?_
 simp only [thresherlaw03_ValueAll.j1]
 exact (Ev.now _).eq (by simp)
end Go.Proofs.YtifpjhghbafcjaaDoor.Pure

namespace Go.Proofs.YtifpjhghbafcjaaDoor.valueAll
open Go.ChangeShapes Go.WideShapes Go.ChangeAt Go.RowKit Go.Proofs.YtifpjhghbafcjaaDoor.P Go.Proofs.YtifpjhghbafcjaaDoorW.PrintWords
set_option linter.unusedVariables false
set_option linter.unusedSimpArgs false
theorem own : ownKnob Tryd.prog.godebug=none:=by kernel_rfl
theorem laidOut : laidOutB Tryd.prog=true:=by kernel_rfl
set_option maxRecDepth 100000 in
theorem lifted (os : Os) (started : os.Started) (H : Type) (enc : TypeId × Value→H) :
  ReturnsInHanded {} Tryd.checked os 8 .any (fun w args=>(Rows.valueAllSpec.pre enc Tryd.prog Tryd.f8 Rows.valueAllRow.domain false w args∧laidMetH Tryd.prog laid5 w)∧sizedMet enc Tryd.prog Tryd.f8 (OpenSpec.ofChange Rows.valueAllSpec) false w args) (Rows.valueAllSpec.post enc Tryd.prog Tryd.f8 false true false false):=by
 refine returnsInHanded_of_change_and (C:=Tryd.checked) (X:=fun w _=>laidMetH Tryd.prog laid5 w) (fun _ _ _ hh h=>h.of_heap hh) own started (by kernel_rfl) Tryd.func8
  (ChangeSpec.witness_shaped (enc:=enc) (C:=Tryd.checked) (os:=os) (X:=fun w _=>laidMetH Tryd.prog laid5 w) false (World.doorLaid Tryd.prog 62 os) #[.int .i64 0,.agg #[.int .i64 0,.string ByteArray.empty,.int .i64 0,.string ByteArray.empty],.string ByteArray.empty] 8 rfl (World.shaped_of_RefB (by kernel_rfl) (by kernel_rfl)) (by kernel_rfl) (by kernel_rfl) (by kernel_rfl) (door5_met os _)) ?_
 intro W base args ds gs before hval0 hW hcnd hsz0 hL _
 have htab:=tabsE_of_laid hL
 have hval : ∀ (j : Nat) t v,Tryd.f8.params[j]?=some t→args[j]?=some v→Value.okWide Tryd.prog W .any base t v:=hval0
 have hW':=hW
 obtain ⟨p,q,hA0,hV,rfl,hfz,hnd⟩:=hW
 have hA : DataW.TrodAll enc Tryd.prog W 0 (fun _=>true) true Tryd.f8.params.toList args.toList ds p:=hA0
 rw [Tryd.params8] at hA hval
 obtain ⟨v0,vs0,d0,ds0,p0,q0,hargs,rfl,rfl,h0,r0⟩:=trodAll_cons hA
 obtain ⟨v1,vs1,d1,ds1,p1,q1,rfl,rfl,rfl,h1,r1⟩:=trodAll_cons r0
 obtain ⟨v2,vs2,d2,ds2,p2,q2,rfl,rfl,rfl,h2,r2⟩:=trodAll_cons r1
 obtain ⟨rfl,rfl,rfl⟩:=trodAll_nil r2
 obtain rfl : args=#[v0,v1,v2]:=by cases args;simp_all
 obtain ⟨rfl,rfl⟩:=trodVars_none hV
 have lt0 : ∀ x ∈ p0,x.block < W.heap.size:=by obtain ⟨m,hm⟩:=h0;exact DataW.trod_lt m _ _ _ hm
 obtain ⟨x0,K0,g0⟩:=((opens_int Tryd.underlying3)).arg h0
 obtain ⟨b0,rfl⟩:=okWide_int Tryd.underlying3 (hval 0 3 v0 rfl rfl)
 have e0 : b0=x0:=by simpa [Value.cells,Kd.int,Kd.scalar] using K0
 subst e0
 have lt1 : ∀ x ∈ p1,x.block < W.heap.size:=by obtain ⟨m,hm⟩:=h1;exact DataW.trod_lt m _ _ _ hm
 obtain ⟨x1,K1,g1⟩:=(op35).arg h1
 obtain ⟨cs1,rfl⟩:=okWide_aggA Tryd.underlying35 (hval 1 35 v1 rfl rfl)
 have e1:=k35_open K1
 replace e1:=agg_of e1
 have lt2 : ∀ x ∈ p2,x.block < W.heap.size:=by obtain ⟨m,hm⟩:=h2;exact DataW.trod_lt m _ _ _ hm
 obtain ⟨x2,K2,g2⟩:=((opens_string Tryd.underlying9)).arg h2
 obtain ⟨b2,rfl⟩:=okWide_string Tryd.underlying9 (hval 2 9 v2 rfl rfl)
 have e2 : b2=x2:=by simpa [Value.cells,Kd.string,Kd.scalar] using K2
 subst e2
 obtain ⟨k,hk⟩:=Pure.ValueAll b0 x1 b2 g0 g1 g2
 have call : Calls Tryd.prog 8 #[.int .i64 b0,.agg cs1,.string b2] W fun e W'=>e=.returned (.bool true)∧Below W.heap.size W W':=by
  rw [e1]
  refine (thresherlaw03_ValueAll.calls k _ _ _ _ _ _ true W hk htab).mono ?_
  rintro e w' ⟨rfl,hd⟩
  exact ⟨rfl,hd⟩
 refine call.mono fun e W' ⟨he,bel⟩=>?_
 subst he
 exact ⟨_,rfl,_,_,_,[],_,[],hW',trodAll_mk1 (shut_bool Tryd.underlying4 _),(trodAll_cons_mk (Below.trod laidOut (by kernel_rfl) (of_decide_eq_true (by kernel_rfl)) h0 bel lt0) (trodAll_cons_mk (Below.trod laidOut (by kernel_rfl) (of_decide_eq_true (by kernel_rfl)) h1 bel lt1) (trodAll_cons_mk (Below.trod laidOut (by kernel_rfl) (of_decide_eq_true (by kernel_rfl)) h2 bel lt2) trodAll_mk0))),rfl,bel.frame _,fun h=>by cases h⟩
theorem over : Rows.valueAllRow.holds Tryd.pinned (OpenSpec.ofChange Rows.valueAllSpec) :=
 OpenClaim.holds_of_wide 8 Tryd.f8 rfl rfl rfl rfl rfl rfl rfl ⟨rfl,rfl,rfl,rfl,rfl⟩ rfl rfl rfl rfl rfl (by kernel_rfl) Tryd.func8 (by kernel_rfl)
  (of_decide_eq_true (by kernel_rfl)) (by unfold Func.isWrapper;first|(rw [if_pos (by decide +kernel)];kernel_rfl)|(rw [if_neg (by decide +kernel)];exact ⟨rfl,rfl⟩))
  (fun os started H enc _=>lifted os started H enc)
theorem carded : Rows.ValueAllCardSaid :=
 Claim7.holds_tied_plain_at .later [] [.data,.data,.data,.sentinel,.sentinel] true (true,"bb69a14ecfbc10d91511e1de1cac401641993d3163807c3ed32958c36fab5aed") true
  over (fun _ h=>by cases h) (by kernel_rfl) (fun _ h=>by cases h) valueAll_row_tie rfl ⟨rfl,rfl⟩ (by kernel_rfl) rfl
  (fun f fn hf hfn=>by
   obtain rfl : f=8:=Option.some.inj ((show Tryd.prog.funcNamed Tryd.f8.name=some 8 by kernel_rfl).symm.trans hf) |>.symm
   obtain rfl : fn=Tryd.f8:=(Option.some.inj (Tryd.func8.symm.trans hfn)).symm
   exact ⟨by kernel_rfl,fun j t ht=>by
    rw [Tryd.params8] at ht
    have hm : t ∈ [3,35,9]:=by simpa using Array.mem_of_getElem? ht
    have hall : ([3,35,9].all fun u=>!Tryd.prog.wantsStandIn u)=true:=by kernel_rfl
    exact (show Tryd.prog.wantsStandIn t=false by simpa using List.all_eq_true.1 hall t hm)⟩)
  (by kernel_rfl)
#print axioms carded
end Go.Proofs.YtifpjhghbafcjaaDoor.valueAll
namespace Go.Proofs.YtifpjhghbafcjaaDoor
theorem valueAll_holds : Rows.ValueAllCardSaid:=valueAll.carded
end Go.Proofs.YtifpjhghbafcjaaDoor

