/- Texts of OrderPlaces. Merged: XOrd. -/
import Derived.Lib.Bytealg
import Derived.Test.YtojbeofipedolaaQOrderPlacesXBase
/- The order of values and of rows. -/
namespace Go.Proofs.Ytojbeofipedolaa.P
open Go.RowKit Go.Proofs.YtojbeofipedolaaW.PrintWords Go.Proofs.YtojbeofipedolaaW.PrintLast Go.Proofs.YtojbeofipedolaaW.PrintMore
set_option linter.unusedVariables false
set_option linter.unusedSimpArgs false
theorem u8_tri (a b : UInt8) : (a < b∧¬ b < a) ∨ (b < a∧¬ a < b) ∨ (a=b∧¬ a < b∧¬ b < a):=by
 rcases Nat.lt_trichotomy a.toNat b.toNat with h|h|h
 ·exact Or.inl ⟨UInt8.lt_iff_toNat_lt.mpr h,fun h2=>by have:=UInt8.lt_iff_toNat_lt.mp h2;omega⟩
 ·have e : a=b:=UInt8.toNat_inj.mp h
  subst e
  exact Or.inr (Or.inr ⟨rfl,fun h2=>by have:=UInt8.lt_iff_toNat_lt.mp h2;omega,fun h2=>by have:=UInt8.lt_iff_toNat_lt.mp h2;omega⟩)
 ·exact Or.inr (Or.inl ⟨UInt8.lt_iff_toNat_lt.mpr h,fun h2=>by have:=UInt8.lt_iff_toNat_lt.mp h2;omega⟩)
theorem cb_anti : ∀ a b : List UInt8,Lib.compareBytes b a=- Lib.compareBytes a b
 | [],[]=>by simp [Lib.compareBytes]
 | [],_ :: _=>by simp [Lib.compareBytes]
 | _ :: _,[]=>by simp [Lib.compareBytes]
 | a :: xs,b :: ys=>by
  unfold Lib.compareBytes
  rcases u8_tri a b with ⟨h1,h2⟩|⟨h1,h2⟩|⟨h0,h1,h2⟩
  ·rw [if_neg h2,if_pos h1,if_pos h1];rfl
  ·rw [if_pos h1,if_neg h2,if_pos h1]
  ·rw [if_neg h2,if_neg h1,if_neg h1,if_neg h2];exact cb_anti xs ys
theorem cb_zero : ∀ a b : List UInt8,Lib.compareBytes a b=0 ↔ a=b
 | [],[]=>by simp [Lib.compareBytes]
 | [],_ :: _=>by simp [Lib.compareBytes]
 | _ :: _,[]=>by simp [Lib.compareBytes]
 | a :: xs,b :: ys=>by
  unfold Lib.compareBytes
  rcases u8_tri a b with ⟨h1,h2⟩|⟨h1,h2⟩|⟨h0,h1,h2⟩
  ·rw [if_pos h1]
   exact ⟨fun h=>by omega,fun h=>absurd h1 (by rw [(List.cons.inj h).1] at h2 ⊢;rw [(List.cons.inj h).1] at h1;exact h2)⟩
  ·rw [if_neg h2,if_pos h1]
   exact ⟨fun h=>by omega,fun h=>absurd h1 (by rw [(List.cons.inj h).1] at h1;rw [(List.cons.inj h).1] at h2;exact absurd h1 h2)⟩
  ·rw [if_neg h1,if_neg h2,cb_zero xs ys,h0]
   exact ⟨fun h=>by rw [h],fun h=>(List.cons.inj h).2⟩
theorem cb_trans : ∀ a b c : List UInt8,Lib.compareBytes a b≤0→Lib.compareBytes b c≤0→Lib.compareBytes a c≤0
 | [],_,[],_,_=>by simp [Lib.compareBytes]
 | [],_,_ :: _,_,_=>by simp [Lib.compareBytes]
 | _ :: _,[],_,h,_=>by simp [Lib.compareBytes] at h
 | _ :: _,_ :: _,[],_,h=>by simp [Lib.compareBytes] at h
 | a :: xs,b :: ys,c :: zs,h1,h2=>by
  unfold Lib.compareBytes at h1 h2 ⊢
  rcases u8_tri a b with ⟨p1,p2⟩|⟨p1,p2⟩|⟨p0,p1,p2⟩
  ·rcases u8_tri b c with ⟨q1,q2⟩|⟨q1,q2⟩|⟨q0,q1,q2⟩
   ·rw [if_pos (UInt8.lt_trans p1 q1)];omega
   ·rw [if_neg q2,if_pos q1] at h2;omega
   ·subst q0;rw [if_pos p1];omega
  ·rw [if_neg p2,if_pos p1] at h1;omega
  ·subst p0
   rw [if_neg p1,if_neg p2] at h1
   rcases u8_tri a c with ⟨q1,q2⟩|⟨q1,q2⟩|⟨q0,q1,q2⟩
   ·rw [if_pos q1];omega
   ·rw [if_neg q2,if_pos q1] at h2;omega
   ·rw [if_neg q1,if_neg q2] at h2 ⊢
    exact cb_trans xs ys zs h1 h2
def GV (v : XV) : Prop:=-9223372036854775808≤v.f0∧v.f0≤9223372036854775807
def sgn (x y : Int) : Int:=if x < y then -1 else if x > y then 1 else 0
def un (x : Int) : Int:=x % 18446744073709551616
def cmpV (t : Int) (a b : XV) : Int:=if fitT t a=true∧fitT t b=true then (if t=3 then Lib.compareBytes a.f1.data.toList b.f1.data.toList else if t=2 then sgn (un a.f0) (un b.f0) else sgn a.f0 b.f0) else 0
theorem cmpV_anti (t : Int) (a b : XV) : cmpV t b a=- cmpV t a b:=by
 unfold cmpV
 by_cases h : fitT t a=true∧fitT t b=true
 ·rw [if_pos h,if_pos h.symm]
  split
  ·exact cb_anti _ _
  ·split <;> (unfold sgn;split <;> split <;> (try split) <;> omega)
 ·rw [if_neg h,if_neg (fun q=>h q.symm)]
  rfl
theorem fit_empty {t : Int} {a : XV} (h : fitT t a=true) (h3 : t≠3) : a.f1=⟨#[]⟩:=by
 unfold fitT at h
 split at h
 ·have h2 : a.f1.toList=[]:=by simpa using h
  exact bytes_eq (by rw [h2];simp [ByteArray.toList_eq])
 ·first|exact absurd h (by simp)|(rw [if_neg h3] at h;exact absurd h (by simp))
theorem fit_zero {t : Int} {a : XV} (h : fitT t a=true) (h3 : t=3) : a.f0=0:=by
 subst h3
 unfold fitT at h
 rw [if_neg (by omega),if_pos rfl] at h
 split at h
 ·assumption
 ·exact absurd h (by simp)
theorem XV.ext2 {a b : XV} (h0 : a.f0=b.f0) (h1 : a.f1=b.f1) : a=b:=by cases a;cases b;simp only at h0 h1;rw [h0,h1]
theorem cmpV_zero (t : Int) (a b : XV) (ha : fitT t a=true) (hb : fitT t b=true) (ga : GV a) (gb : GV b) : cmpV t a b=0 ↔ a=b:=by
 unfold cmpV
 rw [if_pos ⟨ha,hb⟩]
 obtain ⟨g1,g2⟩:=ga
 obtain ⟨g3,g4⟩:=gb
 by_cases e : t=3
 ·rw [if_pos e,cb_zero]
  exact ⟨fun h=>XV.ext2 (by rw [fit_zero ha e,fit_zero hb e]) (ByteArray.ext (Array.toList_inj.mp h)),fun h=>by rw [h]⟩
 ·rw [if_neg e]
  have key : a=b ↔ a.f0=b.f0:=⟨fun h=>by rw [h],fun h=>XV.ext2 h (by rw [fit_empty ha e,fit_empty hb e])⟩
  rw [key]
  split
  ·unfold sgn un;split <;> (try split) <;> omega
  ·unfold sgn;split <;> (try split) <;> omega
theorem sgn_trans (x y z : Int) : sgn x y≤0→sgn y z≤0→sgn x z≤0:=by
 unfold sgn
 intro h1 h2
 split
 ·omega
 ·split
  ·exfalso
   by_cases p : x < y
   ·by_cases q : y < z
    ·omega
    ·rw [if_neg q] at h2
     by_cases r : y > z
     ·rw [if_pos r] at h2;omega
     ·omega
   ·rw [if_neg p] at h1
    by_cases r : x > y
    ·rw [if_pos r] at h1;omega
    ·by_cases q : y < z
     ·omega
     ·rw [if_neg q] at h2
      by_cases r : y > z
      ·rw [if_pos r] at h2;omega
      ·omega
  ·omega
def cmpC (t : Int) (a b : XV) : Int:=if t=3 then Lib.compareBytes a.f1.data.toList b.f1.data.toList else if t=2 then sgn (un a.f0) (un b.f0) else sgn a.f0 b.f0
theorem cmpV_fit {t : Int} {a b : XV} (ha : fitT t a=true) (hb : fitT t b=true) : cmpV t a b=cmpC t a b:=by
 unfold cmpV cmpC
 rw [if_pos ⟨ha,hb⟩]
theorem cmpV_trans (t : Int) (a b c : XV) (ha : fitT t a=true) (hb : fitT t b=true) (hc : fitT t c=true) : cmpV t a b≤0→cmpV t b c≤0→cmpV t a c≤0:=by
 rw [cmpV_fit ha hb,cmpV_fit hb hc,cmpV_fit ha hc]
 unfold cmpC
 by_cases e : t=3
 ·rw [if_pos e,if_pos e,if_pos e]
  exact cb_trans _ _ _
 ·rw [if_neg e,if_neg e,if_neg e]
  by_cases e2 : t=2
  ·rw [if_pos e2,if_pos e2,if_pos e2]
   exact sgn_trans _ _ _
  ·rw [if_neg e2,if_neg e2,if_neg e2]
   exact sgn_trans _ _ _
def cmpFrom (T : List Int) (a b : List XV) : Nat→Nat→Int
 | 0,_=>0
 | m + 1,i=>if cmpV (rd T i) (rdV a i) (rdV b i)=0 then cmpFrom T a b m (i + 1) else cmpV (rd T i) (rdV a i) (rdV b i)
def cmpRow (T : List Int) (K : Int) (a b : List XV) : Int:=cmpFrom T a b (min (min (min K.toNat T.length) a.length) b.length) 0
theorem cmpFrom_anti (T : List Int) (a b : List XV) : ∀ m i,cmpFrom T b a m i=- cmpFrom T a b m i
 | 0,i=>by simp [cmpFrom]
 | m + 1,i=>by
  unfold cmpFrom
  rw [cmpV_anti _ (rdV a i) (rdV b i),cmpFrom_anti T a b m (i + 1)]
  by_cases h : cmpV (rd T i) (rdV a i) (rdV b i)=0
  ·rw [if_pos (by omega),if_pos h]
  ·rw [if_neg (by omega),if_neg h]
def FitAt (T : List Int) (a : List XV) (m i : Nat) : Prop:=∀ j : Nat,i≤j→j < i + m→fitT (rd T j) (rdV a j)=true∧GV (rdV a j)
theorem FitAt.tail {T : List Int} {a : List XV} {m i : Nat} (h : FitAt T a (m + 1) i) : FitAt T a m (i + 1):=fun j h1 h2=>h j (by omega) (by omega)
theorem cmpFrom_trans (T : List Int) (a b c : List XV) : ∀ m i,FitAt T a m i→FitAt T b m i→FitAt T c m i→cmpFrom T a b m i≤0→cmpFrom T b c m i≤0→cmpFrom T a c m i≤0
 | 0,i,_,_,_=>by simp [cmpFrom]
 | m + 1,i,ha,hb,hc=>by
  obtain ⟨a1,a2⟩:=ha i (by omega) (by omega)
  obtain ⟨b1,b2⟩:=hb i (by omega) (by omega)
  obtain ⟨c1,c2⟩:=hc i (by omega) (by omega)
  have ih:=cmpFrom_trans T a b c m (i + 1) ha.tail hb.tail hc.tail
  have t1:=cmpV_trans (rd T i) _ _ _ a1 b1 c1
  have t2:=cmpV_trans (rd T i) _ _ _ c1 a1 b1
  have t3:=cmpV_trans (rd T i) _ _ _ b1 c1 a1
  have z1:=cmpV_zero _ _ _ a1 b1 a2 b2
  have z2:=cmpV_zero _ _ _ b1 c1 b2 c2
  have n1:=cmpV_anti (rd T i) (rdV a i) (rdV c i)
  have n2:=cmpV_anti (rd T i) (rdV b i) (rdV c i)
  have n3:=cmpV_anti (rd T i) (rdV a i) (rdV b i)
  unfold cmpFrom
  intro h1 h2
  split at h1
  ·split at h2
   ·rename_i e1 e2
    have e3 : cmpV (rd T i) (rdV a i) (rdV c i)=0:=by rw [z1.mp e1];exact e2
    rw [if_pos e3]
    exact ih h1 h2
   ·rename_i e1 e2
    rw [z1.mp e1,if_neg e2]
    exact h2
  ·split at h2
   ·rename_i e1 e2
    rw [← z2.mp e2,if_neg e1]
    exact h1
   ·rename_i e1 e2
    have h3:=t1 h1 h2
    split
    ·rename_i e3
     exfalso
     have : cmpV (rd T i) (rdV b i) (rdV a i)≤0:=t3 h2 (by omega)
     omega
    ·exact h3
end Go.Proofs.Ytojbeofipedolaa.P

