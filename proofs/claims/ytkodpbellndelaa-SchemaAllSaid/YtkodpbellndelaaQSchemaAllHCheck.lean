/- Texts of SchemaAll. Merged: HCheck. -/
import Derived.Test.YtkodpbellndelaaQSchemaAllPx0
/- schema.Check, by hand: what is wrong of a schema. -/
namespace Go.Proofs.Ytkodpbellndelaa.P
open Go.RowKit Go.Proofs.YtkodpbellndelaaW.PrintWords Go.Proofs.YtkodpbellndelaaW.PrintLast Go.Proofs.YtkodpbellndelaaW.PrintMore
set_option linter.unusedVariables false
set_option linter.unusedSimpArgs false
def withinB (n lo hi : Int) : Bool:=decide (lo≤n) && decide (n≤hi)
def oddB (t : Int) : Bool:=!(withinB t 1 3)
def checkN (l : List Int) (keys mode grain : Int) : Int :=
 if withinB (l.length : Int) 1 64=true∧l.any oddB=false∧withinB keys 1 (l.length : Int)=true∧withinB mode 1 3=true∧withinB grain 1 64=true then 0 else 20
def schema_Check.f (l0_0 : List Int) (a0_1 : Int) (a0_2 : Int) (a0_3 : Int) : Option Int:=some (checkN l0_0 a0_1 a0_2 a0_3)
set_option maxHeartbeats 1000000 in
theorem within_any (n lo hi : Int) (w : World) : Calls Try.prog 31 #[.int .i64 n,.int .i64 lo,.int .i64 hi] w fun e w'=>e=.returned (.bool (withinB n lo hi))∧w=w':=by
 unfold withinB
 by_cases h1 : lo≤n
 ·by_cases h2 : n≤hi
  ·have e1 : decide (lo≤n)=true:=decide_eq_true h1
   have e2 : decide (n≤hi)=true:=decide_eq_true h2
   go_enter Try.func31,Try.ntmps31
   go_wp2
   go_ret
   exact ⟨by simp [h1,h2],rfl⟩
  ·have e1 : decide (lo≤n)=true:=decide_eq_true h1
   have e2 : decide (n≤hi)=false:=decide_eq_false h2
   go_enter Try.func31,Try.ntmps31
   go_wp2
   go_ret
   exact ⟨by simp [h1,h2],rfl⟩
 ·have e1 : decide (lo≤n)=false:=decide_eq_false h1
  go_enter Try.func31,Try.ntmps31
  go_wp2
  go_ret
  exact ⟨by simp [h1],rfl⟩
set_option maxHeartbeats 1000000 in
theorem odd_any (t : Int) (w : World) : Calls Try.prog 40 #[.int .i64 t] w fun e w'=>e=.returned (.bool (oddB t))∧w=w':=by
 unfold oddB
 go_enter Try.func40,Try.ntmps40
 go_wp2_with (go_at_call 31;refine (within_any _ _ _ _).mono ?_;rintro e w' ⟨rfl,rfl⟩)
 go_ret
 exact ⟨rfl,rfl⟩
def firstIx (p : Int→Bool) (l : List Int) : Nat→Nat→Int
 | 0,_=>-1
 | m + 1,i=>if p (rd l i)=true then i else firstIx p l m (i + 1)
theorem firstIx_any (p : Int→Bool) (l : List Int) : ∀ m i,i + m=l.length→decide (firstIx p l m i ≥ 0)=(l.drop i).any p
 | 0,i,h=>by rw [List.drop_of_length_le (by omega)];simp [firstIx]
 | m + 1,i,h=>by
  have hi : i < l.length:=by omega
  rw [List.drop_eq_getElem_cons hi]
  have e : rd l i=l[i]:=by unfold rd;simp [List.getD,hi]
  unfold firstIx
  rw [e]
  by_cases hp : p l[i]=true
  ·rw [if_pos hp,List.any_cons,hp,Bool.true_or,decide_eq_true_iff];omega
  ·rw [if_neg hp,firstIx_any p l m (i + 1) (by omega),List.any_cons,Bool.eq_false_iff.mpr hp,Bool.false_or]
set_option maxHeartbeats 1000000 in
theorem indexOdd_any (l : List Int) (A : Option Addr) (c : Nat) (w : World) (hr : Kd.C (Kd.int .i64) w A l.length l) :
  Calls Try.prog 51 #[.slice A l.length c,.func (.func 40) #[] #[]] w fun e w'=>e=.returned (.int .i64 (firstIx oddB l l.length 0))∧w=w':=by
 have hm:=hr.2.1
 obtain ⟨r,hR⟩ : ∃ r,r=firstIx oddB l l.length 0:=⟨_,rfl⟩
 rw [← hR]
 have HR:=Aside0.mk hR
 clear hR
 have HC:=Aside0.mk hr
 clear hr
 go_enter Try.func51,Try.ntmps51
 go_wp2
 go_loop [8] (fun i=>∃ k : Nat,k≤l.length∧i=.int .i64 k∧Aside0 (r=firstIx oddB l (l.length - k) k)) (fun i=>l.length - (intOf i).toNat)
 case atStart=>exact ⟨0,Nat.zero_le _,rfl,by simpa using HR⟩
 case round =>
  obtain ⟨k,hk,rfl,HQ⟩:=hrel
  by_cases hkl : k < l.length
  ·have hq:=HQ.out
   rw [show l.length - k=(l.length - (k + 1)) + 1 by omega,firstIx] at hq
   obtain ⟨ad,rfl,hc⟩:=Kd.at_int HC.out (k : Int) (by omega) (by omega)
   simp only [Int.toNat_natCast] at hc
   clear HQ
   by_cases ho : oddB (rd l k)=true
   ·rw [if_pos ho] at hq
    have HQ:=Aside0.mk hq
    clear hq
    go_wp2_with (go_at_call 40;refine (odd_any _ _).mono ?_;rintro e w' ⟨rfl,rfl⟩)
    go_ret
    exact ⟨by rw [HQ.out];rfl,rfl⟩
   ·rw [if_neg ho] at hq
    have HQ:=Aside0.mk hq
    clear hq
    have ho' : oddB (rd l k)=false:=by simpa using ho
    clear ho
    go_wp2_with (go_at_call 40;refine (odd_any _ _).mono ?_;rintro e w' ⟨rfl,rfl⟩)
    go_round
    case rel=>exact ⟨k + 1,by omega,by go_num,HQ⟩
    case measure=>simp [intOf];omega
  ·have hq:=HQ.out
   rw [show l.length - k=0 by omega,firstIx] at hq
   have HQ2:=Aside0.mk hq
   clear hq HQ
   go_wp2
   go_ret
   exact ⟨by rw [HQ2.out];rfl,rfl⟩
set_option maxHeartbeats 1000000 in
theorem containsOdd_any (l : List Int) (A : Option Addr) (c : Nat) (w : World) (hr : Kd.C (Kd.int .i64) w A l.length l) :
  Calls Try.prog 41 #[.slice A l.length c,.func (.func 40) #[] #[]] w fun e w'=>e=.returned (.bool (l.any oddB))∧w=w':=by
 have e : l.any oddB=decide (firstIx oddB l l.length 0 ≥ 0):=by rw [firstIx_any oddB l l.length 0 (by omega)];rfl
 rw [e]
 clear e
 go_enter Try.func41,Try.ntmps41
 go_wp2_with (go_at_call 51;refine (indexOdd_any _ _ _ _ hr).mono ?_;rintro e w' ⟨rfl,rfl⟩)
 go_ret
 exact ⟨rfl,rfl⟩
set_option maxHeartbeats 4000000 in
set_option maxRecDepth 100000 in
theorem schema_Check.calls (A0_0 : Option Addr) (c0_0 : Nat) (l0_0 : List Int) (a0_1 : Int) (a0_2 : Int) (a0_3 : Int) (r : Int) (w : World) (hr0_0 : Kd.C (Kd.int .i64) w A0_0 l0_0.length l0_0) (hc0_0 : l0_0.length≤c0_0) (h : schema_Check.f l0_0 a0_1 a0_2 a0_3=some r) :
  Calls Try.prog 23 #[.agg #[.slice A0_0 l0_0.length c0_0,.int .i64 a0_1,.int .i64 a0_2,.int .i64 a0_3]] w fun e w'=>e=.returned (.int .i64 r)∧Below w.heap.size w w':=by
 have e : r=checkN l0_0 a0_1 a0_2 a0_3:=(Option.some.inj h).symm
 clear h
 unfold checkN at e
 have HR : Aside0 (Kd.C (Kd.int .i64) (w.alloc (.cells #[.slice A0_0 l0_0.length c0_0,.int .i64 a0_1,.int .i64 a0_2,.int .i64 a0_3] 30)) A0_0 l0_0.length l0_0):=Aside0.mk (Kd.C_alloc hr0_0 _)
 have hm:=hr0_0.2.1
 clear hr0_0
 by_cases h1 : withinB (l0_0.length : Int) 1 64=true
 ·by_cases h2 : l0_0.any oddB=false
  ·by_cases h3 : withinB a0_1 1 (l0_0.length : Int)=true
   ·by_cases h4 : withinB a0_2 1 3=true
    ·by_cases h5 : withinB a0_3 1 64=true
     ·rw [if_pos ⟨h1,h2,h3,h4,h5⟩] at e
      subst e
      go_enter Try.func23,Try.ntmps23
      go_wp2_with (first|(go_at_call 31;refine (within_any _ _ _ _).mono ?_;rintro e w' ⟨rfl,rfl⟩)|(go_at_call 41;refine (containsOdd_any _ _ _ _ HR.out).mono ?_;rintro e w' ⟨rfl,rfl⟩))
      go_ret
      exact ⟨rfl,(Below.refl _ _).alloc (Nat.le_refl _) _⟩
     ·rw [if_neg (fun q=>h5 q.2.2.2.2)] at e
      subst e
      have h5' : withinB a0_3 1 64=false:=by simpa using h5
      clear h5
      go_enter Try.func23,Try.ntmps23
      go_wp2_with (first|(go_at_call 31;refine (within_any _ _ _ _).mono ?_;rintro e w' ⟨rfl,rfl⟩)|(go_at_call 41;refine (containsOdd_any _ _ _ _ HR.out).mono ?_;rintro e w' ⟨rfl,rfl⟩))
      go_ret
      exact ⟨rfl,(Below.refl _ _).alloc (Nat.le_refl _) _⟩
    ·rw [if_neg (fun q=>h4 q.2.2.2.1)] at e
     subst e
     have h4' : withinB a0_2 1 3=false:=by simpa using h4
     clear h4
     go_enter Try.func23,Try.ntmps23
     go_wp2_with (first|(go_at_call 31;refine (within_any _ _ _ _).mono ?_;rintro e w' ⟨rfl,rfl⟩)|(go_at_call 41;refine (containsOdd_any _ _ _ _ HR.out).mono ?_;rintro e w' ⟨rfl,rfl⟩))
     go_ret
     exact ⟨rfl,(Below.refl _ _).alloc (Nat.le_refl _) _⟩
   ·rw [if_neg (fun q=>h3 q.2.2.1)] at e
    subst e
    have h3' : withinB a0_1 1 (l0_0.length : Int)=false:=by simpa using h3
    clear h3
    go_enter Try.func23,Try.ntmps23
    go_wp2_with (first|(go_at_call 31;refine (within_any _ _ _ _).mono ?_;rintro e w' ⟨rfl,rfl⟩)|(go_at_call 41;refine (containsOdd_any _ _ _ _ HR.out).mono ?_;rintro e w' ⟨rfl,rfl⟩))
    go_ret
    exact ⟨rfl,(Below.refl _ _).alloc (Nat.le_refl _) _⟩
  ·rw [if_neg (fun q=>h2 q.2.1)] at e
   subst e
   have h2' : l0_0.any oddB=true:=by simpa using h2
   clear h2
   have HA:=Aside0.mk h2'
   clear h2'
   go_enter Try.func23,Try.ntmps23
   go_wp2_with (first|(go_at_call 31;refine (within_any _ _ _ _).mono ?_;rintro e w' ⟨rfl,rfl⟩)|(go_at_call 41;refine (containsOdd_any _ _ _ _ HR.out).mono ?_;rintro e w' ⟨rfl,rfl⟩;rw [HA.out]))
   go_ret
   exact ⟨rfl,(Below.refl _ _).alloc (Nat.le_refl _) _⟩
 ·rw [if_neg (fun q=>h1 q.1)] at e
  subst e
  have h1' : withinB (l0_0.length : Int) 1 64=false:=by simpa using h1
  clear h1
  go_enter Try.func23,Try.ntmps23
  go_wp2_with (go_at_call 31;refine (within_any _ _ _ _).mono ?_;rintro e w' ⟨rfl,rfl⟩)
  go_ret
  exact ⟨rfl,(Below.refl _ _).alloc (Nat.le_refl _) _⟩
end Go.Proofs.Ytkodpbellndelaa.P

