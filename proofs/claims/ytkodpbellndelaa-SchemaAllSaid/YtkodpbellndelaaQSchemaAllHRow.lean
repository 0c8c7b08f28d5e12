/- Texts of SchemaAll. Merged: HRow. -/
import Derived.Test.YtkodpbellndelaaQSchemaAllPx4
import Derived.Test.YtkodpbellndelaaQSchemaAllHCheck
import Derived.Test.YtkodpbellndelaaQSchemaAllHBase
/- schema.Row, by hand: which rows may be. -/
namespace Go.Proofs.Ytkodpbellndelaa.P
open Go.RowKit Go.Proofs.YtkodpbellndelaaW.PrintWords Go.Proofs.YtkodpbellndelaaW.PrintLast Go.Proofs.YtkodpbellndelaaW.PrintMore
set_option linter.unusedVariables false
set_option linter.unusedSimpArgs false
def fitsB (t : Int) (n : Int) (s : ByteArray) : Bool:=if t=1 ∨ t=2 then s.toList == ([] : List UInt8) else if t=3 then (if n=0 then decide ((s.size : Int)≤60) else false) else false
theorem fits_f (k : Nat) (t n : Int) (s : ByteArray) : value_Fits.f (k + 1) t n s=some (fitsB t n s):=by
 unfold value_Fits.f fitsB
 by_cases h1 : t=1
 ·rw [if_pos h1,if_pos (Or.inl h1)]
  subst h1
  rfl
 ·rw [if_neg h1]
  by_cases h2 : t=2
  ·rw [if_pos (Or.inr h2)]
   subst h2
   rfl
  ·rw [if_neg (by omega),show (t == 2)=false by simpa using h2]
   simp only [value_Fits.j0,Bool.false_eq_true,if_false]
   by_cases h3 : t=3
   ·rw [if_pos h3,if_pos h3]
    split <;> rfl
   ·rw [if_neg h3,if_neg h3]
abbrev SV:=S34
def rowOk (ts : List Int) (row : List SV) : Nat→Nat→Bool
 | 0,_=>true
 | m + 1,i=>if fitsB (rd ts i) (rd_T34 row i).f0 (rd_T34 row i).f1=true then rowOk ts row m (i + 1) else false
def rowB (ts : List Int) (row : List SV) : Bool:=if ts.length=row.length then rowOk ts row ts.length 0 else false
def schema_Row.f (l0_0 : List Int) (a0_1 : Int) (a0_2 : Int) (a0_3 : Int) (l1 : List SV) : Option Bool:=some (rowB l0_0 l1)
set_option maxHeartbeats 4000000 in
set_option maxRecDepth 100000 in
theorem equalFits_any (ts : List Int) (A : Option Addr) (c : Nat) (row : List SV) (B : Option Addr) (d : Nat) (w : World) (hr : Kd.C (Kd.int .i64) w A ts.length ts) (hs : Kd.C k34 w B row.length row) :
  Calls Try.prog 28 #[.slice A ts.length c,.slice B row.length d,.func (.func 29) #[] #[]] w fun e w'=>e=.returned (.bool (rowB ts row))∧Below w.heap.size w w':=by
 have hm:=hr.2.1
 have hm2:=hs.2.1
 unfold rowB
 by_cases hl : ts.length=row.length
 ·rw [if_pos hl]
  have HR:=Aside0.mk hr
  have HS:=Aside0.mk hs
  clear hr hs
  obtain ⟨r,hRr⟩ : ∃ r,r=rowOk ts row ts.length 0:=⟨_,rfl⟩
  rw [← hRr]
  have HQ:=Aside0.mk hRr
  clear hRr
  have hle : row.length≤ts.length:=by omega
  have hge : ts.length≤row.length:=by omega
  have HL:=Aside0.mk hl
  clear hl
  have e1 : ((ts.length : Int) != (row.length : Int))=false:=by rw [HL.out];simp
  have e2 : (ts.length != row.length)=false:=by rw [HL.out];simp
  have e3 : (ts.length == row.length)=true:=by rw [HL.out];simp
  go_enter Try.func28,Try.ntmps28
  go_wp2
  go_loopw [17] (fun i wr=>∃ k : Nat,k≤ts.length∧i=.int .i64 k∧Aside0 (r=rowOk ts row (ts.length - k) k)∧Aside0 (Below w.heap.size w wr)) (fun i _=>ts.length - (intOf i).toNat)
  case atStart=>exact ⟨0,Nat.zero_le _,rfl,by simpa using HQ,Aside0.mk (Below.refl _ _)⟩
  case round =>
   obtain ⟨k,hk,rfl,HK,HB⟩:=hrel
   by_cases hkl : k < ts.length
   ·have hq:=HK.out
    rw [show ts.length - k=(ts.length - (k + 1)) + 1 by omega,rowOk] at hq
    obtain ⟨ad,rfl,hc⟩:=Kd.at_int (Kd.C_below HR.out HB.out) (k : Int) (by omega) (by omega)
    obtain ⟨bd,rfl,hb0,hb1⟩:=at_T34 (Kd.C_below HS.out HB.out) (k : Int) (by omega) (by omega)
    simp only [Int.toNat_natCast] at hc hb0 hb1
    clear HK
    by_cases ho : fitsB (rd ts k) (rd_T34 row k).f0 (rd_T34 row k).f1=true
    ·rw [if_pos ho] at hq
     have HK:=Aside0.mk hq
     have HO:=Aside0.mk ho
     clear hq ho
     go_wp2_with (go_at_call 29;refine (value_Fits.calls 1 _ _ _ true _ (by rw [fits_f 0,HO.out])).mono ?_;rintro e w' ⟨rfl,hb⟩;have HB2:=Aside0.mk (below_step (by repeat (first|(with_reducible first|exact HB.out|apply below_alloc)|exact HB.out)) hb);clear hb)
     go_roundw
     case rel=>exact ⟨k + 1,by omega,by go_num,HK,HB2⟩
     case measure=>simp [intOf];omega
    ·rw [if_neg ho] at hq
     have HK:=Aside0.mk hq
     have ho' : fitsB (rd ts k) (rd_T34 row k).f0 (rd_T34 row k).f1=false:=by simpa using ho
     have HO:=Aside0.mk ho'
     clear hq ho ho'
     go_wp2_with (go_at_call 29;refine (value_Fits.calls 1 _ _ _ false _ (by rw [fits_f 0,HO.out])).mono ?_;rintro e w' ⟨rfl,hb⟩;have HB2:=Aside0.mk (below_step (by repeat (first|(with_reducible first|exact HB.out|apply below_alloc)|exact HB.out)) hb);clear hb)
     go_ret
     exact ⟨by rw [HK.out];rfl,HB2.out⟩
   ·have hq:=HK.out
    rw [show ts.length - k=0 by omega,rowOk] at hq
    have HK2:=Aside0.mk hq
    clear hq HK
    go_wp2
    go_ret
    exact ⟨by rw [HK2.out];rfl,HB.out⟩
 ·rw [if_neg hl]
  have HL:=Aside0.mk hl
  have e1 : ((ts.length : Int) != (row.length : Int))=true:=by have:=HL.out;simp;omega
  have e2 : (ts.length != row.length)=true:=by have:=HL.out;simp;omega
  have e3 : (ts.length == row.length)=false:=by have:=HL.out;simp;omega
  clear hl
  go_enter Try.func28,Try.ntmps28
  go_wp2
  go_ret
  exact ⟨rfl,Below.refl _ _⟩
set_option maxHeartbeats 1000000 in
set_option maxRecDepth 100000 in
theorem schema_Row.calls (A0_0 : Option Addr) (c0_0 : Nat) (l0_0 : List Int) (a0_1 : Int) (a0_2 : Int) (a0_3 : Int) (A1 : Option Addr) (c1 : Nat) (l1 : List SV) (r : Bool) (w : World) (hr0_0 : Kd.C (Kd.int .i64) w A0_0 l0_0.length l0_0) (hc0_0 : l0_0.length≤c0_0) (hr1 : Kd.C k34 w A1 l1.length l1) (hc1 : l1.length≤c1) (h : schema_Row.f l0_0 a0_1 a0_2 a0_3 l1=some r) :
  Calls Try.prog 12 #[.agg #[.slice A0_0 l0_0.length c0_0,.int .i64 a0_1,.int .i64 a0_2,.int .i64 a0_3],.slice A1 l1.length c1] w fun e w'=>e=.returned (.bool r)∧Below w.heap.size w w':=by
 obtain rfl:=Option.some.inj h
 have HR : Aside0 (Kd.C (Kd.int .i64) (w.alloc (.cells #[.slice A0_0 l0_0.length c0_0,.int .i64 a0_1,.int .i64 a0_2,.int .i64 a0_3] 30)) A0_0 l0_0.length l0_0):=Aside0.mk (Kd.C_alloc hr0_0 _)
 have HS : Aside0 (Kd.C k34 (w.alloc (.cells #[.slice A0_0 l0_0.length c0_0,.int .i64 a0_1,.int .i64 a0_2,.int .i64 a0_3] 30)) A1 l1.length l1):=Aside0.mk (Kd.C_alloc hr1 _)
 clear hr0_0 hr1
 go_enter Try.func12,Try.ntmps12
 go_wp2_with (go_at_call 28;refine (equalFits_any _ _ _ _ _ _ _ HR.out HS.out).mono ?_;rintro e w' ⟨rfl,hb⟩;have HB:=Aside0.mk (below_step (below_alloc (Below.refl _ _) _) hb);clear hb)
 go_ret
 exact ⟨rfl,HB.out⟩
end Go.Proofs.Ytkodpbellndelaa.P

