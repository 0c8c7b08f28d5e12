/- Texts of SchemaAll. Merged: HBatch. -/
import Derived.Test.YtkodpbellndelaaQSchemaAllHRow
/- schema.Batch, by hand: what is wrong of some rows. -/
namespace Go.Proofs.Ytkodpbellndelaa.P
open Go.RowKit Go.Proofs.YtkodpbellndelaaW.PrintWords Go.Proofs.YtkodpbellndelaaW.PrintLast Go.Proofs.YtkodpbellndelaaW.PrintMore
set_option linter.unusedVariables false
set_option linter.unusedSimpArgs false
def SchemaAt (W : World) (g : Nat) (A : Option Addr) (c : Nat) (ts : List Int) (a b d : Int) : Prop :=
 W.heap[g]?=some (.cells #[.slice A ts.length c,.int .i64 a,.int .i64 b,.int .i64 d] 30 (0,0))∧ts.length≤c∧Kd.C (Kd.int .i64) W A ts.length ts
theorem SchemaAt.below {W W' : World} {g : Nat} {A : Option Addr} {c : Nat} {ts : List Int} {a b d : Int} (h : SchemaAt W g A c ts a b d) (hb : Below W.heap.size W W') : SchemaAt W' g A c ts a b d :=
 ⟨blk_below h.1 hb,h.2.1,Kd.C_below h.2.2 hb⟩
set_option maxHeartbeats 2000000 in
set_option maxRecDepth 100000 in
theorem batchOdd_any (ts : List Int) (A : Option Addr) (c : Nat) (a b d : Int) (g : Nat) (row : List SV) (B : Option Addr) (e : Nat) (w : World) (hS : SchemaAt w g A c ts a b d) (hr : Kd.C k34 w B row.length row) (hc : row.length≤e) :
  Calls Try.prog 30 #[.slice B row.length e,.pointer (some ⟨g,0,none⟩)] w fun e w'=>e=.returned (.bool (!rowB ts row))∧Below w.heap.size w w':=by
 have h0 : w.cell? ⟨g,0,none⟩=some (.slice A ts.length c):=(blk_cell hS.1 0).trans rfl
 have h1 : w.cell? ⟨g,1,none⟩=some (.int .i64 a):=(blk_cell hS.1 1).trans rfl
 have h2 : w.cell? ⟨g,2,none⟩=some (.int .i64 b):=(blk_cell hS.1 2).trans rfl
 have h3 : w.cell? ⟨g,3,none⟩=some (.int .i64 d):=(blk_cell hS.1 3).trans rfl
 have HT:=Aside0.mk hS.2.2
 have HC:=Aside0.mk hS.2.1
 have HR:=Aside0.mk hr
 have HE:=Aside0.mk hc
 clear hS hr hc
 go_enter Try.func30,Try.ntmps30
 go_wp2_with (go_at_call 12;refine (schema_Row.calls _ _ ts a b d _ _ row (rowB ts row) _ HT.out HC.out HR.out HE.out rfl).mono ?_;rintro e w' ⟨rfl,hb⟩;have HB:=Aside0.mk hb;clear hb)
 go_ret
 exact ⟨rfl,HB.out⟩
def rdB (l : List (List SV)) (i : Int) : List SV:=l.getD i.toNat []
def firstRow (p : List SV→Bool) (l : List (List SV)) : Nat→Nat→Int
 | 0,_=>-1
 | m + 1,i=>if p (rdB l i)=true then i else firstRow p l m (i + 1)
theorem firstRow_any (p : List SV→Bool) (l : List (List SV)) : ∀ m i,i + m=l.length→decide (firstRow p l m i ≥ 0)=(l.drop i).any p
 | 0,i,h=>by rw [List.drop_of_length_le (by omega)];simp [firstRow]
 | m + 1,i,h=>by
  have hi : i < l.length:=by omega
  rw [List.drop_eq_getElem_cons hi]
  have e : rdB l i=l[i]:=by unfold rdB;simp [List.getD,hi]
  unfold firstRow
  rw [e]
  by_cases hp : p l[i]=true
  ·rw [if_pos hp,List.any_cons,hp,Bool.true_or,decide_eq_true_iff];omega
  ·rw [if_neg hp,firstRow_any p l m (i + 1) (by omega),List.any_cons,Bool.eq_false_iff.mpr hp,Bool.false_or]
theorem at_R {w : World} {A : Option Addr} {n : Nat} {xs : List (List SV)} (h : Kd.C (Kd.slice 34 k34) w A n xs) (i : Int) (h0 : 0≤i) (h1 : i < n) : ∃ ad A0 c0,A=some ad∧w.cell? (ad.add i.toNat)=some (.slice A0 (rdB xs i).length c0)∧(rdB xs i).length≤c0∧k34.C w A0 (rdB xs i).length (rdB xs i):=by
 obtain ⟨ad,c,e,_,hK,hc0⟩:=Kd.C_get h ([] : List SV) i h0 h1
 have hc : ∀ j u,c[j]?=some u→w.cell? (ad.add (i.toNat * 1 + j))=some u:=hc0
 obtain ⟨A0,c0,rfl,l0,g0⟩:=hK
 exact ⟨ad,A0,c0,e,by have hq:=hc 0 _ rfl;rwa [Nat.mul_one,Nat.add_zero] at hq,l0,g0⟩
set_option maxHeartbeats 4000000 in
set_option maxRecDepth 100000 in
theorem indexRow_any (ts : List Int) (A : Option Addr) (c : Nat) (a b d : Int) (g : Nat) (l : List (List SV)) (B : Option Addr) (e : Nat) (w : World) (hS : SchemaAt w g A c ts a b d) (hr : Kd.C (Kd.slice 34 k34) w B l.length l) :
  Calls Try.prog 43 #[.slice B l.length e,.func (.func 30) #[] #[.pointer (some ⟨g,0,none⟩)]] w fun e w'=>e=.returned (.int .i64 (firstRow (fun r=>!rowB ts r) l l.length 0))∧Below w.heap.size w w':=by
 have hm:=hr.2.1
 obtain ⟨r,hR⟩ : ∃ r,r=firstRow (fun r=>!rowB ts r) l l.length 0:=⟨_,rfl⟩
 rw [← hR]
 have HR:=Aside0.mk hR
 clear hR
 have HC:=Aside0.mk hr
 have HS:=Aside0.mk hS
 clear hr hS
 go_enter Try.func43,Try.ntmps43
 go_wp2
 go_loopw [8] (fun i wr=>∃ k : Nat,k≤l.length∧i=.int .i64 k∧Aside0 (r=firstRow (fun r=>!rowB ts r) l (l.length - k) k)∧Aside0 (Below w.heap.size w wr)) (fun i _=>l.length - (intOf i).toNat)
 case atStart=>exact ⟨0,Nat.zero_le _,rfl,by simpa using HR,Aside0.mk (Below.refl _ _)⟩
 case round =>
  obtain ⟨k,hk,rfl,HQ,HB⟩:=hrel
  by_cases hkl : k < l.length
  ·have hq:=HQ.out
   rw [show l.length - k=(l.length - (k + 1)) + 1 by omega,firstRow] at hq
   obtain ⟨ad,A1,c1,rfl,hc,hl1,hg1⟩:=at_R (Kd.C_below HC.out HB.out) (k : Int) (by omega) (by omega)
   simp only [Int.toNat_natCast] at hc
   have HL:=Aside0.mk hl1
   have HG:=Aside0.mk hg1
   clear HQ hl1 hg1
   by_cases ho : (!rowB ts (rdB l k))=true
   ·rw [if_pos ho] at hq
    have HQ:=Aside0.mk hq
    have HO:=Aside0.mk ho
    clear hq ho
    go_wp2_with (go_at_call 30;refine (batchOdd_any ts A c a b d g _ _ _ _ (HS.out.below HB.out) HG.out HL.out).mono ?_;rintro e w' ⟨rfl,hb⟩;rw [HO.out];have HB2:=Aside0.mk (below_step HB.out hb);clear hb)
    go_ret
    exact ⟨by rw [HQ.out];rfl,HB2.out⟩
   ·rw [if_neg ho] at hq
    have HQ:=Aside0.mk hq
    have ho' : (!rowB ts (rdB l k))=false:=by simpa using ho
    have HO:=Aside0.mk ho'
    clear hq ho ho'
    go_wp2_with (go_at_call 30;refine (batchOdd_any ts A c a b d g _ _ _ _ (HS.out.below HB.out) HG.out HL.out).mono ?_;rintro e w' ⟨rfl,hb⟩;rw [HO.out];have HB2:=Aside0.mk (below_step HB.out hb);clear hb)
    go_roundw
    case rel=>exact ⟨k + 1,by omega,by go_num,HQ,HB2⟩
    case measure=>simp [intOf];omega
  ·have hq:=HQ.out
   rw [show l.length - k=0 by omega,firstRow] at hq
   have HQ2:=Aside0.mk hq
   clear hq HQ
   go_wp2
   go_ret
   exact ⟨by rw [HQ2.out];rfl,HB.out⟩
set_option maxHeartbeats 1000000 in
theorem containsRow_any (ts : List Int) (A : Option Addr) (c : Nat) (a b d : Int) (g : Nat) (l : List (List SV)) (B : Option Addr) (e : Nat) (w : World) (hS : SchemaAt w g A c ts a b d) (hr : Kd.C (Kd.slice 34 k34) w B l.length l) :
  Calls Try.prog 32 #[.slice B l.length e,.func (.func 30) #[] #[.pointer (some ⟨g,0,none⟩)]] w fun e w'=>e=.returned (.bool (l.any (fun r=>!rowB ts r)))∧Below w.heap.size w w':=by
 have e1 : l.any (fun r=>!rowB ts r)=decide (firstRow (fun r=>!rowB ts r) l l.length 0 ≥ 0):=by rw [firstRow_any _ l l.length 0 (by omega)];rfl
 rw [e1]
 clear e1
 go_enter Try.func32,Try.ntmps32
 go_wp2_with (go_at_call 43;refine (indexRow_any _ _ _ _ _ _ _ _ _ _ _ hS hr).mono ?_;rintro e w' ⟨rfl,hb⟩;have HB:=Aside0.mk hb;clear hb)
 go_ret
 exact ⟨rfl,HB.out⟩
def batchN (ts : List Int) (l : List (List SV)) : Int:=if withinB (l.length : Int) 1 64=true then (if l.any (fun r=>!rowB ts r)=true then 21 else 0) else 22
def schema_Batch.f (l0_0 : List Int) (a0_1 : Int) (a0_2 : Int) (a0_3 : Int) (l1 : List (List SV)) : Option Int:=some (batchN l0_0 l1)
set_option maxHeartbeats 4000000 in
set_option maxRecDepth 100000 in
theorem schema_Batch.calls (A0_0 : Option Addr) (c0_0 : Nat) (l0_0 : List Int) (a0_1 : Int) (a0_2 : Int) (a0_3 : Int) (A1 : Option Addr) (c1 : Nat) (l1 : List (List SV)) (r : Int) (w : World) (hr0_0 : Kd.C (Kd.int .i64) w A0_0 l0_0.length l0_0) (hc0_0 : l0_0.length≤c0_0) (hr1 : Kd.C (Kd.slice 34 k34) w A1 l1.length l1) (hc1 : l1.length≤c1) (h : schema_Batch.f l0_0 a0_1 a0_2 a0_3 l1=some r) :
  Calls Try.prog 13 #[.agg #[.slice A0_0 l0_0.length c0_0,.int .i64 a0_1,.int .i64 a0_2,.int .i64 a0_3],.slice A1 l1.length c1] w fun e w'=>e=.returned (.int .i64 r)∧Below w.heap.size w w':=by
 have e : r=batchN l0_0 l1:=(Option.some.inj h).symm
 clear h
 unfold batchN at e
 have hmf : ∀ (fn : Fn) (first cap : Array Value) (w : World),(Instr.makeFunc fn first cap).run Try.prog w=.ok (.func fn first cap) w:=fun _ _ _ _=>rfl
 have HS : Aside0 (SchemaAt (w.alloc (.cells #[.slice A0_0 l0_0.length c0_0,.int .i64 a0_1,.int .i64 a0_2,.int .i64 a0_3] 30)) w.heap.size A0_0 c0_0 l0_0 a0_1 a0_2 a0_3):=Aside0.mk ⟨heap_alloc_new w _,hc0_0,Kd.C_alloc hr0_0 _⟩
 have HR : Aside0 (Kd.C (Kd.slice 34 k34) (w.alloc (.cells #[.slice A0_0 l0_0.length c0_0,.int .i64 a0_1,.int .i64 a0_2,.int .i64 a0_3] 30)) A1 l1.length l1):=Aside0.mk (Kd.C_alloc hr1 _)
 clear hr0_0 hr1
 by_cases h1 : withinB (l1.length : Int) 1 64=true
 ·rw [if_pos h1] at e
  have H1:=Aside0.mk h1
  clear h1
  by_cases h2 : l1.any (fun r=>!rowB l0_0 r)=true
  ·rw [if_pos h2] at e
   subst e
   have H2:=Aside0.mk h2
   clear h2
   go_enter Try.func13,Try.ntmps13
   go_wp2_with (first|(go_at_call 31;refine (within_any _ _ _ _).mono ?_;rintro e w' ⟨rfl,rfl⟩;rw [H1.out])|(go_at_call 32;refine (containsRow_any _ _ _ _ _ _ _ _ _ _ _ HS.out HR.out).mono ?_;rintro e w' ⟨rfl,hb⟩;rw [H2.out];have HB:=Aside0.mk (below_step (below_alloc (Below.refl _ _) _) hb);clear hb))
   go_ret
   exact ⟨rfl,HB.out⟩
  ·rw [if_neg h2] at e
   subst e
   have h2' : l1.any (fun r=>!rowB l0_0 r)=false:=Bool.eq_false_iff.mpr h2
   have H2:=Aside0.mk h2'
   clear h2 h2'
   go_enter Try.func13,Try.ntmps13
   go_wp2_with (first|(go_at_call 31;refine (within_any _ _ _ _).mono ?_;rintro e w' ⟨rfl,rfl⟩;rw [H1.out])|(go_at_call 32;refine (containsRow_any _ _ _ _ _ _ _ _ _ _ _ HS.out HR.out).mono ?_;rintro e w' ⟨rfl,hb⟩;rw [H2.out];have HB:=Aside0.mk (below_step (below_alloc (Below.refl _ _) _) hb);clear hb))
   go_ret
   exact ⟨rfl,HB.out⟩
 ·rw [if_neg h1] at e
  subst e
  have h1' : withinB (l1.length : Int) 1 64=false:=by simpa using h1
  have H1:=Aside0.mk h1'
  clear h1 h1'
  go_enter Try.func13,Try.ntmps13
  go_wp2_with (go_at_call 31;refine (within_any _ _ _ _).mono ?_;rintro e w' ⟨rfl,rfl⟩;rw [H1.out])
  go_ret
  exact ⟨rfl,(Below.refl _ _).alloc (Nat.le_refl _) _⟩
end Go.Proofs.Ytkodpbellndelaa.P

