/- Texts of ValueAll. Merged: HText. -/
import Derived.Test.YtifpjhghbafcjaaDoorQValueAllPx2
import Derived.Test.YtifpjhghbafcjaaDoorQValueAllHFmt
import Derived.Test.YtifpjhghbafcjaaDoorQValueAllHQuo
/- value.Text, by hand. -/
namespace Go.Proofs.YtifpjhghbafcjaaDoor.P
open Go.RowKit Go.Proofs.YtifpjhghbafcjaaDoorW.PrintWords Go.Proofs.YtifpjhghbafcjaaDoorW.PrintLast Go.Proofs.YtifpjhghbafcjaaDoorW.PrintMore
set_option linter.unusedVariables false
set_option linter.unusedSimpArgs false
def Tabs (w : World) : Prop:=Lib.TabIs Tryd.prog w "internal/strconv.uint64pow10" .u64 Lib.pow10Tab
theorem Tabs.on {w w1 : World} (h : Tabs w) (hb : Below w.heap.size w w1) : Tabs w1:=Lib.tabBelow_of_tabIs h w1 hb
def value_Text.f (t n : Int) (s : ByteArray) : Option ByteArray :=
 if t=1 then (if s.size=0 then (if -9223372036854775808≤n∧n≤9223372036854775807 then some ⟨(Lib.itoa n).toArray⟩ else none) else some ⟨#[]⟩)
 else if t=2 then (if s.size=0 then some ⟨(Lib.decDigits (n % 18446744073709551616).toNat).toArray⟩ else some ⟨#[]⟩)
 else if t=3 then (if n=0∧s.size≤60 then some ⟨(quoL s.data.toList).toArray⟩ else some ⟨#[]⟩)
 else some ⟨#[]⟩
theorem fits_not (t n : Int) (s : ByteArray) (h1 : t≠1) (h2 : t≠2) (h3 : t≠3) : value_Fits.f 1 t n s=some false:=by
 simp only [value_Fits.f,value_Fits.j0]
 rw [if_neg h1,if_neg (by simpa using h2),if_neg h3]
theorem fits_txt (n : Int) (s : ByteArray) : value_Fits.f 1 3 n s=some (decide (n=0∧s.size≤60)):=by
 have e : decide ((s.size : Int)≤60)=decide (s.size≤60):=decide_eq_decide.mpr (by omega)
 simp only [value_Fits.f,value_Fits.j0]
 rw [if_neg (by decide),if_neg (by decide),if_pos trivial,e]
 by_cases h : n=0
 ·rw [if_pos h];simp [h]
 ·rw [if_neg h];simp [h]
theorem fits_num (t n : Int) (s : ByteArray) (h : t=1 ∨ t=2) : value_Fits.f 1 t n s=some (decide (s.size=0)):=by
 have e : s.toList=[] ↔ s.size=0:=by
  rw [ByteArray.toList_eq]
  constructor
  ·intro h;have:=congrArg List.length h;simpa using this
  ·intro h;apply List.length_eq_zero_iff.mp;simpa using h
 have e2 : (s.toList == ([] : List UInt8))=decide (s.size=0):=by
  rw [Bool.eq_iff_iff,beq_iff_eq,decide_eq_true_iff,e]
 rcases h with rfl|rfl <;> (simp only [value_Fits.f,value_Fits.j0];first|(rw [← e2];rfl)|(simp;rw [← e2];rfl))
theorem box_at {w w1 : World} {o : Obj} (hb : Below (w.alloc o).heap.size (w.alloc o) w1) : w1.heap[w.heap.size]?=some o:=by
 rw [hb.block w.heap.size (by simp)]
 exact blk_new w o
set_option maxHeartbeats 4000000 in
theorem value_Text.calls (t n : Int) (s r : ByteArray) (w : World) (h : value_Text.f t n s=some r) (htab : Tabs w) :
  Calls Tryd.prog 13 #[.int .i64 t,.agg #[.int .i64 n,.string s]] w fun e w'=>e=.returned (.string r)∧Below w.heap.size w w':=by
 have HT:=Lib.hid htab
 clear htab
 unfold value_Text.f at h
 by_cases h1 : t=1 ∨ t=2
 ·have hf:=fits_num t n s h1
  by_cases hs : s.size=0
  ·rw [decide_eq_true hs] at hf
   have HF:=Lib.hid hf
   clear hf
   rcases h1 with rfl|rfl
   ·rw [if_pos rfl,if_pos hs] at h
    by_cases hn : -9223372036854775808≤n∧n≤9223372036854775807
    ·rw [if_pos hn] at h
     obtain rfl:=Option.some.inj h
     clear h hs
     go_enter Tryd.func13,Tryd.ntmps13
     go_wp2_with (go_at_call 17;refine (value_Fits.calls 1 _ _ _ true _ HF.out).mono ?_)
     rintro e w1 ⟨rfl,hb⟩
     have hk:=box_at hb
     have hc : w1.cell? ⟨w.heap.size,0,none⟩=some (.int .i64 n):=by simp [World.cell?,hk]
     have hb' : Below w.heap.size w w1:=(((Below.refl _ _).alloc (Nat.le_refl _) _).trans (hb.mono (by simp)))
     have HB:=Lib.hid hb'
     clear hk hb hb'
     go_wp2_with (go_at_call 27;refine (Tryd.fmti n hn.1 hn.2 _ (HT.out.on HB.out)).mono ?_)
     rintro e w2 ⟨rfl,hb2⟩
     go_wp2
     go_ret
     exact ⟨rfl,HB.out.trans (hb2.mono HB.out.size)⟩
    ·rw [if_neg hn] at h;cases h
   ·rw [if_neg (by omega),if_pos rfl,if_pos hs] at h
    obtain ⟨u,hu⟩ : ∃ u : Nat,n % 18446744073709551616=u:=⟨(n % 18446744073709551616).toNat,by omega⟩
    have hu2 : u < 18446744073709551616:=by omega
    have hw : IntKind.u64.wrap n=(u : Int):=by rw [IntKind.wrap_u64,hu]
    rw [hu,Int.toNat_natCast] at h
    clear hu
    obtain rfl:=Option.some.inj h
    clear h hs
    go_enter Tryd.func13,Tryd.ntmps13
    go_wp2_with (go_at_call 17;refine (value_Fits.calls 1 _ _ _ true _ HF.out).mono ?_)
    rintro e w1 ⟨rfl,hb⟩
    have hk:=box_at hb
    have hc : w1.cell? ⟨w.heap.size,0,none⟩=some (.int .i64 n):=by simp [World.cell?,hk]
    have hb' : Below w.heap.size w w1:=(((Below.refl _ _).alloc (Nat.le_refl _) _).trans (hb.mono (by simp)))
    have HB:=Lib.hid hb'
    clear hk hb hb'
    go_wp2_with (go_at_call 28;(try rw [hw]);refine (Tryd.fmtu u hu2 _ (HT.out.on HB.out)).mono ?_)
    rintro e w2 ⟨rfl,hb2⟩
    go_wp2
    go_ret
    exact ⟨rfl,HB.out.trans (hb2.mono HB.out.size)⟩
  ·rw [decide_eq_false hs] at hf
   have HF:=Lib.hid hf
   clear hf
   have hr : r=⟨#[]⟩:=by
    rcases h1 with rfl|rfl
    ·rw [if_pos rfl,if_neg hs] at h;exact (Option.some.inj h).symm
    ·rw [if_neg (by omega),if_pos rfl,if_neg hs] at h;exact (Option.some.inj h).symm
   subst hr
   clear h h1 hs
   go_enter Tryd.func13,Tryd.ntmps13
   go_wp2_with (go_at_call 17;refine (value_Fits.calls 1 _ _ _ false _ HF.out).mono ?_)
   rintro e w1 ⟨rfl,hb⟩
   have hb' : Below w.heap.size w w1:=(((Below.refl _ _).alloc (Nat.le_refl _) _).trans (hb.mono (by simp)))
   clear hb
   go_wp2
   go_ret
   exact ⟨rfl,hb'⟩
 ·rw [if_neg (fun e=>h1 (.inl e)),if_neg (fun e=>h1 (.inr e))] at h
  by_cases h3 : t=3
  ·subst h3
   rw [if_pos rfl] at h
   have hf:=fits_txt n s
   by_cases hs : n=0∧s.size≤60
   ·rw [decide_eq_true hs] at hf
    have HF:=Lib.hid hf
    clear hf
    rw [if_pos hs] at h
    obtain rfl:=Option.some.inj h
    have HS:=Lib.hid hs
    clear h hs h1
    go_enter Tryd.func13,Tryd.ntmps13
    go_wp2_with (go_at_call 17;refine (value_Fits.calls 1 _ _ _ true _ HF.out).mono ?_)
    rintro e w1 ⟨rfl,hb⟩
    have hk:=box_at hb
    have hc : w1.cell? ⟨w.heap.size,1,none⟩=some (.string s):=by simp [World.cell?,hk]
    have hb' : Below w.heap.size w w1:=(((Below.refl _ _).alloc (Nat.le_refl _) _).trans (hb.mono (by simp)))
    have HB:=Lib.hid hb'
    clear hk hb hb'
    go_wp2_with (go_at_call 29;refine (quoted_any s _ HS.out.2).mono ?_)
    rintro e w2 ⟨rfl,hb2⟩
    go_wp2
    go_ret
    exact ⟨rfl,HB.out.trans (hb2.mono HB.out.size)⟩
   ·rw [decide_eq_false hs] at hf
    have HF:=Lib.hid hf
    clear hf
    rw [if_neg hs] at h
    obtain rfl:=Option.some.inj h
    clear h hs h1
    go_enter Tryd.func13,Tryd.ntmps13
    go_wp2_with (go_at_call 17;refine (value_Fits.calls 1 _ _ _ false _ HF.out).mono ?_)
    rintro e w1 ⟨rfl,hb⟩
    have hb' : Below w.heap.size w w1:=(((Below.refl _ _).alloc (Nat.le_refl _) _).trans (hb.mono (by simp)))
    clear hb
    go_wp2
    go_ret
    exact ⟨rfl,hb'⟩
  ·rw [if_neg h3] at h
   have HF:=Lib.hid (fits_not t n s (fun e=>h1 (.inl e)) (fun e=>h1 (.inr e)) h3)
   obtain rfl:=Option.some.inj h
   clear h h1 h3
   go_enter Tryd.func13,Tryd.ntmps13
   go_wp2_with (go_at_call 17;refine (value_Fits.calls 1 _ _ _ false _ HF.out).mono ?_)
   rintro e w1 ⟨rfl,hb⟩
   have hb' : Below w.heap.size w w1:=(((Below.refl _ _).alloc (Nat.le_refl _) _).trans (hb.mono (by simp)))
   clear hb
   go_wp2
   go_ret
   exact ⟨rfl,hb'⟩
end Go.Proofs.YtifpjhghbafcjaaDoor.P

