/- Texts of ValueAll. Merged: HHex. -/
import Derived.Test.YtifpjhghbafcjaaDoorQValueAllShelfC
import Derived.Test.YtifpjhghbafcjaaDoorQValueAllHKit
import Derived.Test.YtifpjhghbafcjaaDoorQValueAllHBase
import Derived.WalkKit
import Derived.BigCall
import Derived.BigGuard
import Derived.Laws.IdiomStrings
import Derived.Lib.ConvBytes
import Derived.Lib.AtoiAllMem
import Derived.Lib.Hide
import Derived.Laws.Strings3
import Derived.Laws.Closers25
import Derived.Laws.Closers25b
/- strconv.ParseUint(s, 16, 8) of two bytes, by hand. -/
namespace Go.Proofs.YtifpjhghbafcjaaDoor.P
open Go.RowKit Go.Proofs.YtifpjhghbafcjaaDoorW.PrintWords Go.Proofs.YtifpjhghbafcjaaDoorW.PrintLast Go.Proofs.YtifpjhghbafcjaaDoorW.PrintMore
set_option linter.unusedVariables false
set_option linter.unusedSimpArgs false
def hexv (c : Nat) : Option Nat:=if 48≤c∧c≤57 then some (c - 48) else if 97≤(c ||| 32)∧(c ||| 32)≤102 then some ((c ||| 32) - 87) else none
theorem low_or (c : Nat) (h : c < 256) : bits .or .u8 (c : Int) 32=((c ||| 32 : Nat) : Int)∧c ||| 32 < 256:=by
 have : ∀ c : Fin 256,bits .or .u8 (c.val : Int) 32=((c.val ||| 32 : Nat) : Int)∧c.val ||| 32 < 256:=by decide +kernel
 exact this ⟨c,h⟩
def hexr : Nat→List UInt8→Option Nat
 | acc,[]=>some acc
 | acc,c :: l=>match hexv c.toNat with|some x=>hexr (16 * acc + x) l|none=>none
def hexE (o : Option Nat) : Ending:=match o with|some n=>.returned (.tuple #[.int .u64 (n : Int),.nilIface])|none=>.returned (.tuple #[.int .u64 0,.iface 80 (.int .i64 2)])
theorem hexr_none (acc : Nat) (c : UInt8) (l : List UInt8) (h : hexv c.toNat=none) : hexr acc (c :: l)=none:=by rw [hexr,h]
theorem hexr_some (acc x : Nat) (c : UInt8) (l : List UInt8) (h : hexv c.toNat=some x) : hexr acc (c :: l)=hexr (16 * acc + x) l:=by rw [hexr,h]
set_option maxHeartbeats 16000000 in
set_option maxRecDepth 100000 in
theorem pu16_any (t : ByteArray) (h2 : t.size=2) (w : World) :
  Calls Tryd.prog 47 #[.string t,.int .i64 16,.int .i64 8] w fun e w'=>e=hexE (hexr 0 t.data.toList)∧w'=Lib.bytesWorld w 5 t:=by
 have hemp : t.toList.isEmpty=false:=by
  rw [← decide_eq_emptyBytes]
  exact decide_eq_false (fun h=>by rw [h] at h2;cases h2)
 have hcv:=Lib.run_convert_string_bytes (P:=Tryd.prog) w 9 65 5 t (u:=.string) Tryd.underlying9 Tryd.underlying65 Tryd.underlying5
 have hB : ∀ j,j < t.size→(Lib.bytesWorld w 5 t).cell? ⟨w.heap.size,j,none⟩=some (.int .u8 (t.data.toList.getD j 0).toNat):=fun j hj=>Lib.bytesWorld_cell w 5 t j hj
 obtain ⟨W1,hW1⟩ : ∃ W1,W1=Lib.bytesWorld w 5 t:=⟨_,rfl⟩
 rw [← hW1] at hcv hB ⊢
 clear hW1
 obtain ⟨bs,hL⟩ : ∃ bs,bs=t.data.toList:=⟨_,rfl⟩
 have hLn : bs.length=t.size:=by rw [hL,Lib.size_eq]
 rw [← hL] at hB ⊢
 clear hL
 have hmv : IntKind.u64.wrap (IntKind.u64.wrap 256 - 1)=255:=by
  rw [IntKind.wrap_u64,IntKind.wrap_u64]
  decide
 have hu65:=Tryd.underlying65
 go_enter Tryd.func47,Tryd.ntmps47
 go_wp2
 go_loop [12,13,101] (fun vu vn vi=>∃ (k acc : Nat) (a : Int),vu=.bool false∧vn=.int .u64 a∧vi=.int .i64 k∧k≤t.size∧Hid (a=(acc : Int)∧acc < 16 ^ k∧hexr 0 bs=hexr acc (bs.drop k)))
  (fun _ _ vi=>t.size - (intOf vi).toNat)
 case atStart=>exact ⟨0,0,0,rfl,rfl,rfl,by omega,rfl,by simp,rfl⟩
 case round =>
  obtain ⟨k,acc,a,rfl,rfl,rfl,hk,hh⟩:=hrel
  obtain ⟨ha,hacc,hdec⟩:=hh.out
  clear hh
  have ha256 : acc < 256:=by
   have : 16 ^ k≤16 ^ 2:=Nat.pow_le_pow_right (by decide) (by omega)
   omega
  have a0 : 0≤a:=by omega
  have a1 : a < 256:=by omega
  by_cases hkn : k < t.size
  ·have ha16 : acc < 16:=by
    have : 16 ^ k≤16 ^ 1:=Nat.pow_le_pow_right (by decide) (by omega)
    omega
   have a2 : a < 16:=by omega
   have hc:=hB k hkn
   have hdrop : bs.drop k=bs[k]'(by omega) :: bs.drop (k + 1):=List.drop_eq_getElem_cons (by omega)
   have hget : bs.getD k 0=bs[k]'(by omega):=by simp [List.getD,List.getElem?_eq_getElem (show k < bs.length by omega)]
   rw [hdrop] at hdec
   rw [hget] at hc
   generalize bs[k]'(by omega)=c at hc hdec
   have hc256 : c.toNat < 256:=c.toNat_lt
   clear hB hdrop hget
   by_cases hdig : 48≤c.toNat∧c.toNat≤57
   ·have hF:=hexr_some acc (c.toNat - 48) c (bs.drop (k + 1)) (by unfold hexv;rw [if_pos hdig])
    obtain ⟨hd0,hd1⟩:=hdig
    have HN : Hid (a * 16 + ((c.toNat : Int) - 48)=((16 * acc + (c.toNat - 48) : Nat) : Int)∧16 * acc + (c.toNat - 48) < 16 ^ (k + 1)∧hexr 0 bs=hexr (16 * acc + (c.toNat - 48)) (bs.drop (k + 1))):=Lib.hid ⟨by omega,by rw [Nat.pow_succ];omega,hdec.trans hF⟩
    clear hacc hF hdec ha ha256 ha16
    go_wp2
    refine ⟨⟨k + 1,16 * acc + (c.toNat - 48),a * 16 + ((c.toNat : Int) - 48),rfl,(by first|rfl|(congr 1;omega)),(by first|rfl|(congr 1;omega)),by omega,HN⟩,by simp [intOf];omega⟩
   ·obtain ⟨lo,hlo,hl256⟩ : ∃ lo : Nat,bits .or .u8 (c.toNat : Int) 32=(lo : Int)∧lo=c.toNat ||| 32:=⟨_,(low_or c.toNat hc256).1,rfl⟩
    have hlo2 : lo < 256:=by rw [hl256];exact (low_or c.toNat hc256).2
    by_cases hx : 97≤lo∧lo≤102
    ·have hF:=hexr_some acc (lo - 87) c (bs.drop (k + 1)) (by unfold hexv;rw [if_neg hdig,← hl256,if_pos hx])
     have HN : Hid (a * 16 + ((lo : Int) - 97 + 10)=((16 * acc + (lo - 87) : Nat) : Int)∧16 * acc + (lo - 87) < 16 ^ (k + 1)∧hexr 0 bs=hexr (16 * acc + (lo - 87)) (bs.drop (k + 1))):=Lib.hid ⟨by omega,by rw [Nat.pow_succ];omega,hdec.trans hF⟩
     have h95 : ¬ (c.toNat : Int)=95:=by
      intro h
      have h1 : c.toNat=95:=by omega
      rw [h1] at hl256
      have : lo=127:=hl256
      omega
     clear hacc hF hdec ha ha256 ha16 hl256
     go_wp2_with (go_at_call 61;refine (Tryd.internal_strconv_lower _ _).mono ?_;rw [hlo];rintro e w' ⟨rfl,rfl⟩)
     all_goals refine ⟨⟨k + 1,16 * acc + (lo - 87),a * 16 + ((lo : Int) - 97 + 10),rfl,(by first|rfl|(congr 1;omega)),(by first|rfl|(congr 1;omega)),by omega,HN⟩,by simp [intOf];omega⟩
    ·have hF:=hexr_none acc c (bs.drop (k + 1)) (by unfold hexv;rw [if_neg hdig,← hl256,if_neg hx])
     rw [hF] at hdec
     clear hacc hF ha ha256 ha16 hl256
     rw [hdec]
     by_cases h95 : (c.toNat : Int)=95
     ·have e95 : bits .or .u8 95 32=127:=by decide +kernel
      clear hlo hlo2 hx
      go_wp2_with (go_at_call 61;refine (Tryd.internal_strconv_lower _ _).mono ?_;rw [e95];rintro e w' ⟨rfl,rfl⟩)
      all_goals go_ret2
      all_goals first|exact ⟨rfl,rfl⟩|(refine ⟨?_,rfl⟩;rw [hdec];rfl)
     ·by_cases hz : 103≤lo
      ·go_wp2_with (go_at_call 61;refine (Tryd.internal_strconv_lower _ _).mono ?_;rw [hlo];rintro e w' ⟨rfl,rfl⟩)
       all_goals go_ret2
       all_goals first|exact ⟨rfl,rfl⟩|(refine ⟨?_,rfl⟩;rw [hdec];rfl)
      ·have hz2 : lo < 97:=by omega
       clear hz hx
       go_wp2_with (go_at_call 61;refine (Tryd.internal_strconv_lower _ _).mono ?_;rw [hlo];rintro e w' ⟨rfl,rfl⟩)
       all_goals go_ret2
       all_goals first|exact ⟨rfl,rfl⟩|(refine ⟨?_,rfl⟩;rw [hdec];rfl)
  ·have hkk : k=t.size:=by omega
   subst hkk
   have hF : hexr acc (bs.drop t.size)=some acc:=by rw [List.drop_eq_nil_of_le (by omega)];rfl
   rw [hF] at hdec
   subst ha
   clear hacc hF a0 a1
   rw [hdec]
   go_wp2
   go_ret2
   exact ⟨rfl,rfl⟩
end Go.Proofs.YtifpjhghbafcjaaDoor.P

