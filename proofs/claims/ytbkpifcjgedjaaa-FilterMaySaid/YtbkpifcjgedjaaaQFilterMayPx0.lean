/- Texts of FilterMay. Merged: Px0. -/
import Derived.Test.YtbkpifcjgedjaaaProg
import Derived.Below
import Derived.Deep.Draws
import Derived.Deep.AppendLies
import Derived.Maps.AppendAt
import Derived.OwnWalk
import Derived.Laws.BytesArg
import Derived.Laws.MakeOwn
import Derived.Laws.OwnMore
import Derived.Deep.OwnRows
import Derived.Tactics
import Derived.Lib.ConvBytes
import Derived.Laws.Slices
import Derived.WalkKit
import Derived.KernelRfl
import Derived.RowKit3
import Derived.Deep.LoopGhost
import Derived.Deep.QuietTactic
import Derived.BigQuiet
import Derived.WideLaws
import Derived.Deep.DeepCutAuto
import Derived.Deep.CutBlock
import Derived.Deep.RegionHeld3
import Derived.Laws.Rows
import Derived.Lib.AppendStr
import Derived.ArgAppend
import Derived.Laws.IdiomCopy
import Derived.OrdersHeld
import Derived.Laws.BitsLemmas
import Derived.RowKit
import Derived.Test.YtbkpifcjgedjaaaQFilterMayHKit
import Derived.Test.YtbkpifcjgedjaaaQFilterMayWWords
import Derived.Test.YtbkpifcjgedjaaaQFilterMayWLast
import Derived.Test.YtbkpifcjgedjaaaQFilterMayWTab
import Derived.Test.YtbkpifcjgedjaaaQFilterMayWFour
import Derived.Test.YtbkpifcjgedjaaaQFilterMayWQPut
import Derived.Test.YtbkpifcjgedjaaaQFilterMayWApart
import Derived.Test.YtbkpifcjgedjaaaQFilterMayWArr
import Derived.Test.YtbkpifcjgedjaaaQFilterMayWZeros
import Derived.Test.YtbkpifcjgedjaaaQFilterMayWFoot
import Derived.Test.YtbkpifcjgedjaaaQFilterMayWKept
import Derived.Test.YtbkpifcjgedjaaaQFilterMayWShare
import Derived.Test.YtbkpifcjgedjaaaQFilterMayWN
import Derived.Test.YtbkpifcjgedjaaaQFilterMayWFootNe
import Derived.Test.YtbkpifcjgedjaaaQFilterMayWAt
import Derived.Test.YtbkpifcjgedjaaaQFilterMayWEqStruct
import Derived.Test.YtbkpifcjgedjaaaQFilterMayWRepsOne
import Derived.Test.YtbkpifcjgedjaaaQFilterMayWInv
import Derived.Test.YtbkpifcjgedjaaaQFilterMayWInvWords
import Derived.Test.YtbkpifcjgedjaaaQFilterMayWGuard
import Derived.Test.YtbkpifcjgedjaaaQFilterMayWNEv
import Derived.Test.YtbkpifcjgedjaaaQFilterMayWMore
namespace Go.Proofs.Ytbkpifcjgedjaaa.P
open Go.RowKit Go.Proofs.YtbkpifcjgedjaaaW.PrintWords Go.Proofs.YtbkpifcjgedjaaaW.PrintLast Go.Proofs.YtbkpifcjgedjaaaW.PrintMore
attribute [local go_sem] max2_int min2_int max_two min_two max_three min_three max_four min_four   -- for this text's walks alone
set_option linter.unusedVariables false
set_option linter.unusedSimpArgs false
def errW : Option Int→Value
 | none=>.nilIface
 | some c=>.iface 0 (.int .i64 c)
theorem errW_none : errW none=.nilIface:=rfl
theorem errW_some (c : Int) : errW (some c)=.iface 0 (.int .i64 c):=rfl
theorem info3 : (Try.prog.info? 3).map (fun i=>(i.zero,i.size,i.bytes))=some (some (.int .i64 0),1,8):=by kernel_rfl
theorem info37 : (Try.prog.info? 37).map (fun i=>(i.zero,i.size,i.bytes))=some (some (.agg #[(.int .i64 0),(.string ⟨#[]⟩)]),2,24):=by kernel_rfl
theorem info39 : (Try.prog.info? 39).map (fun i=>(i.zero,i.size,i.bytes))=some (some (.agg #[(.int .i64 0),(.int .i64 0),(.int .i64 0),(.string ⟨#[]⟩)]),4,40):=by kernel_rfl
theorem info41 : (Try.prog.info? 41).map (fun i=>(i.zero,i.size,i.bytes))=some (some (.slice none 0 0),1,24):=by kernel_rfl
structure S37 where
 f0 : Int
 f1 : ByteArray
def z37 : S37:=⟨(0 : Int),(⟨#[]⟩ : ByteArray)⟩
def k37 : Kd S37:=Kd.iso (Kd.pair (Kd.int .i64) Kd.string) (fun x : S37=>(x.f0,x.f1))
theorem k37_open {w : World} {x : S37} {cs : List Value} (h : k37.K w x cs) : cs=[.int .i64 x.f0,.string x.f1]:=by
 obtain ⟨_,_,rfl,rfl,rfl⟩:=h
 exact rfl
theorem k37_openM {w : World} {base : Nat} {ok : Nat→Prop} {x : S37} {cs : List Value} (h : k37.M w base ok x cs) : cs=[.int .i64 x.f0,.string x.f1]:=by
 obtain ⟨_,_,rfl,rfl,rfl⟩:=h
 exact rfl
theorem k37_mk (w : World) (x : S37)  : k37.K w x [.int .i64 x.f0,.string x.f1]:=⟨[.int .i64 x.f0],[.string x.f1],rfl,rfl,rfl⟩
theorem k37_mkM (w : World) (base : Nat) (ok : Nat→Prop) (x : S37)  : k37.M w base ok x [.int .i64 x.f0,.string x.f1]:=⟨[.int .i64 x.f0],[.string x.f1],rfl,rfl,rfl⟩
theorem k37_mkF (W : World) (ok : Nat→Prop) (x : S37) : Kd.FK k37 W ok x [.int .i64 x.f0,.string x.f1]:=fun W2 _=>k37_mk W2 x
def rd_T37 (xs : List S37) (i : Int) : S37:=xs.getD i.toNat z37
theorem at_T37 {w : World} {A : Option Addr} {n : Nat} {xs : List S37} (h : Kd.C k37 w A n xs) (i : Int) (h0 : 0≤i) (h1 : i < n) : ∃ ad ,A=some ad∧w.cell? (ad.add (i.toNat * 2))=some (.int .i64 (rd_T37 xs i).f0)∧w.cell? ⟨(ad.add (i.toNat * 2)).block,(ad.add (i.toNat * 2)).off + 1,none⟩=some (.string (rd_T37 xs i).f1):=by
 obtain ⟨ad,c,e,_,hK,hc0⟩:=Kd.C_get h z37 i h0 h1
 have hc : ∀ j u,c[j]?=some u→w.cell? (ad.add (i.toNat * 2 + j))=some u:=hc0
 obtain rfl:=k37_open hK
 exact ⟨ad,e,hc 0 _ rfl,by rw [← add_field _ _ 1 (by omega)];exact hc 1 _ rfl⟩
structure S39 where
 f0 : Int
 f1 : Int
 f2 : S37
def z39 : S39:=⟨(0 : Int),(0 : Int),z37⟩
def k39 : Kd S39:=Kd.iso (Kd.pair (Kd.int .i64) (Kd.pair (Kd.int .i64) k37)) (fun x : S39=>(x.f0,x.f1,x.f2))
theorem k39_open {w : World} {x : S39} {cs : List Value} (h : k39.K w x cs) : cs=[.int .i64 x.f0,.int .i64 x.f1,.int .i64 x.f2.f0,.string x.f2.f1]:=by
 obtain ⟨_,_,rfl,rfl,⟨_,_,rfl,rfl,s2⟩⟩:=h
 obtain rfl:=k37_open s2
 exact rfl
theorem k39_openM {w : World} {base : Nat} {ok : Nat→Prop} {x : S39} {cs : List Value} (h : k39.M w base ok x cs) : cs=[.int .i64 x.f0,.int .i64 x.f1,.int .i64 x.f2.f0,.string x.f2.f1]:=by
 obtain ⟨_,_,rfl,rfl,⟨_,_,rfl,rfl,s2⟩⟩:=h
 obtain rfl:=k37_openM s2
 exact rfl
theorem k39_mk (w : World) (x : S39)  : k39.K w x [.int .i64 x.f0,.int .i64 x.f1,.int .i64 x.f2.f0,.string x.f2.f1]:=⟨[.int .i64 x.f0],[.int .i64 x.f1,.int .i64 x.f2.f0,.string x.f2.f1],rfl,rfl,⟨[.int .i64 x.f1],[.int .i64 x.f2.f0,.string x.f2.f1],rfl,rfl,(k37_mk w x.f2 )⟩⟩
theorem k39_mkM (w : World) (base : Nat) (ok : Nat→Prop) (x : S39)  : k39.M w base ok x [.int .i64 x.f0,.int .i64 x.f1,.int .i64 x.f2.f0,.string x.f2.f1]:=⟨[.int .i64 x.f0],[.int .i64 x.f1,.int .i64 x.f2.f0,.string x.f2.f1],rfl,rfl,⟨[.int .i64 x.f1],[.int .i64 x.f2.f0,.string x.f2.f1],rfl,rfl,(k37_mkM w base ok x.f2 )⟩⟩
theorem k39_mkF (W : World) (ok : Nat→Prop) (x : S39) : Kd.FK k39 W ok x [.int .i64 x.f0,.int .i64 x.f1,.int .i64 x.f2.f0,.string x.f2.f1]:=fun W2 _=>k39_mk W2 x
def rd_T39 (xs : List S39) (i : Int) : S39:=xs.getD i.toNat z39
theorem at_T39 {w : World} {A : Option Addr} {n : Nat} {xs : List S39} (h : Kd.C k39 w A n xs) (i : Int) (h0 : 0≤i) (h1 : i < n) : ∃ ad ,A=some ad∧w.cell? (ad.add (i.toNat * 4))=some (.int .i64 (rd_T39 xs i).f0)∧w.cell? ⟨(ad.add (i.toNat * 4)).block,(ad.add (i.toNat * 4)).off + 1,none⟩=some (.int .i64 (rd_T39 xs i).f1)∧w.cell? ⟨(ad.add (i.toNat * 4)).block,(ad.add (i.toNat * 4)).off + 2,none⟩=some (.int .i64 (rd_T39 xs i).f2.f0)∧w.cell? ⟨(ad.add (i.toNat * 4)).block,(ad.add (i.toNat * 4)).off + 3,none⟩=some (.string (rd_T39 xs i).f2.f1):=by
 obtain ⟨ad,c,e,_,hK,hc0⟩:=Kd.C_get h z39 i h0 h1
 have hc : ∀ j u,c[j]?=some u→w.cell? (ad.add (i.toNat * 4 + j))=some u:=hc0
 obtain rfl:=k39_open hK
 exact ⟨ad,e,hc 0 _ rfl,by rw [← add_field _ _ 1 (by omega)];exact hc 1 _ rfl,by rw [← add_field _ _ 2 (by omega)];exact hc 2 _ rfl,by rw [← add_field _ _ 3 (by omega)];exact hc 3 _ rfl⟩
def rd_L4 (xs : List (List S37)) (i : Int) : (List S37):=xs.getD i.toNat ([] : List S37)
theorem at_L4 {w : World} {A : Option Addr} {n : Nat} {xs : List (List S37)} (h : Kd.C (Kd.slice 37 k37) w A n xs) (i : Int) (h0 : 0≤i) (h1 : i < n) : ∃ ad A0 c0,A=some ad∧w.cell? (ad.add i.toNat)=some (.slice A0 (rd_L4 xs i).length c0)∧(rd_L4 xs i).length≤c0∧k37.C w A0 (rd_L4 xs i).length (rd_L4 xs i):=by
 obtain ⟨ad,c,e,_,hK,hc0⟩:=Kd.C_get h ([] : List S37) i h0 h1
 have hc : ∀ j u,c[j]?=some u→w.cell? (ad.add (i.toNat * 1 + j))=some u:=hc0
 obtain ⟨A0,c0,rfl,l0,g0⟩:=hK
 exact ⟨ad,A0,c0,e,by have hq:=hc 0 _ rfl;rwa [Nat.mul_one,Nat.add_zero] at hq,l0,g0⟩
structure S22 where
 f0 : Int
 f1 : Int
 f2 : Int
 f3 : Int
 f4 : Int
 f5 : Int
 f6 : Int
 f7 : Int
def z22 : S22:=⟨(0 : Int),(0 : Int),(0 : Int),(0 : Int),(0 : Int),(0 : Int),(0 : Int),(0 : Int)⟩
def k22 : Kd S22:=Kd.iso (Kd.pair (Kd.int .u8) (Kd.pair (Kd.int .u8) (Kd.pair (Kd.int .u8) (Kd.pair (Kd.int .u8) (Kd.pair (Kd.int .u8) (Kd.pair (Kd.int .u8) (Kd.pair (Kd.int .u8) (Kd.int .u8)))))))) (fun x : S22=>(x.f0,x.f1,x.f2,x.f3,x.f4,x.f5,x.f6,x.f7))
theorem k22_open {w : World} {x : S22} {cs : List Value} (h : k22.K w x cs) : cs=[.int .u8 x.f0,.int .u8 x.f1,.int .u8 x.f2,.int .u8 x.f3,.int .u8 x.f4,.int .u8 x.f5,.int .u8 x.f6,.int .u8 x.f7]:=by
 obtain ⟨_,_,rfl,rfl,⟨_,_,rfl,rfl,⟨_,_,rfl,rfl,⟨_,_,rfl,rfl,⟨_,_,rfl,rfl,⟨_,_,rfl,rfl,⟨_,_,rfl,rfl,rfl⟩⟩⟩⟩⟩⟩⟩:=h
 exact rfl
theorem k22_openM {w : World} {base : Nat} {ok : Nat→Prop} {x : S22} {cs : List Value} (h : k22.M w base ok x cs) : cs=[.int .u8 x.f0,.int .u8 x.f1,.int .u8 x.f2,.int .u8 x.f3,.int .u8 x.f4,.int .u8 x.f5,.int .u8 x.f6,.int .u8 x.f7]:=by
 obtain ⟨_,_,rfl,rfl,⟨_,_,rfl,rfl,⟨_,_,rfl,rfl,⟨_,_,rfl,rfl,⟨_,_,rfl,rfl,⟨_,_,rfl,rfl,⟨_,_,rfl,rfl,rfl⟩⟩⟩⟩⟩⟩⟩:=h
 exact rfl
theorem k22_mk (w : World) (x : S22)  : k22.K w x [.int .u8 x.f0,.int .u8 x.f1,.int .u8 x.f2,.int .u8 x.f3,.int .u8 x.f4,.int .u8 x.f5,.int .u8 x.f6,.int .u8 x.f7]:=⟨[.int .u8 x.f0],[.int .u8 x.f1,.int .u8 x.f2,.int .u8 x.f3,.int .u8 x.f4,.int .u8 x.f5,.int .u8 x.f6,.int .u8 x.f7],rfl,rfl,⟨[.int .u8 x.f1],[.int .u8 x.f2,.int .u8 x.f3,.int .u8 x.f4,.int .u8 x.f5,.int .u8 x.f6,.int .u8 x.f7],rfl,rfl,⟨[.int .u8 x.f2],[.int .u8 x.f3,.int .u8 x.f4,.int .u8 x.f5,.int .u8 x.f6,.int .u8 x.f7],rfl,rfl,⟨[.int .u8 x.f3],[.int .u8 x.f4,.int .u8 x.f5,.int .u8 x.f6,.int .u8 x.f7],rfl,rfl,⟨[.int .u8 x.f4],[.int .u8 x.f5,.int .u8 x.f6,.int .u8 x.f7],rfl,rfl,⟨[.int .u8 x.f5],[.int .u8 x.f6,.int .u8 x.f7],rfl,rfl,⟨[.int .u8 x.f6],[.int .u8 x.f7],rfl,rfl,rfl⟩⟩⟩⟩⟩⟩⟩
theorem k22_mkM (w : World) (base : Nat) (ok : Nat→Prop) (x : S22)  : k22.M w base ok x [.int .u8 x.f0,.int .u8 x.f1,.int .u8 x.f2,.int .u8 x.f3,.int .u8 x.f4,.int .u8 x.f5,.int .u8 x.f6,.int .u8 x.f7]:=⟨[.int .u8 x.f0],[.int .u8 x.f1,.int .u8 x.f2,.int .u8 x.f3,.int .u8 x.f4,.int .u8 x.f5,.int .u8 x.f6,.int .u8 x.f7],rfl,rfl,⟨[.int .u8 x.f1],[.int .u8 x.f2,.int .u8 x.f3,.int .u8 x.f4,.int .u8 x.f5,.int .u8 x.f6,.int .u8 x.f7],rfl,rfl,⟨[.int .u8 x.f2],[.int .u8 x.f3,.int .u8 x.f4,.int .u8 x.f5,.int .u8 x.f6,.int .u8 x.f7],rfl,rfl,⟨[.int .u8 x.f3],[.int .u8 x.f4,.int .u8 x.f5,.int .u8 x.f6,.int .u8 x.f7],rfl,rfl,⟨[.int .u8 x.f4],[.int .u8 x.f5,.int .u8 x.f6,.int .u8 x.f7],rfl,rfl,⟨[.int .u8 x.f5],[.int .u8 x.f6,.int .u8 x.f7],rfl,rfl,⟨[.int .u8 x.f6],[.int .u8 x.f7],rfl,rfl,rfl⟩⟩⟩⟩⟩⟩⟩
theorem k22_mkF (W : World) (ok : Nat→Prop) (x : S22) : Kd.FK k22 W ok x [.int .u8 x.f0,.int .u8 x.f1,.int .u8 x.f2,.int .u8 x.f3,.int .u8 x.f4,.int .u8 x.f5,.int .u8 x.f6,.int .u8 x.f7]:=fun W2 _=>k22_mk W2 x
def rd_T22 (xs : List S22) (i : Int) : S22:=xs.getD i.toNat z22
theorem at_T22 {w : World} {A : Option Addr} {n : Nat} {xs : List S22} (h : Kd.C k22 w A n xs) (i : Int) (h0 : 0≤i) (h1 : i < n) : ∃ ad ,A=some ad∧w.cell? (ad.add (i.toNat * 8))=some (.int .u8 (rd_T22 xs i).f0)∧w.cell? ⟨(ad.add (i.toNat * 8)).block,(ad.add (i.toNat * 8)).off + 1,none⟩=some (.int .u8 (rd_T22 xs i).f1)∧w.cell? ⟨(ad.add (i.toNat * 8)).block,(ad.add (i.toNat * 8)).off + 2,none⟩=some (.int .u8 (rd_T22 xs i).f2)∧w.cell? ⟨(ad.add (i.toNat * 8)).block,(ad.add (i.toNat * 8)).off + 3,none⟩=some (.int .u8 (rd_T22 xs i).f3)∧w.cell? ⟨(ad.add (i.toNat * 8)).block,(ad.add (i.toNat * 8)).off + 4,none⟩=some (.int .u8 (rd_T22 xs i).f4)∧w.cell? ⟨(ad.add (i.toNat * 8)).block,(ad.add (i.toNat * 8)).off + 5,none⟩=some (.int .u8 (rd_T22 xs i).f5)∧w.cell? ⟨(ad.add (i.toNat * 8)).block,(ad.add (i.toNat * 8)).off + 6,none⟩=some (.int .u8 (rd_T22 xs i).f6)∧w.cell? ⟨(ad.add (i.toNat * 8)).block,(ad.add (i.toNat * 8)).off + 7,none⟩=some (.int .u8 (rd_T22 xs i).f7):=by
 obtain ⟨ad,c,e,_,hK,hc0⟩:=Kd.C_get h z22 i h0 h1
 have hc : ∀ j u,c[j]?=some u→w.cell? (ad.add (i.toNat * 8 + j))=some u:=hc0
 obtain rfl:=k22_open hK
 exact ⟨ad,e,hc 0 _ rfl,by rw [← add_field _ _ 1 (by omega)];exact hc 1 _ rfl,by rw [← add_field _ _ 2 (by omega)];exact hc 2 _ rfl,by rw [← add_field _ _ 3 (by omega)];exact hc 3 _ rfl,by rw [← add_field _ _ 4 (by omega)];exact hc 4 _ rfl,by rw [← add_field _ _ 5 (by omega)];exact hc 5 _ rfl,by rw [← add_field _ _ 6 (by omega)];exact hc 6 _ rfl,by rw [← add_field _ _ 7 (by omega)];exact hc 7 _ rfl⟩
structure S24 where
 f0 : S22
 f1 : Int
 f2 : Int
 f3 : Int
 f4 : Int
def z24 : S24:=⟨z22,(0 : Int),(0 : Int),(0 : Int),(0 : Int)⟩
def k24 : Kd S24:=Kd.iso (Kd.pair k22 (Kd.pair (Kd.int .u8) (Kd.pair (Kd.int .u8) (Kd.pair (Kd.int .u8) (Kd.int .u8))))) (fun x : S24=>(x.f0,x.f1,x.f2,x.f3,x.f4))
theorem k24_open {w : World} {x : S24} {cs : List Value} (h : k24.K w x cs) : cs=[.int .u8 x.f0.f0,.int .u8 x.f0.f1,.int .u8 x.f0.f2,.int .u8 x.f0.f3,.int .u8 x.f0.f4,.int .u8 x.f0.f5,.int .u8 x.f0.f6,.int .u8 x.f0.f7,.int .u8 x.f1,.int .u8 x.f2,.int .u8 x.f3,.int .u8 x.f4]:=by
 obtain ⟨_,_,rfl,s0,⟨_,_,rfl,rfl,⟨_,_,rfl,rfl,⟨_,_,rfl,rfl,rfl⟩⟩⟩⟩:=h
 obtain rfl:=k22_open s0
 exact rfl
theorem k24_openM {w : World} {base : Nat} {ok : Nat→Prop} {x : S24} {cs : List Value} (h : k24.M w base ok x cs) : cs=[.int .u8 x.f0.f0,.int .u8 x.f0.f1,.int .u8 x.f0.f2,.int .u8 x.f0.f3,.int .u8 x.f0.f4,.int .u8 x.f0.f5,.int .u8 x.f0.f6,.int .u8 x.f0.f7,.int .u8 x.f1,.int .u8 x.f2,.int .u8 x.f3,.int .u8 x.f4]:=by
 obtain ⟨_,_,rfl,s0,⟨_,_,rfl,rfl,⟨_,_,rfl,rfl,⟨_,_,rfl,rfl,rfl⟩⟩⟩⟩:=h
 obtain rfl:=k22_openM s0
 exact rfl
theorem k24_mk (w : World) (x : S24)  : k24.K w x [.int .u8 x.f0.f0,.int .u8 x.f0.f1,.int .u8 x.f0.f2,.int .u8 x.f0.f3,.int .u8 x.f0.f4,.int .u8 x.f0.f5,.int .u8 x.f0.f6,.int .u8 x.f0.f7,.int .u8 x.f1,.int .u8 x.f2,.int .u8 x.f3,.int .u8 x.f4]:=⟨[.int .u8 x.f0.f0,.int .u8 x.f0.f1,.int .u8 x.f0.f2,.int .u8 x.f0.f3,.int .u8 x.f0.f4,.int .u8 x.f0.f5,.int .u8 x.f0.f6,.int .u8 x.f0.f7],[.int .u8 x.f1,.int .u8 x.f2,.int .u8 x.f3,.int .u8 x.f4],rfl,(k22_mk w x.f0 ),⟨[.int .u8 x.f1],[.int .u8 x.f2,.int .u8 x.f3,.int .u8 x.f4],rfl,rfl,⟨[.int .u8 x.f2],[.int .u8 x.f3,.int .u8 x.f4],rfl,rfl,⟨[.int .u8 x.f3],[.int .u8 x.f4],rfl,rfl,rfl⟩⟩⟩⟩
theorem k24_mkM (w : World) (base : Nat) (ok : Nat→Prop) (x : S24)  : k24.M w base ok x [.int .u8 x.f0.f0,.int .u8 x.f0.f1,.int .u8 x.f0.f2,.int .u8 x.f0.f3,.int .u8 x.f0.f4,.int .u8 x.f0.f5,.int .u8 x.f0.f6,.int .u8 x.f0.f7,.int .u8 x.f1,.int .u8 x.f2,.int .u8 x.f3,.int .u8 x.f4]:=⟨[.int .u8 x.f0.f0,.int .u8 x.f0.f1,.int .u8 x.f0.f2,.int .u8 x.f0.f3,.int .u8 x.f0.f4,.int .u8 x.f0.f5,.int .u8 x.f0.f6,.int .u8 x.f0.f7],[.int .u8 x.f1,.int .u8 x.f2,.int .u8 x.f3,.int .u8 x.f4],rfl,(k22_mkM w base ok x.f0 ),⟨[.int .u8 x.f1],[.int .u8 x.f2,.int .u8 x.f3,.int .u8 x.f4],rfl,rfl,⟨[.int .u8 x.f2],[.int .u8 x.f3,.int .u8 x.f4],rfl,rfl,⟨[.int .u8 x.f3],[.int .u8 x.f4],rfl,rfl,rfl⟩⟩⟩⟩
theorem k24_mkF (W : World) (ok : Nat→Prop) (x : S24) : Kd.FK k24 W ok x [.int .u8 x.f0.f0,.int .u8 x.f0.f1,.int .u8 x.f0.f2,.int .u8 x.f0.f3,.int .u8 x.f0.f4,.int .u8 x.f0.f5,.int .u8 x.f0.f6,.int .u8 x.f0.f7,.int .u8 x.f1,.int .u8 x.f2,.int .u8 x.f3,.int .u8 x.f4]:=fun W2 _=>k24_mk W2 x
def rd_T24 (xs : List S24) (i : Int) : S24:=xs.getD i.toNat z24
theorem at_T24 {w : World} {A : Option Addr} {n : Nat} {xs : List S24} (h : Kd.C k24 w A n xs) (i : Int) (h0 : 0≤i) (h1 : i < n) : ∃ ad ,A=some ad∧w.cell? (ad.add (i.toNat * 12))=some (.int .u8 (rd_T24 xs i).f0.f0)∧w.cell? ⟨(ad.add (i.toNat * 12)).block,(ad.add (i.toNat * 12)).off + 1,none⟩=some (.int .u8 (rd_T24 xs i).f0.f1)∧w.cell? ⟨(ad.add (i.toNat * 12)).block,(ad.add (i.toNat * 12)).off + 2,none⟩=some (.int .u8 (rd_T24 xs i).f0.f2)∧w.cell? ⟨(ad.add (i.toNat * 12)).block,(ad.add (i.toNat * 12)).off + 3,none⟩=some (.int .u8 (rd_T24 xs i).f0.f3)∧w.cell? ⟨(ad.add (i.toNat * 12)).block,(ad.add (i.toNat * 12)).off + 4,none⟩=some (.int .u8 (rd_T24 xs i).f0.f4)∧w.cell? ⟨(ad.add (i.toNat * 12)).block,(ad.add (i.toNat * 12)).off + 5,none⟩=some (.int .u8 (rd_T24 xs i).f0.f5)∧w.cell? ⟨(ad.add (i.toNat * 12)).block,(ad.add (i.toNat * 12)).off + 6,none⟩=some (.int .u8 (rd_T24 xs i).f0.f6)∧w.cell? ⟨(ad.add (i.toNat * 12)).block,(ad.add (i.toNat * 12)).off + 7,none⟩=some (.int .u8 (rd_T24 xs i).f0.f7)∧w.cell? ⟨(ad.add (i.toNat * 12)).block,(ad.add (i.toNat * 12)).off + 8,none⟩=some (.int .u8 (rd_T24 xs i).f1)∧w.cell? ⟨(ad.add (i.toNat * 12)).block,(ad.add (i.toNat * 12)).off + 9,none⟩=some (.int .u8 (rd_T24 xs i).f2)∧w.cell? ⟨(ad.add (i.toNat * 12)).block,(ad.add (i.toNat * 12)).off + 10,none⟩=some (.int .u8 (rd_T24 xs i).f3)∧w.cell? ⟨(ad.add (i.toNat * 12)).block,(ad.add (i.toNat * 12)).off + 11,none⟩=some (.int .u8 (rd_T24 xs i).f4):=by
 obtain ⟨ad,c,e,_,hK,hc0⟩:=Kd.C_get h z24 i h0 h1
 have hc : ∀ j u,c[j]?=some u→w.cell? (ad.add (i.toNat * 12 + j))=some u:=hc0
 obtain rfl:=k24_open hK
 exact ⟨ad,e,hc 0 _ rfl,by rw [← add_field _ _ 1 (by omega)];exact hc 1 _ rfl,by rw [← add_field _ _ 2 (by omega)];exact hc 2 _ rfl,by rw [← add_field _ _ 3 (by omega)];exact hc 3 _ rfl,by rw [← add_field _ _ 4 (by omega)];exact hc 4 _ rfl,by rw [← add_field _ _ 5 (by omega)];exact hc 5 _ rfl,by rw [← add_field _ _ 6 (by omega)];exact hc 6 _ rfl,by rw [← add_field _ _ 7 (by omega)];exact hc 7 _ rfl,by rw [← add_field _ _ 8 (by omega)];exact hc 8 _ rfl,by rw [← add_field _ _ 9 (by omega)];exact hc 9 _ rfl,by rw [← add_field _ _ 10 (by omega)];exact hc 10 _ rfl,by rw [← add_field _ _ 11 (by omega)];exact hc 11 _ rfl⟩
def rd_L8 (xs : List (List S39)) (i : Int) : (List S39):=xs.getD i.toNat ([] : List S39)
theorem at_L8 {w : World} {A : Option Addr} {n : Nat} {xs : List (List S39)} (h : Kd.C (Kd.slice 39 k39) w A n xs) (i : Int) (h0 : 0≤i) (h1 : i < n) : ∃ ad A0 c0,A=some ad∧w.cell? (ad.add i.toNat)=some (.slice A0 (rd_L8 xs i).length c0)∧(rd_L8 xs i).length≤c0∧k39.C w A0 (rd_L8 xs i).length (rd_L8 xs i):=by
 obtain ⟨ad,c,e,_,hK,hc0⟩:=Kd.C_get h ([] : List S39) i h0 h1
 have hc : ∀ j u,c[j]?=some u→w.cell? (ad.add (i.toNat * 1 + j))=some u:=hc0
 obtain ⟨A0,c0,rfl,l0,g0⟩:=hK
 exact ⟨ad,A0,c0,e,by have hq:=hc 0 _ rfl;rwa [Nat.mul_one,Nat.add_zero] at hq,l0,g0⟩
def rd_L9 (xs : List (List (List S37))) (i : Int) : (List (List S37)):=xs.getD i.toNat ([] : List (List S37))
theorem at_L9 {w : World} {A : Option Addr} {n : Nat} {xs : List (List (List S37))} (h : Kd.C (Kd.slice 41 (Kd.slice 37 k37)) w A n xs) (i : Int) (h0 : 0≤i) (h1 : i < n) : ∃ ad A0 c0,A=some ad∧w.cell? (ad.add i.toNat)=some (.slice A0 (rd_L9 xs i).length c0)∧(rd_L9 xs i).length≤c0∧(Kd.slice 37 k37).C w A0 (rd_L9 xs i).length (rd_L9 xs i):=by
 obtain ⟨ad,c,e,_,hK,hc0⟩:=Kd.C_get h ([] : List (List S37)) i h0 h1
 have hc : ∀ j u,c[j]?=some u→w.cell? (ad.add (i.toNat * 1 + j))=some u:=hc0
 obtain ⟨A0,c0,rfl,l0,g0⟩:=hK
 exact ⟨ad,A0,c0,e,by have hq:=hc 0 _ rfl;rwa [Nat.mul_one,Nat.add_zero] at hq,l0,g0⟩
def rd_L10 (xs : List (List Int)) (i : Int) : (List Int):=xs.getD i.toNat ([] : List Int)
theorem at_L10 {w : World} {A : Option Addr} {n : Nat} {xs : List (List Int)} (h : Kd.C (Kd.slice 3 (Kd.int .i64)) w A n xs) (i : Int) (h0 : 0≤i) (h1 : i < n) : ∃ ad A0 c0,A=some ad∧w.cell? (ad.add i.toNat)=some (.slice A0 (rd_L10 xs i).length c0)∧(rd_L10 xs i).length≤c0∧(Kd.int .i64).C w A0 (rd_L10 xs i).length (rd_L10 xs i):=by
 obtain ⟨ad,c,e,_,hK,hc0⟩:=Kd.C_get h ([] : List Int) i h0 h1
 have hc : ∀ j u,c[j]?=some u→w.cell? (ad.add (i.toNat * 1 + j))=some u:=hc0
 obtain ⟨A0,c0,rfl,l0,g0⟩:=hK
 exact ⟨ad,A0,c0,e,by have hq:=hc 0 _ rfl;rwa [Nat.mul_one,Nat.add_zero] at hq,l0,g0⟩
structure S29 where
 f0 : (List (List S37))
 f1 : (List Int)
def z29 : S29:=⟨([] : List (List S37)),([] : List Int)⟩
def k29 : Kd S29:=Kd.iso (Kd.pair (Kd.slice 41 (Kd.slice 37 k37)) (Kd.slice 3 (Kd.int .i64))) (fun x : S29=>(x.f0,x.f1))
theorem k29_open {w : World} {x : S29} {cs : List Value} (h : k29.K w x cs) : ∃ A0 c0 A1 c1,cs=[.slice A0 x.f0.length c0,.slice A1 x.f1.length c1]∧x.f0.length≤c0∧(Kd.slice 37 k37).C w A0 x.f0.length x.f0∧x.f1.length≤c1∧(Kd.int .i64).C w A1 x.f1.length x.f1:=by
 obtain ⟨_,_,rfl,⟨A0,c0,rfl,l0,g0⟩,⟨A1,c1,rfl,l1,g1⟩⟩:=h
 exact ⟨A0,c0,A1,c1,rfl,l0,g0,l1,g1⟩
theorem k29_openM {w : World} {base : Nat} {ok : Nat→Prop} {x : S29} {cs : List Value} (h : k29.M w base ok x cs) : ∃ v0 v1,cs=[v0,v1]∧(Kd.slice 37 k37).R 41 w base ok v0 x.f0∧(Kd.int .i64).R 3 w base ok v1 x.f1:=by
 obtain ⟨_,_,rfl,⟨v0,rfl,g0⟩,⟨v1,rfl,g1⟩⟩:=h
 exact ⟨v0,v1,rfl,g0,g1⟩
theorem k29_mk (w : World) (x : S29) {A0 : Option Addr} {c0 : Nat} (l0 : x.f0.length≤c0) (g0 : (Kd.slice 37 k37).C w A0 x.f0.length x.f0) {A1 : Option Addr} {c1 : Nat} (l1 : x.f1.length≤c1) (g1 : (Kd.int .i64).C w A1 x.f1.length x.f1) : k29.K w x [.slice A0 x.f0.length c0,.slice A1 x.f1.length c1]:=⟨[.slice A0 x.f0.length c0],[.slice A1 x.f1.length c1],rfl,⟨A0,c0,rfl,l0,g0⟩,⟨A1,c1,rfl,l1,g1⟩⟩
theorem k29_mkM (w : World) (base : Nat) (ok : Nat→Prop) (x : S29) {v0 : Value} (g0 : (Kd.slice 37 k37).R 41 w base ok v0 x.f0) {v1 : Value} (g1 : (Kd.int .i64).R 3 w base ok v1 x.f1) : k29.M w base ok x [v0,v1]:=⟨[v0],[v1],rfl,⟨v0,rfl,g0⟩,⟨v1,rfl,g1⟩⟩
theorem k29_openF {W : World} {ok : Nat→Prop} {x : S29} {cs : List Value} (h : Kd.FK k29 W ok x cs) : ∃ A0 c0 A1 c1,cs=[.slice A0 x.f0.length c0,.slice A1 x.f1.length c1]∧x.f0.length≤c0∧Kd.F (Kd.slice 37 k37) W ok A0 x.f0.length x.f0∧x.f1.length≤c1∧Kd.F (Kd.int .i64) W ok A1 x.f1.length x.f1:=by
 obtain ⟨A0,c0,A1,c1,rfl,l0,_,l1,_⟩:=k29_open (Kd.FK_now h)
 exact ⟨A0,c0,A1,c1,rfl,l0,(fun W' hW=>by obtain ⟨A0_,c0_,A1_,c1_,he,l0_,g0_,l1_,g1_⟩:=k29_open (h W' hW);injection (Option.some.inj (show some (Value.slice A0 x.f0.length c0)=some (Value.slice A0_ x.f0.length c0_) from congrArg (fun l=>l[0]?) he)) with ha_ _ _;rw [ha_];exact g0_),l1,(fun W' hW=>by obtain ⟨A0_,c0_,A1_,c1_,he,l0_,g0_,l1_,g1_⟩:=k29_open (h W' hW);injection (Option.some.inj (show some (Value.slice A1 x.f1.length c1)=some (Value.slice A1_ x.f1.length c1_) from congrArg (fun l=>l[1]?) he)) with ha_ _ _;rw [ha_];exact g1_)⟩
theorem k29_mkF (W : World) (ok : Nat→Prop) (x : S29) {A0 : Option Addr} {c0 : Nat} (l0 : x.f0.length≤c0) (g0 : Kd.F (Kd.slice 37 k37) W ok A0 x.f0.length x.f0) {A1 : Option Addr} {c1 : Nat} (l1 : x.f1.length≤c1) (g1 : Kd.F (Kd.int .i64) W ok A1 x.f1.length x.f1) : Kd.FK k29 W ok x [.slice A0 x.f0.length c0,.slice A1 x.f1.length c1]:=fun W2 hW=>k29_mk W2 x l0 (g0 W2 hW) l1 (g1 W2 hW)
def rd_T29 (xs : List S29) (i : Int) : S29:=xs.getD i.toNat z29
theorem at_T29 {w : World} {A : Option Addr} {n : Nat} {xs : List S29} (h : Kd.C k29 w A n xs) (i : Int) (h0 : 0≤i) (h1 : i < n) : ∃ ad A0 c0 A1 c1,A=some ad∧w.cell? (ad.add (i.toNat * 2))=some (.slice A0 (rd_T29 xs i).f0.length c0)∧w.cell? ⟨(ad.add (i.toNat * 2)).block,(ad.add (i.toNat * 2)).off + 1,none⟩=some (.slice A1 (rd_T29 xs i).f1.length c1)∧(rd_T29 xs i).f0.length≤c0∧(Kd.slice 37 k37).C w A0 (rd_T29 xs i).f0.length (rd_T29 xs i).f0∧(rd_T29 xs i).f1.length≤c1∧(Kd.int .i64).C w A1 (rd_T29 xs i).f1.length (rd_T29 xs i).f1:=by
 obtain ⟨ad,c,e,_,hK,hc0⟩:=Kd.C_get h z29 i h0 h1
 have hc : ∀ j u,c[j]?=some u→w.cell? (ad.add (i.toNat * 2 + j))=some u:=hc0
 obtain ⟨A0,c0,A1,c1,rfl,l0,g0,l1,g1⟩:=k29_open hK
 exact ⟨ad,A0,c0,A1,c1,e,hc 0 _ rfl,by rw [← add_field _ _ 1 (by omega)];exact hc 1 _ rfl,l0,g0,l1,g1⟩
structure S47 where
 f0 : S39
 f1 : S39
def z47 : S47:=⟨z39,z39⟩
def k47 : Kd S47:=Kd.iso (Kd.pair k39 k39) (fun x : S47=>(x.f0,x.f1))
theorem k47_open {w : World} {x : S47} {cs : List Value} (h : k47.K w x cs) : cs=[.int .i64 x.f0.f0,.int .i64 x.f0.f1,.int .i64 x.f0.f2.f0,.string x.f0.f2.f1,.int .i64 x.f1.f0,.int .i64 x.f1.f1,.int .i64 x.f1.f2.f0,.string x.f1.f2.f1]:=by
 obtain ⟨_,_,rfl,s0,s4⟩:=h
 obtain rfl:=k39_open s0
 obtain rfl:=k39_open s4
 exact rfl
theorem k47_openM {w : World} {base : Nat} {ok : Nat→Prop} {x : S47} {cs : List Value} (h : k47.M w base ok x cs) : cs=[.int .i64 x.f0.f0,.int .i64 x.f0.f1,.int .i64 x.f0.f2.f0,.string x.f0.f2.f1,.int .i64 x.f1.f0,.int .i64 x.f1.f1,.int .i64 x.f1.f2.f0,.string x.f1.f2.f1]:=by
 obtain ⟨_,_,rfl,s0,s4⟩:=h
 obtain rfl:=k39_openM s0
 obtain rfl:=k39_openM s4
 exact rfl
theorem k47_mk (w : World) (x : S47)  : k47.K w x [.int .i64 x.f0.f0,.int .i64 x.f0.f1,.int .i64 x.f0.f2.f0,.string x.f0.f2.f1,.int .i64 x.f1.f0,.int .i64 x.f1.f1,.int .i64 x.f1.f2.f0,.string x.f1.f2.f1]:=⟨[.int .i64 x.f0.f0,.int .i64 x.f0.f1,.int .i64 x.f0.f2.f0,.string x.f0.f2.f1],[.int .i64 x.f1.f0,.int .i64 x.f1.f1,.int .i64 x.f1.f2.f0,.string x.f1.f2.f1],rfl,(k39_mk w x.f0 ),(k39_mk w x.f1 )⟩
theorem k47_mkM (w : World) (base : Nat) (ok : Nat→Prop) (x : S47)  : k47.M w base ok x [.int .i64 x.f0.f0,.int .i64 x.f0.f1,.int .i64 x.f0.f2.f0,.string x.f0.f2.f1,.int .i64 x.f1.f0,.int .i64 x.f1.f1,.int .i64 x.f1.f2.f0,.string x.f1.f2.f1]:=⟨[.int .i64 x.f0.f0,.int .i64 x.f0.f1,.int .i64 x.f0.f2.f0,.string x.f0.f2.f1],[.int .i64 x.f1.f0,.int .i64 x.f1.f1,.int .i64 x.f1.f2.f0,.string x.f1.f2.f1],rfl,(k39_mkM w base ok x.f0 ),(k39_mkM w base ok x.f1 )⟩
theorem k47_mkF (W : World) (ok : Nat→Prop) (x : S47) : Kd.FK k47 W ok x [.int .i64 x.f0.f0,.int .i64 x.f0.f1,.int .i64 x.f0.f2.f0,.string x.f0.f2.f1,.int .i64 x.f1.f0,.int .i64 x.f1.f1,.int .i64 x.f1.f2.f0,.string x.f1.f2.f1]:=fun W2 _=>k47_mk W2 x
def rd_T47 (xs : List S47) (i : Int) : S47:=xs.getD i.toNat z47
theorem at_T47 {w : World} {A : Option Addr} {n : Nat} {xs : List S47} (h : Kd.C k47 w A n xs) (i : Int) (h0 : 0≤i) (h1 : i < n) : ∃ ad ,A=some ad∧w.cell? (ad.add (i.toNat * 8))=some (.int .i64 (rd_T47 xs i).f0.f0)∧w.cell? ⟨(ad.add (i.toNat * 8)).block,(ad.add (i.toNat * 8)).off + 1,none⟩=some (.int .i64 (rd_T47 xs i).f0.f1)∧w.cell? ⟨(ad.add (i.toNat * 8)).block,(ad.add (i.toNat * 8)).off + 2,none⟩=some (.int .i64 (rd_T47 xs i).f0.f2.f0)∧w.cell? ⟨(ad.add (i.toNat * 8)).block,(ad.add (i.toNat * 8)).off + 3,none⟩=some (.string (rd_T47 xs i).f0.f2.f1)∧w.cell? ⟨(ad.add (i.toNat * 8)).block,(ad.add (i.toNat * 8)).off + 4,none⟩=some (.int .i64 (rd_T47 xs i).f1.f0)∧w.cell? ⟨(ad.add (i.toNat * 8)).block,(ad.add (i.toNat * 8)).off + 5,none⟩=some (.int .i64 (rd_T47 xs i).f1.f1)∧w.cell? ⟨(ad.add (i.toNat * 8)).block,(ad.add (i.toNat * 8)).off + 6,none⟩=some (.int .i64 (rd_T47 xs i).f1.f2.f0)∧w.cell? ⟨(ad.add (i.toNat * 8)).block,(ad.add (i.toNat * 8)).off + 7,none⟩=some (.string (rd_T47 xs i).f1.f2.f1):=by
 obtain ⟨ad,c,e,_,hK,hc0⟩:=Kd.C_get h z47 i h0 h1
 have hc : ∀ j u,c[j]?=some u→w.cell? (ad.add (i.toNat * 8 + j))=some u:=hc0
 obtain rfl:=k47_open hK
 exact ⟨ad,e,hc 0 _ rfl,by rw [← add_field _ _ 1 (by omega)];exact hc 1 _ rfl,by rw [← add_field _ _ 2 (by omega)];exact hc 2 _ rfl,by rw [← add_field _ _ 3 (by omega)];exact hc 3 _ rfl,by rw [← add_field _ _ 4 (by omega)];exact hc 4 _ rfl,by rw [← add_field _ _ 5 (by omega)];exact hc 5 _ rfl,by rw [← add_field _ _ 6 (by omega)];exact hc 6 _ rfl,by rw [← add_field _ _ 7 (by omega)];exact hc 7 _ rfl⟩
def rd_L13 (xs : List (List ByteArray)) (i : Int) : (List ByteArray):=xs.getD i.toNat ([] : List ByteArray)
theorem at_L13 {w : World} {A : Option Addr} {n : Nat} {xs : List (List ByteArray)} (h : Kd.C (Kd.slice 9 Kd.string) w A n xs) (i : Int) (h0 : 0≤i) (h1 : i < n) : ∃ ad A0 c0,A=some ad∧w.cell? (ad.add i.toNat)=some (.slice A0 (rd_L13 xs i).length c0)∧(rd_L13 xs i).length≤c0∧Kd.string.C w A0 (rd_L13 xs i).length (rd_L13 xs i):=by
 obtain ⟨ad,c,e,_,hK,hc0⟩:=Kd.C_get h ([] : List ByteArray) i h0 h1
 have hc : ∀ j u,c[j]?=some u→w.cell? (ad.add (i.toNat * 1 + j))=some u:=hc0
 obtain ⟨A0,c0,rfl,l0,g0⟩:=hK
 exact ⟨ad,A0,c0,e,by have hq:=hc 0 _ rfl;rwa [Nat.mul_one,Nat.add_zero] at hq,l0,g0⟩
end Go.Proofs.Ytbkpifcjgedjaaa.P

