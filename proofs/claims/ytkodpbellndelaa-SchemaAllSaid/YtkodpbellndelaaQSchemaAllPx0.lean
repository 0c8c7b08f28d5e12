/- Texts of SchemaAll. Merged: Px0. -/
import Derived.Test.YtkodpbellndelaaProg
import Derived.Below
import Derived.Deep.Draws
import Derived.Deep.AppendLies
import Derived.Maps.AppendAt
import Derived.OwnWalk
import Derived.Laws.BytesArg
import Derived.Laws.MakeOwn
import Derived.Laws.OwnMore
import Derived.Deep.OwnRows
import Derived.Tactics
import Derived.Lib.ConvBytes
import Derived.Laws.Slices
import Derived.WalkKit
import Derived.KernelRfl
import Derived.RowKit3
import Derived.Deep.LoopGhost
import Derived.Deep.QuietTactic
import Derived.BigQuiet
import Derived.WideLaws
import Derived.Deep.DeepCutAuto
import Derived.Deep.CutBlock
import Derived.Deep.RegionHeld3
import Derived.Laws.Rows
import Derived.Lib.AppendStr
import Derived.ArgAppend
import Derived.Laws.IdiomCopy
import Derived.OrdersHeld
import Derived.Laws.BitsLemmas
import Derived.RowKit
import Derived.Test.YtkodpbellndelaaQSchemaAllHKit
import Derived.Test.YtkodpbellndelaaQSchemaAllWWords
import Derived.Test.YtkodpbellndelaaQSchemaAllWLast
import Derived.Test.YtkodpbellndelaaQSchemaAllWTab
import Derived.Test.YtkodpbellndelaaQSchemaAllWFour
import Derived.Test.YtkodpbellndelaaQSchemaAllWQPut
import Derived.Test.YtkodpbellndelaaQSchemaAllWApart
import Derived.Test.YtkodpbellndelaaQSchemaAllWArr
import Derived.Test.YtkodpbellndelaaQSchemaAllWZeros
import Derived.Test.YtkodpbellndelaaQSchemaAllWFoot
import Derived.Test.YtkodpbellndelaaQSchemaAllWKept
import Derived.Test.YtkodpbellndelaaQSchemaAllWShare
import Derived.Test.YtkodpbellndelaaQSchemaAllWN
import Derived.Test.YtkodpbellndelaaQSchemaAllWFootNe
import Derived.Test.YtkodpbellndelaaQSchemaAllWAt
import Derived.Test.YtkodpbellndelaaQSchemaAllWEqStruct
import Derived.Test.YtkodpbellndelaaQSchemaAllWRepsOne
import Derived.Test.YtkodpbellndelaaQSchemaAllWInv
import Derived.Test.YtkodpbellndelaaQSchemaAllWInvWords
import Derived.Test.YtkodpbellndelaaQSchemaAllWGuard
import Derived.Test.YtkodpbellndelaaQSchemaAllWNEv
import Derived.Test.YtkodpbellndelaaQSchemaAllWMore
namespace Go.Proofs.Ytkodpbellndelaa.P
open Go.RowKit Go.Proofs.YtkodpbellndelaaW.PrintWords Go.Proofs.YtkodpbellndelaaW.PrintLast Go.Proofs.YtkodpbellndelaaW.PrintMore
attribute [local go_sem] max2_int min2_int max_two min_two max_three min_three max_four min_four   -- for this text's walks alone
set_option linter.unusedVariables false
set_option linter.unusedSimpArgs false
def errW : Option Int→Value
 | none=>.nilIface
 | some c=>.iface 0 (.int .i64 c)
theorem errW_none : errW none=.nilIface:=rfl
theorem errW_some (c : Int) : errW (some c)=.iface 0 (.int .i64 c):=rfl
theorem info3 : (Try.prog.info? 3).map (fun i=>(i.zero,i.size,i.bytes))=some (some (.int .i64 0),1,8):=by kernel_rfl
theorem info5 : (Try.prog.info? 5).map (fun i=>(i.zero,i.size,i.bytes))=some (some (.int .u8 0),1,1):=by kernel_rfl
theorem info26 : (Try.prog.info? 26).map (fun i=>(i.zero,i.size,i.bytes))=some (some (.slice none 0 0),1,24):=by kernel_rfl
theorem info28 : (Try.prog.info? 28).map (fun i=>(i.zero,i.size,i.bytes))=some (some (.slice none 0 0),1,24):=by kernel_rfl
theorem info34 : (Try.prog.info? 34).map (fun i=>(i.zero,i.size,i.bytes))=some (some (.agg #[(.int .i64 0),(.string ⟨#[]⟩)]),2,24):=by kernel_rfl
def rd_L1 (xs : List (List Int)) (i : Int) : (List Int):=xs.getD i.toNat ([] : List Int)
theorem at_L1 {w : World} {A : Option Addr} {n : Nat} {xs : List (List Int)} (h : Kd.C (Kd.slice 3 (Kd.int .i64)) w A n xs) (i : Int) (h0 : 0≤i) (h1 : i < n) : ∃ ad A0 c0,A=some ad∧w.cell? (ad.add i.toNat)=some (.slice A0 (rd_L1 xs i).length c0)∧(rd_L1 xs i).length≤c0∧(Kd.int .i64).C w A0 (rd_L1 xs i).length (rd_L1 xs i):=by
 obtain ⟨ad,c,e,_,hK,hc0⟩:=Kd.C_get h ([] : List Int) i h0 h1
 have hc : ∀ j u,c[j]?=some u→w.cell? (ad.add (i.toNat * 1 + j))=some u:=hc0
 obtain ⟨A0,c0,rfl,l0,g0⟩:=hK
 exact ⟨ad,A0,c0,e,by have hq:=hc 0 _ rfl;rwa [Nat.mul_one,Nat.add_zero] at hq,l0,g0⟩
structure S30 where
 f0 : (List Int)
 f1 : Int
 f2 : Int
 f3 : Int
def z30 : S30:=⟨([] : List Int),(0 : Int),(0 : Int),(0 : Int)⟩
def k30 : Kd S30:=Kd.iso (Kd.pair (Kd.slice 3 (Kd.int .i64)) (Kd.pair (Kd.int .i64) (Kd.pair (Kd.int .i64) (Kd.int .i64)))) (fun x : S30=>(x.f0,x.f1,x.f2,x.f3))
theorem k30_heap : Kd.Heap k30:=Kd.heap_iso _ (Kd.heap_pair (Kd.heap_slice 3 (Kd.heap_int .i64)) (Kd.heap_pair (Kd.heap_int .i64) (Kd.heap_pair (Kd.heap_int .i64) (Kd.heap_int .i64))))
theorem k30_open {w : World} {x : S30} {cs : List Value} (h : k30.K w x cs) : ∃ A0 c0,cs=[.slice A0 x.f0.length c0,.int .i64 x.f1,.int .i64 x.f2,.int .i64 x.f3]∧x.f0.length≤c0∧(Kd.int .i64).C w A0 x.f0.length x.f0:=by
 obtain ⟨_,_,rfl,⟨A0,c0,rfl,l0,g0⟩,⟨_,_,rfl,rfl,⟨_,_,rfl,rfl,rfl⟩⟩⟩:=h
 exact ⟨A0,c0,rfl,l0,g0⟩
theorem k30_openM {w : World} {base : Nat} {ok : Nat→Prop} {x : S30} {cs : List Value} (h : k30.M w base ok x cs) : ∃ v0,cs=[v0,.int .i64 x.f1,.int .i64 x.f2,.int .i64 x.f3]∧(Kd.int .i64).R 3 w base ok v0 x.f0:=by
 obtain ⟨_,_,rfl,⟨v0,rfl,g0⟩,⟨_,_,rfl,rfl,⟨_,_,rfl,rfl,rfl⟩⟩⟩:=h
 exact ⟨v0,rfl,g0⟩
theorem k30_mk (w : World) (x : S30) {A0 : Option Addr} {c0 : Nat} (l0 : x.f0.length≤c0) (g0 : (Kd.int .i64).C w A0 x.f0.length x.f0) : k30.K w x [.slice A0 x.f0.length c0,.int .i64 x.f1,.int .i64 x.f2,.int .i64 x.f3]:=⟨[.slice A0 x.f0.length c0],[.int .i64 x.f1,.int .i64 x.f2,.int .i64 x.f3],rfl,⟨A0,c0,rfl,l0,g0⟩,⟨[.int .i64 x.f1],[.int .i64 x.f2,.int .i64 x.f3],rfl,rfl,⟨[.int .i64 x.f2],[.int .i64 x.f3],rfl,rfl,rfl⟩⟩⟩
theorem k30_mkM (w : World) (base : Nat) (ok : Nat→Prop) (x : S30) {v0 : Value} (g0 : (Kd.int .i64).R 3 w base ok v0 x.f0) : k30.M w base ok x [v0,.int .i64 x.f1,.int .i64 x.f2,.int .i64 x.f3]:=⟨[v0],[.int .i64 x.f1,.int .i64 x.f2,.int .i64 x.f3],rfl,⟨v0,rfl,g0⟩,⟨[.int .i64 x.f1],[.int .i64 x.f2,.int .i64 x.f3],rfl,rfl,⟨[.int .i64 x.f2],[.int .i64 x.f3],rfl,rfl,rfl⟩⟩⟩
theorem k30_openF {W : World} {ok : Nat→Prop} {x : S30} {cs : List Value} (h : Kd.FK k30 W ok x cs) : ∃ A0 c0,cs=[.slice A0 x.f0.length c0,.int .i64 x.f1,.int .i64 x.f2,.int .i64 x.f3]∧x.f0.length≤c0∧Kd.F (Kd.int .i64) W ok A0 x.f0.length x.f0:=by
 obtain ⟨A0,c0,rfl,l0,_⟩:=k30_open (Kd.FK_now h)
 exact ⟨A0,c0,rfl,l0,(fun W' hW=>by obtain ⟨A0_,c0_,he,l0_,g0_⟩:=k30_open (h W' hW);injection (Option.some.inj (show some (Value.slice A0 x.f0.length c0)=some (Value.slice A0_ x.f0.length c0_) from congrArg (fun l=>l[0]?) he)) with ha_ _ _;rw [ha_];exact g0_)⟩
theorem k30_mkF (W : World) (ok : Nat→Prop) (x : S30) {A0 : Option Addr} {c0 : Nat} (l0 : x.f0.length≤c0) (g0 : Kd.F (Kd.int .i64) W ok A0 x.f0.length x.f0) : Kd.FK k30 W ok x [.slice A0 x.f0.length c0,.int .i64 x.f1,.int .i64 x.f2,.int .i64 x.f3]:=fun W2 hW=>k30_mk W2 x l0 (g0 W2 hW)
def rd_T30 (xs : List S30) (i : Int) : S30:=xs.getD i.toNat z30
theorem at_T30 {w : World} {A : Option Addr} {n : Nat} {xs : List S30} (h : Kd.C k30 w A n xs) (i : Int) (h0 : 0≤i) (h1 : i < n) : ∃ ad A0 c0,A=some ad∧w.cell? (ad.add (i.toNat * 4))=some (.slice A0 (rd_T30 xs i).f0.length c0)∧w.cell? ⟨(ad.add (i.toNat * 4)).block,(ad.add (i.toNat * 4)).off + 1,none⟩=some (.int .i64 (rd_T30 xs i).f1)∧w.cell? ⟨(ad.add (i.toNat * 4)).block,(ad.add (i.toNat * 4)).off + 2,none⟩=some (.int .i64 (rd_T30 xs i).f2)∧w.cell? ⟨(ad.add (i.toNat * 4)).block,(ad.add (i.toNat * 4)).off + 3,none⟩=some (.int .i64 (rd_T30 xs i).f3)∧(rd_T30 xs i).f0.length≤c0∧(Kd.int .i64).C w A0 (rd_T30 xs i).f0.length (rd_T30 xs i).f0:=by
 obtain ⟨ad,c,e,_,hK,hc0⟩:=Kd.C_get h z30 i h0 h1
 have hc : ∀ j u,c[j]?=some u→w.cell? (ad.add (i.toNat * 4 + j))=some u:=hc0
 obtain ⟨A0,c0,rfl,l0,g0⟩:=k30_open hK
 exact ⟨ad,A0,c0,e,hc 0 _ rfl,by rw [← add_field _ _ 1 (by omega)];exact hc 1 _ rfl,by rw [← add_field _ _ 2 (by omega)];exact hc 2 _ rfl,by rw [← add_field _ _ 3 (by omega)];exact hc 3 _ rfl,l0,g0⟩
structure S34 where
 f0 : Int
 f1 : ByteArray
def z34 : S34:=⟨(0 : Int),(⟨#[]⟩ : ByteArray)⟩
def k34 : Kd S34:=Kd.iso (Kd.pair (Kd.int .i64) Kd.string) (fun x : S34=>(x.f0,x.f1))
theorem k34_heap : Kd.Heap k34:=Kd.heap_iso _ (Kd.heap_pair (Kd.heap_int .i64) Kd.heap_string)
theorem k34_open {w : World} {x : S34} {cs : List Value} (h : k34.K w x cs) : cs=[.int .i64 x.f0,.string x.f1]:=by
 obtain ⟨_,_,rfl,rfl,rfl⟩:=h
 exact rfl
theorem k34_openM {w : World} {base : Nat} {ok : Nat→Prop} {x : S34} {cs : List Value} (h : k34.M w base ok x cs) : cs=[.int .i64 x.f0,.string x.f1]:=by
 obtain ⟨_,_,rfl,rfl,rfl⟩:=h
 exact rfl
theorem k34_mk (w : World) (x : S34)  : k34.K w x [.int .i64 x.f0,.string x.f1]:=⟨[.int .i64 x.f0],[.string x.f1],rfl,rfl,rfl⟩
theorem k34_mkM (w : World) (base : Nat) (ok : Nat→Prop) (x : S34)  : k34.M w base ok x [.int .i64 x.f0,.string x.f1]:=⟨[.int .i64 x.f0],[.string x.f1],rfl,rfl,rfl⟩
theorem k34_mkF (W : World) (ok : Nat→Prop) (x : S34) : Kd.FK k34 W ok x [.int .i64 x.f0,.string x.f1]:=fun W2 _=>k34_mk W2 x
def rd_T34 (xs : List S34) (i : Int) : S34:=xs.getD i.toNat z34
theorem at_T34 {w : World} {A : Option Addr} {n : Nat} {xs : List S34} (h : Kd.C k34 w A n xs) (i : Int) (h0 : 0≤i) (h1 : i < n) : ∃ ad ,A=some ad∧w.cell? (ad.add (i.toNat * 2))=some (.int .i64 (rd_T34 xs i).f0)∧w.cell? ⟨(ad.add (i.toNat * 2)).block,(ad.add (i.toNat * 2)).off + 1,none⟩=some (.string (rd_T34 xs i).f1):=by
 obtain ⟨ad,c,e,_,hK,hc0⟩:=Kd.C_get h z34 i h0 h1
 have hc : ∀ j u,c[j]?=some u→w.cell? (ad.add (i.toNat * 2 + j))=some u:=hc0
 obtain rfl:=k34_open hK
 exact ⟨ad,e,hc 0 _ rfl,by rw [← add_field _ _ 1 (by omega)];exact hc 1 _ rfl⟩
def rd_L6 (xs : List (List S34)) (i : Int) : (List S34):=xs.getD i.toNat ([] : List S34)
theorem at_L6 {w : World} {A : Option Addr} {n : Nat} {xs : List (List S34)} (h : Kd.C (Kd.slice 34 k34) w A n xs) (i : Int) (h0 : 0≤i) (h1 : i < n) : ∃ ad A0 c0,A=some ad∧w.cell? (ad.add i.toNat)=some (.slice A0 (rd_L6 xs i).length c0)∧(rd_L6 xs i).length≤c0∧k34.C w A0 (rd_L6 xs i).length (rd_L6 xs i):=by
 obtain ⟨ad,c,e,_,hK,hc0⟩:=Kd.C_get h ([] : List S34) i h0 h1
 have hc : ∀ j u,c[j]?=some u→w.cell? (ad.add (i.toNat * 1 + j))=some u:=hc0
 obtain ⟨A0,c0,rfl,l0,g0⟩:=hK
 exact ⟨ad,A0,c0,e,by have hq:=hc 0 _ rfl;rwa [Nat.mul_one,Nat.add_zero] at hq,l0,g0⟩
def rd_L8 (xs : List (List (List S34))) (i : Int) : (List (List S34)):=xs.getD i.toNat ([] : List (List S34))
theorem at_L8 {w : World} {A : Option Addr} {n : Nat} {xs : List (List (List S34))} (h : Kd.C (Kd.slice 26 (Kd.slice 34 k34)) w A n xs) (i : Int) (h0 : 0≤i) (h1 : i < n) : ∃ ad A0 c0,A=some ad∧w.cell? (ad.add i.toNat)=some (.slice A0 (rd_L8 xs i).length c0)∧(rd_L8 xs i).length≤c0∧(Kd.slice 34 k34).C w A0 (rd_L8 xs i).length (rd_L8 xs i):=by
 obtain ⟨ad,c,e,_,hK,hc0⟩:=Kd.C_get h ([] : List (List S34)) i h0 h1
 have hc : ∀ j u,c[j]?=some u→w.cell? (ad.add (i.toNat * 1 + j))=some u:=hc0
 obtain ⟨A0,c0,rfl,l0,g0⟩:=hK
 exact ⟨ad,A0,c0,e,by have hq:=hc 0 _ rfl;rwa [Nat.mul_one,Nat.add_zero] at hq,l0,g0⟩
structure S22 where
 f0 : Int
 f1 : Int
 f2 : Int
 f3 : Int
 f4 : Int
 f5 : Int
 f6 : Int
 f7 : Int
def z22 : S22:=⟨(0 : Int),(0 : Int),(0 : Int),(0 : Int),(0 : Int),(0 : Int),(0 : Int),(0 : Int)⟩
def k22 : Kd S22:=Kd.iso (Kd.pair (Kd.int .u8) (Kd.pair (Kd.int .u8) (Kd.pair (Kd.int .u8) (Kd.pair (Kd.int .u8) (Kd.pair (Kd.int .u8) (Kd.pair (Kd.int .u8) (Kd.pair (Kd.int .u8) (Kd.int .u8)))))))) (fun x : S22=>(x.f0,x.f1,x.f2,x.f3,x.f4,x.f5,x.f6,x.f7))
theorem k22_heap : Kd.Heap k22:=Kd.heap_iso _ (Kd.heap_pair (Kd.heap_int .u8) (Kd.heap_pair (Kd.heap_int .u8) (Kd.heap_pair (Kd.heap_int .u8) (Kd.heap_pair (Kd.heap_int .u8) (Kd.heap_pair (Kd.heap_int .u8) (Kd.heap_pair (Kd.heap_int .u8) (Kd.heap_pair (Kd.heap_int .u8) (Kd.heap_int .u8))))))))
theorem k22_open {w : World} {x : S22} {cs : List Value} (h : k22.K w x cs) : cs=[.int .u8 x.f0,.int .u8 x.f1,.int .u8 x.f2,.int .u8 x.f3,.int .u8 x.f4,.int .u8 x.f5,.int .u8 x.f6,.int .u8 x.f7]:=by
 obtain ⟨_,_,rfl,rfl,⟨_,_,rfl,rfl,⟨_,_,rfl,rfl,⟨_,_,rfl,rfl,⟨_,_,rfl,rfl,⟨_,_,rfl,rfl,⟨_,_,rfl,rfl,rfl⟩⟩⟩⟩⟩⟩⟩:=h
 exact rfl
theorem k22_openM {w : World} {base : Nat} {ok : Nat→Prop} {x : S22} {cs : List Value} (h : k22.M w base ok x cs) : cs=[.int .u8 x.f0,.int .u8 x.f1,.int .u8 x.f2,.int .u8 x.f3,.int .u8 x.f4,.int .u8 x.f5,.int .u8 x.f6,.int .u8 x.f7]:=by
 obtain ⟨_,_,rfl,rfl,⟨_,_,rfl,rfl,⟨_,_,rfl,rfl,⟨_,_,rfl,rfl,⟨_,_,rfl,rfl,⟨_,_,rfl,rfl,⟨_,_,rfl,rfl,rfl⟩⟩⟩⟩⟩⟩⟩:=h
 exact rfl
theorem k22_mk (w : World) (x : S22)  : k22.K w x [.int .u8 x.f0,.int .u8 x.f1,.int .u8 x.f2,.int .u8 x.f3,.int .u8 x.f4,.int .u8 x.f5,.int .u8 x.f6,.int .u8 x.f7]:=⟨[.int .u8 x.f0],[.int .u8 x.f1,.int .u8 x.f2,.int .u8 x.f3,.int .u8 x.f4,.int .u8 x.f5,.int .u8 x.f6,.int .u8 x.f7],rfl,rfl,⟨[.int .u8 x.f1],[.int .u8 x.f2,.int .u8 x.f3,.int .u8 x.f4,.int .u8 x.f5,.int .u8 x.f6,.int .u8 x.f7],rfl,rfl,⟨[.int .u8 x.f2],[.int .u8 x.f3,.int .u8 x.f4,.int .u8 x.f5,.int .u8 x.f6,.int .u8 x.f7],rfl,rfl,⟨[.int .u8 x.f3],[.int .u8 x.f4,.int .u8 x.f5,.int .u8 x.f6,.int .u8 x.f7],rfl,rfl,⟨[.int .u8 x.f4],[.int .u8 x.f5,.int .u8 x.f6,.int .u8 x.f7],rfl,rfl,⟨[.int .u8 x.f5],[.int .u8 x.f6,.int .u8 x.f7],rfl,rfl,⟨[.int .u8 x.f6],[.int .u8 x.f7],rfl,rfl,rfl⟩⟩⟩⟩⟩⟩⟩
theorem k22_mkM (w : World) (base : Nat) (ok : Nat→Prop) (x : S22)  : k22.M w base ok x [.int .u8 x.f0,.int .u8 x.f1,.int .u8 x.f2,.int .u8 x.f3,.int .u8 x.f4,.int .u8 x.f5,.int .u8 x.f6,.int .u8 x.f7]:=⟨[.int .u8 x.f0],[.int .u8 x.f1,.int .u8 x.f2,.int .u8 x.f3,.int .u8 x.f4,.int .u8 x.f5,.int .u8 x.f6,.int .u8 x.f7],rfl,rfl,⟨[.int .u8 x.f1],[.int .u8 x.f2,.int .u8 x.f3,.int .u8 x.f4,.int .u8 x.f5,.int .u8 x.f6,.int .u8 x.f7],rfl,rfl,⟨[.int .u8 x.f2],[.int .u8 x.f3,.int .u8 x.f4,.int .u8 x.f5,.int .u8 x.f6,.int .u8 x.f7],rfl,rfl,⟨[.int .u8 x.f3],[.int .u8 x.f4,.int .u8 x.f5,.int .u8 x.f6,.int .u8 x.f7],rfl,rfl,⟨[.int .u8 x.f4],[.int .u8 x.f5,.int .u8 x.f6,.int .u8 x.f7],rfl,rfl,⟨[.int .u8 x.f5],[.int .u8 x.f6,.int .u8 x.f7],rfl,rfl,⟨[.int .u8 x.f6],[.int .u8 x.f7],rfl,rfl,rfl⟩⟩⟩⟩⟩⟩⟩
theorem k22_mkF (W : World) (ok : Nat→Prop) (x : S22) : Kd.FK k22 W ok x [.int .u8 x.f0,.int .u8 x.f1,.int .u8 x.f2,.int .u8 x.f3,.int .u8 x.f4,.int .u8 x.f5,.int .u8 x.f6,.int .u8 x.f7]:=fun W2 _=>k22_mk W2 x
def rd_T22 (xs : List S22) (i : Int) : S22:=xs.getD i.toNat z22
theorem at_T22 {w : World} {A : Option Addr} {n : Nat} {xs : List S22} (h : Kd.C k22 w A n xs) (i : Int) (h0 : 0≤i) (h1 : i < n) : ∃ ad ,A=some ad∧w.cell? (ad.add (i.toNat * 8))=some (.int .u8 (rd_T22 xs i).f0)∧w.cell? ⟨(ad.add (i.toNat * 8)).block,(ad.add (i.toNat * 8)).off + 1,none⟩=some (.int .u8 (rd_T22 xs i).f1)∧w.cell? ⟨(ad.add (i.toNat * 8)).block,(ad.add (i.toNat * 8)).off + 2,none⟩=some (.int .u8 (rd_T22 xs i).f2)∧w.cell? ⟨(ad.add (i.toNat * 8)).block,(ad.add (i.toNat * 8)).off + 3,none⟩=some (.int .u8 (rd_T22 xs i).f3)∧w.cell? ⟨(ad.add (i.toNat * 8)).block,(ad.add (i.toNat * 8)).off + 4,none⟩=some (.int .u8 (rd_T22 xs i).f4)∧w.cell? ⟨(ad.add (i.toNat * 8)).block,(ad.add (i.toNat * 8)).off + 5,none⟩=some (.int .u8 (rd_T22 xs i).f5)∧w.cell? ⟨(ad.add (i.toNat * 8)).block,(ad.add (i.toNat * 8)).off + 6,none⟩=some (.int .u8 (rd_T22 xs i).f6)∧w.cell? ⟨(ad.add (i.toNat * 8)).block,(ad.add (i.toNat * 8)).off + 7,none⟩=some (.int .u8 (rd_T22 xs i).f7):=by
 obtain ⟨ad,c,e,_,hK,hc0⟩:=Kd.C_get h z22 i h0 h1
 have hc : ∀ j u,c[j]?=some u→w.cell? (ad.add (i.toNat * 8 + j))=some u:=hc0
 obtain rfl:=k22_open hK
 exact ⟨ad,e,hc 0 _ rfl,by rw [← add_field _ _ 1 (by omega)];exact hc 1 _ rfl,by rw [← add_field _ _ 2 (by omega)];exact hc 2 _ rfl,by rw [← add_field _ _ 3 (by omega)];exact hc 3 _ rfl,by rw [← add_field _ _ 4 (by omega)];exact hc 4 _ rfl,by rw [← add_field _ _ 5 (by omega)];exact hc 5 _ rfl,by rw [← add_field _ _ 6 (by omega)];exact hc 6 _ rfl,by rw [← add_field _ _ 7 (by omega)];exact hc 7 _ rfl⟩
structure S24 where
 f0 : S22
 f1 : Int
 f2 : Int
 f3 : Int
 f4 : Int
def z24 : S24:=⟨z22,(0 : Int),(0 : Int),(0 : Int),(0 : Int)⟩
def k24 : Kd S24:=Kd.iso (Kd.pair k22 (Kd.pair (Kd.int .u8) (Kd.pair (Kd.int .u8) (Kd.pair (Kd.int .u8) (Kd.int .u8))))) (fun x : S24=>(x.f0,x.f1,x.f2,x.f3,x.f4))
theorem k24_heap : Kd.Heap k24:=Kd.heap_iso _ (Kd.heap_pair k22_heap (Kd.heap_pair (Kd.heap_int .u8) (Kd.heap_pair (Kd.heap_int .u8) (Kd.heap_pair (Kd.heap_int .u8) (Kd.heap_int .u8)))))
theorem k24_open {w : World} {x : S24} {cs : List Value} (h : k24.K w x cs) : cs=[.int .u8 x.f0.f0,.int .u8 x.f0.f1,.int .u8 x.f0.f2,.int .u8 x.f0.f3,.int .u8 x.f0.f4,.int .u8 x.f0.f5,.int .u8 x.f0.f6,.int .u8 x.f0.f7,.int .u8 x.f1,.int .u8 x.f2,.int .u8 x.f3,.int .u8 x.f4]:=by
 obtain ⟨_,_,rfl,s0,⟨_,_,rfl,rfl,⟨_,_,rfl,rfl,⟨_,_,rfl,rfl,rfl⟩⟩⟩⟩:=h
 obtain rfl:=k22_open s0
 exact rfl
theorem k24_openM {w : World} {base : Nat} {ok : Nat→Prop} {x : S24} {cs : List Value} (h : k24.M w base ok x cs) : cs=[.int .u8 x.f0.f0,.int .u8 x.f0.f1,.int .u8 x.f0.f2,.int .u8 x.f0.f3,.int .u8 x.f0.f4,.int .u8 x.f0.f5,.int .u8 x.f0.f6,.int .u8 x.f0.f7,.int .u8 x.f1,.int .u8 x.f2,.int .u8 x.f3,.int .u8 x.f4]:=by
 obtain ⟨_,_,rfl,s0,⟨_,_,rfl,rfl,⟨_,_,rfl,rfl,⟨_,_,rfl,rfl,rfl⟩⟩⟩⟩:=h
 obtain rfl:=k22_openM s0
 exact rfl
theorem k24_mk (w : World) (x : S24)  : k24.K w x [.int .u8 x.f0.f0,.int .u8 x.f0.f1,.int .u8 x.f0.f2,.int .u8 x.f0.f3,.int .u8 x.f0.f4,.int .u8 x.f0.f5,.int .u8 x.f0.f6,.int .u8 x.f0.f7,.int .u8 x.f1,.int .u8 x.f2,.int .u8 x.f3,.int .u8 x.f4]:=⟨[.int .u8 x.f0.f0,.int .u8 x.f0.f1,.int .u8 x.f0.f2,.int .u8 x.f0.f3,.int .u8 x.f0.f4,.int .u8 x.f0.f5,.int .u8 x.f0.f6,.int .u8 x.f0.f7],[.int .u8 x.f1,.int .u8 x.f2,.int .u8 x.f3,.int .u8 x.f4],rfl,(k22_mk w x.f0 ),⟨[.int .u8 x.f1],[.int .u8 x.f2,.int .u8 x.f3,.int .u8 x.f4],rfl,rfl,⟨[.int .u8 x.f2],[.int .u8 x.f3,.int .u8 x.f4],rfl,rfl,⟨[.int .u8 x.f3],[.int .u8 x.f4],rfl,rfl,rfl⟩⟩⟩⟩
theorem k24_mkM (w : World) (base : Nat) (ok : Nat→Prop) (x : S24)  : k24.M w base ok x [.int .u8 x.f0.f0,.int .u8 x.f0.f1,.int .u8 x.f0.f2,.int .u8 x.f0.f3,.int .u8 x.f0.f4,.int .u8 x.f0.f5,.int .u8 x.f0.f6,.int .u8 x.f0.f7,.int .u8 x.f1,.int .u8 x.f2,.int .u8 x.f3,.int .u8 x.f4]:=⟨[.int .u8 x.f0.f0,.int .u8 x.f0.f1,.int .u8 x.f0.f2,.int .u8 x.f0.f3,.int .u8 x.f0.f4,.int .u8 x.f0.f5,.int .u8 x.f0.f6,.int .u8 x.f0.f7],[.int .u8 x.f1,.int .u8 x.f2,.int .u8 x.f3,.int .u8 x.f4],rfl,(k22_mkM w base ok x.f0 ),⟨[.int .u8 x.f1],[.int .u8 x.f2,.int .u8 x.f3,.int .u8 x.f4],rfl,rfl,⟨[.int .u8 x.f2],[.int .u8 x.f3,.int .u8 x.f4],rfl,rfl,⟨[.int .u8 x.f3],[.int .u8 x.f4],rfl,rfl,rfl⟩⟩⟩⟩
theorem k24_mkF (W : World) (ok : Nat→Prop) (x : S24) : Kd.FK k24 W ok x [.int .u8 x.f0.f0,.int .u8 x.f0.f1,.int .u8 x.f0.f2,.int .u8 x.f0.f3,.int .u8 x.f0.f4,.int .u8 x.f0.f5,.int .u8 x.f0.f6,.int .u8 x.f0.f7,.int .u8 x.f1,.int .u8 x.f2,.int .u8 x.f3,.int .u8 x.f4]:=fun W2 _=>k24_mk W2 x
def rd_T24 (xs : List S24) (i : Int) : S24:=xs.getD i.toNat z24
theorem at_T24 {w : World} {A : Option Addr} {n : Nat} {xs : List S24} (h : Kd.C k24 w A n xs) (i : Int) (h0 : 0≤i) (h1 : i < n) : ∃ ad ,A=some ad∧w.cell? (ad.add (i.toNat * 12))=some (.int .u8 (rd_T24 xs i).f0.f0)∧w.cell? ⟨(ad.add (i.toNat * 12)).block,(ad.add (i.toNat * 12)).off + 1,none⟩=some (.int .u8 (rd_T24 xs i).f0.f1)∧w.cell? ⟨(ad.add (i.toNat * 12)).block,(ad.add (i.toNat * 12)).off + 2,none⟩=some (.int .u8 (rd_T24 xs i).f0.f2)∧w.cell? ⟨(ad.add (i.toNat * 12)).block,(ad.add (i.toNat * 12)).off + 3,none⟩=some (.int .u8 (rd_T24 xs i).f0.f3)∧w.cell? ⟨(ad.add (i.toNat * 12)).block,(ad.add (i.toNat * 12)).off + 4,none⟩=some (.int .u8 (rd_T24 xs i).f0.f4)∧w.cell? ⟨(ad.add (i.toNat * 12)).block,(ad.add (i.toNat * 12)).off + 5,none⟩=some (.int .u8 (rd_T24 xs i).f0.f5)∧w.cell? ⟨(ad.add (i.toNat * 12)).block,(ad.add (i.toNat * 12)).off + 6,none⟩=some (.int .u8 (rd_T24 xs i).f0.f6)∧w.cell? ⟨(ad.add (i.toNat * 12)).block,(ad.add (i.toNat * 12)).off + 7,none⟩=some (.int .u8 (rd_T24 xs i).f0.f7)∧w.cell? ⟨(ad.add (i.toNat * 12)).block,(ad.add (i.toNat * 12)).off + 8,none⟩=some (.int .u8 (rd_T24 xs i).f1)∧w.cell? ⟨(ad.add (i.toNat * 12)).block,(ad.add (i.toNat * 12)).off + 9,none⟩=some (.int .u8 (rd_T24 xs i).f2)∧w.cell? ⟨(ad.add (i.toNat * 12)).block,(ad.add (i.toNat * 12)).off + 10,none⟩=some (.int .u8 (rd_T24 xs i).f3)∧w.cell? ⟨(ad.add (i.toNat * 12)).block,(ad.add (i.toNat * 12)).off + 11,none⟩=some (.int .u8 (rd_T24 xs i).f4):=by
 obtain ⟨ad,c,e,_,hK,hc0⟩:=Kd.C_get h z24 i h0 h1
 have hc : ∀ j u,c[j]?=some u→w.cell? (ad.add (i.toNat * 12 + j))=some u:=hc0
 obtain rfl:=k24_open hK
 exact ⟨ad,e,hc 0 _ rfl,by rw [← add_field _ _ 1 (by omega)];exact hc 1 _ rfl,by rw [← add_field _ _ 2 (by omega)];exact hc 2 _ rfl,by rw [← add_field _ _ 3 (by omega)];exact hc 3 _ rfl,by rw [← add_field _ _ 4 (by omega)];exact hc 4 _ rfl,by rw [← add_field _ _ 5 (by omega)];exact hc 5 _ rfl,by rw [← add_field _ _ 6 (by omega)];exact hc 6 _ rfl,by rw [← add_field _ _ 7 (by omega)];exact hc 7 _ rfl,by rw [← add_field _ _ 8 (by omega)];exact hc 8 _ rfl,by rw [← add_field _ _ 9 (by omega)];exact hc 9 _ rfl,by rw [← add_field _ _ 10 (by omega)];exact hc 10 _ rfl,by rw [← add_field _ _ 11 (by omega)];exact hc 11 _ rfl⟩
def rd_L12 (xs : List (List Int)) (i : Int) : (List Int):=xs.getD i.toNat ([] : List Int)
theorem at_L12 {w : World} {A : Option Addr} {n : Nat} {xs : List (List Int)} (h : Kd.C (Kd.slice 5 (Kd.int .u8)) w A n xs) (i : Int) (h0 : 0≤i) (h1 : i < n) : ∃ ad A0 c0,A=some ad∧w.cell? (ad.add i.toNat)=some (.slice A0 (rd_L12 xs i).length c0)∧(rd_L12 xs i).length≤c0∧(Kd.int .u8).C w A0 (rd_L12 xs i).length (rd_L12 xs i):=by
 obtain ⟨ad,c,e,_,hK,hc0⟩:=Kd.C_get h ([] : List Int) i h0 h1
 have hc : ∀ j u,c[j]?=some u→w.cell? (ad.add (i.toNat * 1 + j))=some u:=hc0
 obtain ⟨A0,c0,rfl,l0,g0⟩:=hK
 exact ⟨ad,A0,c0,e,by have hq:=hc 0 _ rfl;rwa [Nat.mul_one,Nat.add_zero] at hq,l0,g0⟩
structure S50 where
 f0 : (List S34)
 f1 : (List S34)
 f2 : (List S34)
def z50 : S50:=⟨([] : List S34),([] : List S34),([] : List S34)⟩
def k50 : Kd S50:=Kd.iso (Kd.pair (Kd.slice 34 k34) (Kd.pair (Kd.slice 34 k34) (Kd.slice 34 k34))) (fun x : S50=>(x.f0,x.f1,x.f2))
theorem k50_heap : Kd.Heap k50:=Kd.heap_iso _ (Kd.heap_pair (Kd.heap_slice 34 k34_heap) (Kd.heap_pair (Kd.heap_slice 34 k34_heap) (Kd.heap_slice 34 k34_heap)))
theorem k50_open {w : World} {x : S50} {cs : List Value} (h : k50.K w x cs) : ∃ A0 c0 A1 c1 A2 c2,cs=[.slice A0 x.f0.length c0,.slice A1 x.f1.length c1,.slice A2 x.f2.length c2]∧x.f0.length≤c0∧k34.C w A0 x.f0.length x.f0∧x.f1.length≤c1∧k34.C w A1 x.f1.length x.f1∧x.f2.length≤c2∧k34.C w A2 x.f2.length x.f2:=by
 obtain ⟨_,_,rfl,⟨A0,c0,rfl,l0,g0⟩,⟨_,_,rfl,⟨A1,c1,rfl,l1,g1⟩,⟨A2,c2,rfl,l2,g2⟩⟩⟩:=h
 exact ⟨A0,c0,A1,c1,A2,c2,rfl,l0,g0,l1,g1,l2,g2⟩
theorem k50_openM {w : World} {base : Nat} {ok : Nat→Prop} {x : S50} {cs : List Value} (h : k50.M w base ok x cs) : ∃ v0 v1 v2,cs=[v0,v1,v2]∧k34.R 34 w base ok v0 x.f0∧k34.R 34 w base ok v1 x.f1∧k34.R 34 w base ok v2 x.f2:=by
 obtain ⟨_,_,rfl,⟨v0,rfl,g0⟩,⟨_,_,rfl,⟨v1,rfl,g1⟩,⟨v2,rfl,g2⟩⟩⟩:=h
 exact ⟨v0,v1,v2,rfl,g0,g1,g2⟩
theorem k50_mk (w : World) (x : S50) {A0 : Option Addr} {c0 : Nat} (l0 : x.f0.length≤c0) (g0 : k34.C w A0 x.f0.length x.f0) {A1 : Option Addr} {c1 : Nat} (l1 : x.f1.length≤c1) (g1 : k34.C w A1 x.f1.length x.f1) {A2 : Option Addr} {c2 : Nat} (l2 : x.f2.length≤c2) (g2 : k34.C w A2 x.f2.length x.f2) : k50.K w x [.slice A0 x.f0.length c0,.slice A1 x.f1.length c1,.slice A2 x.f2.length c2]:=⟨[.slice A0 x.f0.length c0],[.slice A1 x.f1.length c1,.slice A2 x.f2.length c2],rfl,⟨A0,c0,rfl,l0,g0⟩,⟨[.slice A1 x.f1.length c1],[.slice A2 x.f2.length c2],rfl,⟨A1,c1,rfl,l1,g1⟩,⟨A2,c2,rfl,l2,g2⟩⟩⟩
theorem k50_mkM (w : World) (base : Nat) (ok : Nat→Prop) (x : S50) {v0 : Value} (g0 : k34.R 34 w base ok v0 x.f0) {v1 : Value} (g1 : k34.R 34 w base ok v1 x.f1) {v2 : Value} (g2 : k34.R 34 w base ok v2 x.f2) : k50.M w base ok x [v0,v1,v2]:=⟨[v0],[v1,v2],rfl,⟨v0,rfl,g0⟩,⟨[v1],[v2],rfl,⟨v1,rfl,g1⟩,⟨v2,rfl,g2⟩⟩⟩
theorem k50_openF {W : World} {ok : Nat→Prop} {x : S50} {cs : List Value} (h : Kd.FK k50 W ok x cs) : ∃ A0 c0 A1 c1 A2 c2,cs=[.slice A0 x.f0.length c0,.slice A1 x.f1.length c1,.slice A2 x.f2.length c2]∧x.f0.length≤c0∧Kd.F k34 W ok A0 x.f0.length x.f0∧x.f1.length≤c1∧Kd.F k34 W ok A1 x.f1.length x.f1∧x.f2.length≤c2∧Kd.F k34 W ok A2 x.f2.length x.f2:=by
 obtain ⟨A0,c0,A1,c1,A2,c2,rfl,l0,_,l1,_,l2,_⟩:=k50_open (Kd.FK_now h)
 exact ⟨A0,c0,A1,c1,A2,c2,rfl,l0,(fun W' hW=>by obtain ⟨A0_,c0_,A1_,c1_,A2_,c2_,he,l0_,g0_,l1_,g1_,l2_,g2_⟩:=k50_open (h W' hW);injection (Option.some.inj (show some (Value.slice A0 x.f0.length c0)=some (Value.slice A0_ x.f0.length c0_) from congrArg (fun l=>l[0]?) he)) with ha_ _ _;rw [ha_];exact g0_),l1,(fun W' hW=>by obtain ⟨A0_,c0_,A1_,c1_,A2_,c2_,he,l0_,g0_,l1_,g1_,l2_,g2_⟩:=k50_open (h W' hW);injection (Option.some.inj (show some (Value.slice A1 x.f1.length c1)=some (Value.slice A1_ x.f1.length c1_) from congrArg (fun l=>l[1]?) he)) with ha_ _ _;rw [ha_];exact g1_),l2,(fun W' hW=>by obtain ⟨A0_,c0_,A1_,c1_,A2_,c2_,he,l0_,g0_,l1_,g1_,l2_,g2_⟩:=k50_open (h W' hW);injection (Option.some.inj (show some (Value.slice A2 x.f2.length c2)=some (Value.slice A2_ x.f2.length c2_) from congrArg (fun l=>l[2]?) he)) with ha_ _ _;rw [ha_];exact g2_)⟩
theorem k50_mkF (W : World) (ok : Nat→Prop) (x : S50) {A0 : Option Addr} {c0 : Nat} (l0 : x.f0.length≤c0) (g0 : Kd.F k34 W ok A0 x.f0.length x.f0) {A1 : Option Addr} {c1 : Nat} (l1 : x.f1.length≤c1) (g1 : Kd.F k34 W ok A1 x.f1.length x.f1) {A2 : Option Addr} {c2 : Nat} (l2 : x.f2.length≤c2) (g2 : Kd.F k34 W ok A2 x.f2.length x.f2) : Kd.FK k50 W ok x [.slice A0 x.f0.length c0,.slice A1 x.f1.length c1,.slice A2 x.f2.length c2]:=fun W2 hW=>k50_mk W2 x l0 (g0 W2 hW) l1 (g1 W2 hW) l2 (g2 W2 hW)
def rd_T50 (xs : List S50) (i : Int) : S50:=xs.getD i.toNat z50
theorem at_T50 {w : World} {A : Option Addr} {n : Nat} {xs : List S50} (h : Kd.C k50 w A n xs) (i : Int) (h0 : 0≤i) (h1 : i < n) : ∃ ad A0 c0 A1 c1 A2 c2,A=some ad∧w.cell? (ad.add (i.toNat * 3))=some (.slice A0 (rd_T50 xs i).f0.length c0)∧w.cell? ⟨(ad.add (i.toNat * 3)).block,(ad.add (i.toNat * 3)).off + 1,none⟩=some (.slice A1 (rd_T50 xs i).f1.length c1)∧w.cell? ⟨(ad.add (i.toNat * 3)).block,(ad.add (i.toNat * 3)).off + 2,none⟩=some (.slice A2 (rd_T50 xs i).f2.length c2)∧(rd_T50 xs i).f0.length≤c0∧k34.C w A0 (rd_T50 xs i).f0.length (rd_T50 xs i).f0∧(rd_T50 xs i).f1.length≤c1∧k34.C w A1 (rd_T50 xs i).f1.length (rd_T50 xs i).f1∧(rd_T50 xs i).f2.length≤c2∧k34.C w A2 (rd_T50 xs i).f2.length (rd_T50 xs i).f2:=by
 obtain ⟨ad,c,e,_,hK,hc0⟩:=Kd.C_get h z50 i h0 h1
 have hc : ∀ j u,c[j]?=some u→w.cell? (ad.add (i.toNat * 3 + j))=some u:=hc0
 obtain ⟨A0,c0,A1,c1,A2,c2,rfl,l0,g0,l1,g1,l2,g2⟩:=k50_open hK
 exact ⟨ad,A0,c0,A1,c1,A2,c2,e,hc 0 _ rfl,by rw [← add_field _ _ 1 (by omega)];exact hc 1 _ rfl,by rw [← add_field _ _ 2 (by omega)];exact hc 2 _ rfl,l0,g0,l1,g1,l2,g2⟩
structure S52 where
 f0 : (List S34)
 f1 : (List S34)
def z52 : S52:=⟨([] : List S34),([] : List S34)⟩
def k52 : Kd S52:=Kd.iso (Kd.pair (Kd.slice 34 k34) (Kd.slice 34 k34)) (fun x : S52=>(x.f0,x.f1))
theorem k52_heap : Kd.Heap k52:=Kd.heap_iso _ (Kd.heap_pair (Kd.heap_slice 34 k34_heap) (Kd.heap_slice 34 k34_heap))
theorem k52_open {w : World} {x : S52} {cs : List Value} (h : k52.K w x cs) : ∃ A0 c0 A1 c1,cs=[.slice A0 x.f0.length c0,.slice A1 x.f1.length c1]∧x.f0.length≤c0∧k34.C w A0 x.f0.length x.f0∧x.f1.length≤c1∧k34.C w A1 x.f1.length x.f1:=by
 obtain ⟨_,_,rfl,⟨A0,c0,rfl,l0,g0⟩,⟨A1,c1,rfl,l1,g1⟩⟩:=h
 exact ⟨A0,c0,A1,c1,rfl,l0,g0,l1,g1⟩
theorem k52_openM {w : World} {base : Nat} {ok : Nat→Prop} {x : S52} {cs : List Value} (h : k52.M w base ok x cs) : ∃ v0 v1,cs=[v0,v1]∧k34.R 34 w base ok v0 x.f0∧k34.R 34 w base ok v1 x.f1:=by
 obtain ⟨_,_,rfl,⟨v0,rfl,g0⟩,⟨v1,rfl,g1⟩⟩:=h
 exact ⟨v0,v1,rfl,g0,g1⟩
theorem k52_mk (w : World) (x : S52) {A0 : Option Addr} {c0 : Nat} (l0 : x.f0.length≤c0) (g0 : k34.C w A0 x.f0.length x.f0) {A1 : Option Addr} {c1 : Nat} (l1 : x.f1.length≤c1) (g1 : k34.C w A1 x.f1.length x.f1) : k52.K w x [.slice A0 x.f0.length c0,.slice A1 x.f1.length c1]:=⟨[.slice A0 x.f0.length c0],[.slice A1 x.f1.length c1],rfl,⟨A0,c0,rfl,l0,g0⟩,⟨A1,c1,rfl,l1,g1⟩⟩
theorem k52_mkM (w : World) (base : Nat) (ok : Nat→Prop) (x : S52) {v0 : Value} (g0 : k34.R 34 w base ok v0 x.f0) {v1 : Value} (g1 : k34.R 34 w base ok v1 x.f1) : k52.M w base ok x [v0,v1]:=⟨[v0],[v1],rfl,⟨v0,rfl,g0⟩,⟨v1,rfl,g1⟩⟩
theorem k52_openF {W : World} {ok : Nat→Prop} {x : S52} {cs : List Value} (h : Kd.FK k52 W ok x cs) : ∃ A0 c0 A1 c1,cs=[.slice A0 x.f0.length c0,.slice A1 x.f1.length c1]∧x.f0.length≤c0∧Kd.F k34 W ok A0 x.f0.length x.f0∧x.f1.length≤c1∧Kd.F k34 W ok A1 x.f1.length x.f1:=by
 obtain ⟨A0,c0,A1,c1,rfl,l0,_,l1,_⟩:=k52_open (Kd.FK_now h)
 exact ⟨A0,c0,A1,c1,rfl,l0,(fun W' hW=>by obtain ⟨A0_,c0_,A1_,c1_,he,l0_,g0_,l1_,g1_⟩:=k52_open (h W' hW);injection (Option.some.inj (show some (Value.slice A0 x.f0.length c0)=some (Value.slice A0_ x.f0.length c0_) from congrArg (fun l=>l[0]?) he)) with ha_ _ _;rw [ha_];exact g0_),l1,(fun W' hW=>by obtain ⟨A0_,c0_,A1_,c1_,he,l0_,g0_,l1_,g1_⟩:=k52_open (h W' hW);injection (Option.some.inj (show some (Value.slice A1 x.f1.length c1)=some (Value.slice A1_ x.f1.length c1_) from congrArg (fun l=>l[1]?) he)) with ha_ _ _;rw [ha_];exact g1_)⟩
theorem k52_mkF (W : World) (ok : Nat→Prop) (x : S52) {A0 : Option Addr} {c0 : Nat} (l0 : x.f0.length≤c0) (g0 : Kd.F k34 W ok A0 x.f0.length x.f0) {A1 : Option Addr} {c1 : Nat} (l1 : x.f1.length≤c1) (g1 : Kd.F k34 W ok A1 x.f1.length x.f1) : Kd.FK k52 W ok x [.slice A0 x.f0.length c0,.slice A1 x.f1.length c1]:=fun W2 hW=>k52_mk W2 x l0 (g0 W2 hW) l1 (g1 W2 hW)
def rd_T52 (xs : List S52) (i : Int) : S52:=xs.getD i.toNat z52
theorem at_T52 {w : World} {A : Option Addr} {n : Nat} {xs : List S52} (h : Kd.C k52 w A n xs) (i : Int) (h0 : 0≤i) (h1 : i < n) : ∃ ad A0 c0 A1 c1,A=some ad∧w.cell? (ad.add (i.toNat * 2))=some (.slice A0 (rd_T52 xs i).f0.length c0)∧w.cell? ⟨(ad.add (i.toNat * 2)).block,(ad.add (i.toNat * 2)).off + 1,none⟩=some (.slice A1 (rd_T52 xs i).f1.length c1)∧(rd_T52 xs i).f0.length≤c0∧k34.C w A0 (rd_T52 xs i).f0.length (rd_T52 xs i).f0∧(rd_T52 xs i).f1.length≤c1∧k34.C w A1 (rd_T52 xs i).f1.length (rd_T52 xs i).f1:=by
 obtain ⟨ad,c,e,_,hK,hc0⟩:=Kd.C_get h z52 i h0 h1
 have hc : ∀ j u,c[j]?=some u→w.cell? (ad.add (i.toNat * 2 + j))=some u:=hc0
 obtain ⟨A0,c0,A1,c1,rfl,l0,g0,l1,g1⟩:=k52_open hK
 exact ⟨ad,A0,c0,A1,c1,e,hc 0 _ rfl,by rw [← add_field _ _ 1 (by omega)];exact hc 1 _ rfl,l0,g0,l1,g1⟩
end Go.Proofs.Ytkodpbellndelaa.P

