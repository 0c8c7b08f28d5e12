/- Texts of MergeFirst. Merged: Px0. -/
import Derived.Test.YtfiandejapgkoaaProg
import Derived.Below
import Derived.Deep.Draws
import Derived.Deep.AppendLies
import Derived.Maps.AppendAt
import Derived.OwnWalk
import Derived.Laws.BytesArg
import Derived.Laws.MakeOwn
import Derived.Laws.OwnMore
import Derived.Deep.OwnRows
import Derived.Tactics
import Derived.Lib.ConvBytes
import Derived.Laws.Slices
import Derived.WalkKit
import Derived.KernelRfl
import Derived.RowKit3
import Derived.Deep.LoopGhost
import Derived.Deep.QuietTactic
import Derived.BigQuiet
import Derived.WideLaws
import Derived.Deep.DeepCutAuto
import Derived.Deep.CutBlock
import Derived.Deep.RegionHeld3
import Derived.Laws.Rows
import Derived.Lib.AppendStr
import Derived.ArgAppend
import Derived.Laws.IdiomCopy
import Derived.OrdersHeld
import Derived.Laws.BitsLemmas
import Derived.RowKit
import Derived.Test.YtfiandejapgkoaaQMergeFirstHKit
import Derived.Test.YtfiandejapgkoaaQMergeFirstWWords
import Derived.Test.YtfiandejapgkoaaQMergeFirstWLast
import Derived.Test.YtfiandejapgkoaaQMergeFirstWTab
import Derived.Test.YtfiandejapgkoaaQMergeFirstWFour
import Derived.Test.YtfiandejapgkoaaQMergeFirstWQPut
import Derived.Test.YtfiandejapgkoaaQMergeFirstWApart
import Derived.Test.YtfiandejapgkoaaQMergeFirstWArr
import Derived.Test.YtfiandejapgkoaaQMergeFirstWZeros
import Derived.Test.YtfiandejapgkoaaQMergeFirstWFoot
import Derived.Test.YtfiandejapgkoaaQMergeFirstWKept
import Derived.Test.YtfiandejapgkoaaQMergeFirstWShare
import Derived.Test.YtfiandejapgkoaaQMergeFirstWN
import Derived.Test.YtfiandejapgkoaaQMergeFirstWFootNe
import Derived.Test.YtfiandejapgkoaaQMergeFirstWAt
import Derived.Test.YtfiandejapgkoaaQMergeFirstWEqStruct
import Derived.Test.YtfiandejapgkoaaQMergeFirstWRepsOne
import Derived.Test.YtfiandejapgkoaaQMergeFirstWInv
import Derived.Test.YtfiandejapgkoaaQMergeFirstWInvWords
import Derived.Test.YtfiandejapgkoaaQMergeFirstWGuard
import Derived.Test.YtfiandejapgkoaaQMergeFirstWNEv
import Derived.Test.YtfiandejapgkoaaQMergeFirstWMore
namespace Go.Proofs.Ytfiandejapgkoaa.P
open Go.RowKit Go.Proofs.YtfiandejapgkoaaW.PrintWords Go.Proofs.YtfiandejapgkoaaW.PrintLast Go.Proofs.YtfiandejapgkoaaW.PrintMore
attribute [local go_sem] max2_int min2_int max_two min_two max_three min_three max_four min_four   -- for this text's walks alone
set_option linter.unusedVariables false
set_option linter.unusedSimpArgs false
def errW : Option Int→Value
 | none=>.nilIface
 | some c=>.iface 0 (.int .i64 c)
theorem errW_none : errW none=.nilIface:=rfl
theorem errW_some (c : Int) : errW (some c)=.iface 0 (.int .i64 c):=rfl
theorem info3 : (Try.prog.info? 3).map (fun i=>(i.zero,i.size,i.bytes))=some (some (.int .i64 0),1,8):=by kernel_rfl
theorem info28 : (Try.prog.info? 28).map (fun i=>(i.zero,i.size,i.bytes))=some (some (.slice none 0 0),1,24):=by kernel_rfl
theorem info31 : (Try.prog.info? 31).map (fun i=>(i.zero,i.size,i.bytes))=some (some (.agg #[(.int .i64 0),(.string ⟨#[]⟩)]),2,24):=by kernel_rfl
theorem info33 : (Try.prog.info? 33).map (fun i=>(i.zero,i.size,i.bytes))=some (some (.slice none 0 0),1,24):=by kernel_rfl
structure S31 where
 f0 : Int
 f1 : ByteArray
def z31 : S31:=⟨(0 : Int),(⟨#[]⟩ : ByteArray)⟩
def k31 : Kd S31:=Kd.iso (Kd.pair (Kd.int .i64) Kd.string) (fun x : S31=>(x.f0,x.f1))
theorem k31_heap : Kd.Heap k31:=Kd.heap_iso _ (Kd.heap_pair (Kd.heap_int .i64) Kd.heap_string)
theorem k31_open {w : World} {x : S31} {cs : List Value} (h : k31.K w x cs) : cs=[.int .i64 x.f0,.string x.f1]:=by
 obtain ⟨_,_,rfl,rfl,rfl⟩:=h
 exact rfl
theorem k31_openM {w : World} {base : Nat} {ok : Nat→Prop} {x : S31} {cs : List Value} (h : k31.M w base ok x cs) : cs=[.int .i64 x.f0,.string x.f1]:=by
 obtain ⟨_,_,rfl,rfl,rfl⟩:=h
 exact rfl
theorem k31_mk (w : World) (x : S31)  : k31.K w x [.int .i64 x.f0,.string x.f1]:=⟨[.int .i64 x.f0],[.string x.f1],rfl,rfl,rfl⟩
theorem k31_mkM (w : World) (base : Nat) (ok : Nat→Prop) (x : S31)  : k31.M w base ok x [.int .i64 x.f0,.string x.f1]:=⟨[.int .i64 x.f0],[.string x.f1],rfl,rfl,rfl⟩
theorem k31_mkF (W : World) (ok : Nat→Prop) (x : S31) : Kd.FK k31 W ok x [.int .i64 x.f0,.string x.f1]:=fun W2 _=>k31_mk W2 x
def rd_T31 (xs : List S31) (i : Int) : S31:=xs.getD i.toNat z31
theorem at_T31 {w : World} {A : Option Addr} {n : Nat} {xs : List S31} (h : Kd.C k31 w A n xs) (i : Int) (h0 : 0≤i) (h1 : i < n) : ∃ ad ,A=some ad∧w.cell? (ad.add (i.toNat * 2))=some (.int .i64 (rd_T31 xs i).f0)∧w.cell? ⟨(ad.add (i.toNat * 2)).block,(ad.add (i.toNat * 2)).off + 1,none⟩=some (.string (rd_T31 xs i).f1):=by
 obtain ⟨ad,c,e,_,hK,hc0⟩:=Kd.C_get h z31 i h0 h1
 have hc : ∀ j u,c[j]?=some u→w.cell? (ad.add (i.toNat * 2 + j))=some u:=hc0
 obtain rfl:=k31_open hK
 exact ⟨ad,e,hc 0 _ rfl,by rw [← add_field _ _ 1 (by omega)];exact hc 1 _ rfl⟩
def rd_L3 (xs : List (List S31)) (i : Int) : (List S31):=xs.getD i.toNat ([] : List S31)
theorem at_L3 {w : World} {A : Option Addr} {n : Nat} {xs : List (List S31)} (h : Kd.C (Kd.slice 31 k31) w A n xs) (i : Int) (h0 : 0≤i) (h1 : i < n) : ∃ ad A0 c0,A=some ad∧w.cell? (ad.add i.toNat)=some (.slice A0 (rd_L3 xs i).length c0)∧(rd_L3 xs i).length≤c0∧k31.C w A0 (rd_L3 xs i).length (rd_L3 xs i):=by
 obtain ⟨ad,c,e,_,hK,hc0⟩:=Kd.C_get h ([] : List S31) i h0 h1
 have hc : ∀ j u,c[j]?=some u→w.cell? (ad.add (i.toNat * 1 + j))=some u:=hc0
 obtain ⟨A0,c0,rfl,l0,g0⟩:=hK
 exact ⟨ad,A0,c0,e,by have hq:=hc 0 _ rfl;rwa [Nat.mul_one,Nat.add_zero] at hq,l0,g0⟩
def rd_L4 (xs : List (List (List S31))) (i : Int) : (List (List S31)):=xs.getD i.toNat ([] : List (List S31))
theorem at_L4 {w : World} {A : Option Addr} {n : Nat} {xs : List (List (List S31))} (h : Kd.C (Kd.slice 33 (Kd.slice 31 k31)) w A n xs) (i : Int) (h0 : 0≤i) (h1 : i < n) : ∃ ad A0 c0,A=some ad∧w.cell? (ad.add i.toNat)=some (.slice A0 (rd_L4 xs i).length c0)∧(rd_L4 xs i).length≤c0∧(Kd.slice 31 k31).C w A0 (rd_L4 xs i).length (rd_L4 xs i):=by
 obtain ⟨ad,c,e,_,hK,hc0⟩:=Kd.C_get h ([] : List (List S31)) i h0 h1
 have hc : ∀ j u,c[j]?=some u→w.cell? (ad.add (i.toNat * 1 + j))=some u:=hc0
 obtain ⟨A0,c0,rfl,l0,g0⟩:=hK
 exact ⟨ad,A0,c0,e,by have hq:=hc 0 _ rfl;rwa [Nat.mul_one,Nat.add_zero] at hq,l0,g0⟩
structure S54 where
 f0 : (List (List S31))
 f1 : Int
def z54 : S54:=⟨([] : List (List S31)),(0 : Int)⟩
def k54 : Kd S54:=Kd.iso (Kd.pair (Kd.slice 33 (Kd.slice 31 k31)) (Kd.int .i64)) (fun x : S54=>(x.f0,x.f1))
theorem k54_heap : Kd.Heap k54:=Kd.heap_iso _ (Kd.heap_pair (Kd.heap_slice 33 (Kd.heap_slice 31 k31_heap)) (Kd.heap_int .i64))
theorem k54_open {w : World} {x : S54} {cs : List Value} (h : k54.K w x cs) : ∃ A0 c0,cs=[.slice A0 x.f0.length c0,.int .i64 x.f1]∧x.f0.length≤c0∧(Kd.slice 31 k31).C w A0 x.f0.length x.f0:=by
 obtain ⟨_,_,rfl,⟨A0,c0,rfl,l0,g0⟩,rfl⟩:=h
 exact ⟨A0,c0,rfl,l0,g0⟩
theorem k54_openM {w : World} {base : Nat} {ok : Nat→Prop} {x : S54} {cs : List Value} (h : k54.M w base ok x cs) : ∃ v0,cs=[v0,.int .i64 x.f1]∧(Kd.slice 31 k31).R 33 w base ok v0 x.f0:=by
 obtain ⟨_,_,rfl,⟨v0,rfl,g0⟩,rfl⟩:=h
 exact ⟨v0,rfl,g0⟩
theorem k54_mk (w : World) (x : S54) {A0 : Option Addr} {c0 : Nat} (l0 : x.f0.length≤c0) (g0 : (Kd.slice 31 k31).C w A0 x.f0.length x.f0) : k54.K w x [.slice A0 x.f0.length c0,.int .i64 x.f1]:=⟨[.slice A0 x.f0.length c0],[.int .i64 x.f1],rfl,⟨A0,c0,rfl,l0,g0⟩,rfl⟩
theorem k54_mkM (w : World) (base : Nat) (ok : Nat→Prop) (x : S54) {v0 : Value} (g0 : (Kd.slice 31 k31).R 33 w base ok v0 x.f0) : k54.M w base ok x [v0,.int .i64 x.f1]:=⟨[v0],[.int .i64 x.f1],rfl,⟨v0,rfl,g0⟩,rfl⟩
theorem k54_openF {W : World} {ok : Nat→Prop} {x : S54} {cs : List Value} (h : Kd.FK k54 W ok x cs) : ∃ A0 c0,cs=[.slice A0 x.f0.length c0,.int .i64 x.f1]∧x.f0.length≤c0∧Kd.F (Kd.slice 31 k31) W ok A0 x.f0.length x.f0:=by
 obtain ⟨A0,c0,rfl,l0,_⟩:=k54_open (Kd.FK_now h)
 exact ⟨A0,c0,rfl,l0,(fun W' hW=>by obtain ⟨A0_,c0_,he,l0_,g0_⟩:=k54_open (h W' hW);injection (Option.some.inj (show some (Value.slice A0 x.f0.length c0)=some (Value.slice A0_ x.f0.length c0_) from congrArg (fun l=>l[0]?) he)) with ha_ _ _;rw [ha_];exact g0_)⟩
theorem k54_mkF (W : World) (ok : Nat→Prop) (x : S54) {A0 : Option Addr} {c0 : Nat} (l0 : x.f0.length≤c0) (g0 : Kd.F (Kd.slice 31 k31) W ok A0 x.f0.length x.f0) : Kd.FK k54 W ok x [.slice A0 x.f0.length c0,.int .i64 x.f1]:=fun W2 hW=>k54_mk W2 x l0 (g0 W2 hW)
def rd_T54 (xs : List S54) (i : Int) : S54:=xs.getD i.toNat z54
theorem at_T54 {w : World} {A : Option Addr} {n : Nat} {xs : List S54} (h : Kd.C k54 w A n xs) (i : Int) (h0 : 0≤i) (h1 : i < n) : ∃ ad A0 c0,A=some ad∧w.cell? (ad.add (i.toNat * 2))=some (.slice A0 (rd_T54 xs i).f0.length c0)∧w.cell? ⟨(ad.add (i.toNat * 2)).block,(ad.add (i.toNat * 2)).off + 1,none⟩=some (.int .i64 (rd_T54 xs i).f1)∧(rd_T54 xs i).f0.length≤c0∧(Kd.slice 31 k31).C w A0 (rd_T54 xs i).f0.length (rd_T54 xs i).f0:=by
 obtain ⟨ad,c,e,_,hK,hc0⟩:=Kd.C_get h z54 i h0 h1
 have hc : ∀ j u,c[j]?=some u→w.cell? (ad.add (i.toNat * 2 + j))=some u:=hc0
 obtain ⟨A0,c0,rfl,l0,g0⟩:=k54_open hK
 exact ⟨ad,A0,c0,e,hc 0 _ rfl,by rw [← add_field _ _ 1 (by omega)];exact hc 1 _ rfl,l0,g0⟩
def rd_L6 (xs : List (List Int)) (i : Int) : (List Int):=xs.getD i.toNat ([] : List Int)
theorem at_L6 {w : World} {A : Option Addr} {n : Nat} {xs : List (List Int)} (h : Kd.C (Kd.slice 3 (Kd.int .i64)) w A n xs) (i : Int) (h0 : 0≤i) (h1 : i < n) : ∃ ad A0 c0,A=some ad∧w.cell? (ad.add i.toNat)=some (.slice A0 (rd_L6 xs i).length c0)∧(rd_L6 xs i).length≤c0∧(Kd.int .i64).C w A0 (rd_L6 xs i).length (rd_L6 xs i):=by
 obtain ⟨ad,c,e,_,hK,hc0⟩:=Kd.C_get h ([] : List Int) i h0 h1
 have hc : ∀ j u,c[j]?=some u→w.cell? (ad.add (i.toNat * 1 + j))=some u:=hc0
 obtain ⟨A0,c0,rfl,l0,g0⟩:=hK
 exact ⟨ad,A0,c0,e,by have hq:=hc 0 _ rfl;rwa [Nat.mul_one,Nat.add_zero] at hq,l0,g0⟩
structure S26 where
 f0 : (List Int)
 f1 : Int
 f2 : Int
 f3 : Int
def z26 : S26:=⟨([] : List Int),(0 : Int),(0 : Int),(0 : Int)⟩
def k26 : Kd S26:=Kd.iso (Kd.pair (Kd.slice 3 (Kd.int .i64)) (Kd.pair (Kd.int .i64) (Kd.pair (Kd.int .i64) (Kd.int .i64)))) (fun x : S26=>(x.f0,x.f1,x.f2,x.f3))
theorem k26_heap : Kd.Heap k26:=Kd.heap_iso _ (Kd.heap_pair (Kd.heap_slice 3 (Kd.heap_int .i64)) (Kd.heap_pair (Kd.heap_int .i64) (Kd.heap_pair (Kd.heap_int .i64) (Kd.heap_int .i64))))
theorem k26_open {w : World} {x : S26} {cs : List Value} (h : k26.K w x cs) : ∃ A0 c0,cs=[.slice A0 x.f0.length c0,.int .i64 x.f1,.int .i64 x.f2,.int .i64 x.f3]∧x.f0.length≤c0∧(Kd.int .i64).C w A0 x.f0.length x.f0:=by
 obtain ⟨_,_,rfl,⟨A0,c0,rfl,l0,g0⟩,⟨_,_,rfl,rfl,⟨_,_,rfl,rfl,rfl⟩⟩⟩:=h
 exact ⟨A0,c0,rfl,l0,g0⟩
theorem k26_openM {w : World} {base : Nat} {ok : Nat→Prop} {x : S26} {cs : List Value} (h : k26.M w base ok x cs) : ∃ v0,cs=[v0,.int .i64 x.f1,.int .i64 x.f2,.int .i64 x.f3]∧(Kd.int .i64).R 3 w base ok v0 x.f0:=by
 obtain ⟨_,_,rfl,⟨v0,rfl,g0⟩,⟨_,_,rfl,rfl,⟨_,_,rfl,rfl,rfl⟩⟩⟩:=h
 exact ⟨v0,rfl,g0⟩
theorem k26_mk (w : World) (x : S26) {A0 : Option Addr} {c0 : Nat} (l0 : x.f0.length≤c0) (g0 : (Kd.int .i64).C w A0 x.f0.length x.f0) : k26.K w x [.slice A0 x.f0.length c0,.int .i64 x.f1,.int .i64 x.f2,.int .i64 x.f3]:=⟨[.slice A0 x.f0.length c0],[.int .i64 x.f1,.int .i64 x.f2,.int .i64 x.f3],rfl,⟨A0,c0,rfl,l0,g0⟩,⟨[.int .i64 x.f1],[.int .i64 x.f2,.int .i64 x.f3],rfl,rfl,⟨[.int .i64 x.f2],[.int .i64 x.f3],rfl,rfl,rfl⟩⟩⟩
theorem k26_mkM (w : World) (base : Nat) (ok : Nat→Prop) (x : S26) {v0 : Value} (g0 : (Kd.int .i64).R 3 w base ok v0 x.f0) : k26.M w base ok x [v0,.int .i64 x.f1,.int .i64 x.f2,.int .i64 x.f3]:=⟨[v0],[.int .i64 x.f1,.int .i64 x.f2,.int .i64 x.f3],rfl,⟨v0,rfl,g0⟩,⟨[.int .i64 x.f1],[.int .i64 x.f2,.int .i64 x.f3],rfl,rfl,⟨[.int .i64 x.f2],[.int .i64 x.f3],rfl,rfl,rfl⟩⟩⟩
theorem k26_openF {W : World} {ok : Nat→Prop} {x : S26} {cs : List Value} (h : Kd.FK k26 W ok x cs) : ∃ A0 c0,cs=[.slice A0 x.f0.length c0,.int .i64 x.f1,.int .i64 x.f2,.int .i64 x.f3]∧x.f0.length≤c0∧Kd.F (Kd.int .i64) W ok A0 x.f0.length x.f0:=by
 obtain ⟨A0,c0,rfl,l0,_⟩:=k26_open (Kd.FK_now h)
 exact ⟨A0,c0,rfl,l0,(fun W' hW=>by obtain ⟨A0_,c0_,he,l0_,g0_⟩:=k26_open (h W' hW);injection (Option.some.inj (show some (Value.slice A0 x.f0.length c0)=some (Value.slice A0_ x.f0.length c0_) from congrArg (fun l=>l[0]?) he)) with ha_ _ _;rw [ha_];exact g0_)⟩
theorem k26_mkF (W : World) (ok : Nat→Prop) (x : S26) {A0 : Option Addr} {c0 : Nat} (l0 : x.f0.length≤c0) (g0 : Kd.F (Kd.int .i64) W ok A0 x.f0.length x.f0) : Kd.FK k26 W ok x [.slice A0 x.f0.length c0,.int .i64 x.f1,.int .i64 x.f2,.int .i64 x.f3]:=fun W2 hW=>k26_mk W2 x l0 (g0 W2 hW)
def rd_T26 (xs : List S26) (i : Int) : S26:=xs.getD i.toNat z26
theorem at_T26 {w : World} {A : Option Addr} {n : Nat} {xs : List S26} (h : Kd.C k26 w A n xs) (i : Int) (h0 : 0≤i) (h1 : i < n) : ∃ ad A0 c0,A=some ad∧w.cell? (ad.add (i.toNat * 4))=some (.slice A0 (rd_T26 xs i).f0.length c0)∧w.cell? ⟨(ad.add (i.toNat * 4)).block,(ad.add (i.toNat * 4)).off + 1,none⟩=some (.int .i64 (rd_T26 xs i).f1)∧w.cell? ⟨(ad.add (i.toNat * 4)).block,(ad.add (i.toNat * 4)).off + 2,none⟩=some (.int .i64 (rd_T26 xs i).f2)∧w.cell? ⟨(ad.add (i.toNat * 4)).block,(ad.add (i.toNat * 4)).off + 3,none⟩=some (.int .i64 (rd_T26 xs i).f3)∧(rd_T26 xs i).f0.length≤c0∧(Kd.int .i64).C w A0 (rd_T26 xs i).f0.length (rd_T26 xs i).f0:=by
 obtain ⟨ad,c,e,_,hK,hc0⟩:=Kd.C_get h z26 i h0 h1
 have hc : ∀ j u,c[j]?=some u→w.cell? (ad.add (i.toNat * 4 + j))=some u:=hc0
 obtain ⟨A0,c0,rfl,l0,g0⟩:=k26_open hK
 exact ⟨ad,A0,c0,e,hc 0 _ rfl,by rw [← add_field _ _ 1 (by omega)];exact hc 1 _ rfl,by rw [← add_field _ _ 2 (by omega)];exact hc 2 _ rfl,by rw [← add_field _ _ 3 (by omega)];exact hc 3 _ rfl,l0,g0⟩
def rd_L8 (xs : List (List (List (List S31)))) (i : Int) : (List (List (List S31))):=xs.getD i.toNat ([] : List (List (List S31)))
theorem at_L8 {w : World} {A : Option Addr} {n : Nat} {xs : List (List (List (List S31)))} (h : Kd.C (Kd.slice 28 (Kd.slice 33 (Kd.slice 31 k31))) w A n xs) (i : Int) (h0 : 0≤i) (h1 : i < n) : ∃ ad A0 c0,A=some ad∧w.cell? (ad.add i.toNat)=some (.slice A0 (rd_L8 xs i).length c0)∧(rd_L8 xs i).length≤c0∧(Kd.slice 33 (Kd.slice 31 k31)).C w A0 (rd_L8 xs i).length (rd_L8 xs i):=by
 obtain ⟨ad,c,e,_,hK,hc0⟩:=Kd.C_get h ([] : List (List (List S31))) i h0 h1
 have hc : ∀ j u,c[j]?=some u→w.cell? (ad.add (i.toNat * 1 + j))=some u:=hc0
 obtain ⟨A0,c0,rfl,l0,g0⟩:=hK
 exact ⟨ad,A0,c0,e,by have hq:=hc 0 _ rfl;rwa [Nat.mul_one,Nat.add_zero] at hq,l0,g0⟩
def rd_L10 (xs : List (List Int)) (i : Int) : (List Int):=xs.getD i.toNat ([] : List Int)
theorem at_L10 {w : World} {A : Option Addr} {n : Nat} {xs : List (List Int)} (h : Kd.C (Kd.slice 5 (Kd.int .u8)) w A n xs) (i : Int) (h0 : 0≤i) (h1 : i < n) : ∃ ad A0 c0,A=some ad∧w.cell? (ad.add i.toNat)=some (.slice A0 (rd_L10 xs i).length c0)∧(rd_L10 xs i).length≤c0∧(Kd.int .u8).C w A0 (rd_L10 xs i).length (rd_L10 xs i):=by
 obtain ⟨ad,c,e,_,hK,hc0⟩:=Kd.C_get h ([] : List Int) i h0 h1
 have hc : ∀ j u,c[j]?=some u→w.cell? (ad.add (i.toNat * 1 + j))=some u:=hc0
 obtain ⟨A0,c0,rfl,l0,g0⟩:=hK
 exact ⟨ad,A0,c0,e,by have hq:=hc 0 _ rfl;rwa [Nat.mul_one,Nat.add_zero] at hq,l0,g0⟩
def rd_L11 (xs : List (List (List Int))) (i : Int) : (List (List Int)):=xs.getD i.toNat ([] : List (List Int))
theorem at_L11 {w : World} {A : Option Addr} {n : Nat} {xs : List (List (List Int))} (h : Kd.C (Kd.slice 29 (Kd.slice 5 (Kd.int .u8))) w A n xs) (i : Int) (h0 : 0≤i) (h1 : i < n) : ∃ ad A0 c0,A=some ad∧w.cell? (ad.add i.toNat)=some (.slice A0 (rd_L11 xs i).length c0)∧(rd_L11 xs i).length≤c0∧(Kd.slice 5 (Kd.int .u8)).C w A0 (rd_L11 xs i).length (rd_L11 xs i):=by
 obtain ⟨ad,c,e,_,hK,hc0⟩:=Kd.C_get h ([] : List (List Int)) i h0 h1
 have hc : ∀ j u,c[j]?=some u→w.cell? (ad.add (i.toNat * 1 + j))=some u:=hc0
 obtain ⟨A0,c0,rfl,l0,g0⟩:=hK
 exact ⟨ad,A0,c0,e,by have hq:=hc 0 _ rfl;rwa [Nat.mul_one,Nat.add_zero] at hq,l0,g0⟩
structure S36 where
 f0 : Int
 f1 : Int
 f2 : Int
 f3 : Int
 f4 : Int
 f5 : Int
 f6 : Int
 f7 : Int
def z36 : S36:=⟨(0 : Int),(0 : Int),(0 : Int),(0 : Int),(0 : Int),(0 : Int),(0 : Int),(0 : Int)⟩
def k36 : Kd S36:=Kd.iso (Kd.pair (Kd.int .u8) (Kd.pair (Kd.int .u8) (Kd.pair (Kd.int .u8) (Kd.pair (Kd.int .u8) (Kd.pair (Kd.int .u8) (Kd.pair (Kd.int .u8) (Kd.pair (Kd.int .u8) (Kd.int .u8)))))))) (fun x : S36=>(x.f0,x.f1,x.f2,x.f3,x.f4,x.f5,x.f6,x.f7))
theorem k36_heap : Kd.Heap k36:=Kd.heap_iso _ (Kd.heap_pair (Kd.heap_int .u8) (Kd.heap_pair (Kd.heap_int .u8) (Kd.heap_pair (Kd.heap_int .u8) (Kd.heap_pair (Kd.heap_int .u8) (Kd.heap_pair (Kd.heap_int .u8) (Kd.heap_pair (Kd.heap_int .u8) (Kd.heap_pair (Kd.heap_int .u8) (Kd.heap_int .u8))))))))
theorem k36_open {w : World} {x : S36} {cs : List Value} (h : k36.K w x cs) : cs=[.int .u8 x.f0,.int .u8 x.f1,.int .u8 x.f2,.int .u8 x.f3,.int .u8 x.f4,.int .u8 x.f5,.int .u8 x.f6,.int .u8 x.f7]:=by
 obtain ⟨_,_,rfl,rfl,⟨_,_,rfl,rfl,⟨_,_,rfl,rfl,⟨_,_,rfl,rfl,⟨_,_,rfl,rfl,⟨_,_,rfl,rfl,⟨_,_,rfl,rfl,rfl⟩⟩⟩⟩⟩⟩⟩:=h
 exact rfl
theorem k36_openM {w : World} {base : Nat} {ok : Nat→Prop} {x : S36} {cs : List Value} (h : k36.M w base ok x cs) : cs=[.int .u8 x.f0,.int .u8 x.f1,.int .u8 x.f2,.int .u8 x.f3,.int .u8 x.f4,.int .u8 x.f5,.int .u8 x.f6,.int .u8 x.f7]:=by
 obtain ⟨_,_,rfl,rfl,⟨_,_,rfl,rfl,⟨_,_,rfl,rfl,⟨_,_,rfl,rfl,⟨_,_,rfl,rfl,⟨_,_,rfl,rfl,⟨_,_,rfl,rfl,rfl⟩⟩⟩⟩⟩⟩⟩:=h
 exact rfl
theorem k36_mk (w : World) (x : S36)  : k36.K w x [.int .u8 x.f0,.int .u8 x.f1,.int .u8 x.f2,.int .u8 x.f3,.int .u8 x.f4,.int .u8 x.f5,.int .u8 x.f6,.int .u8 x.f7]:=⟨[.int .u8 x.f0],[.int .u8 x.f1,.int .u8 x.f2,.int .u8 x.f3,.int .u8 x.f4,.int .u8 x.f5,.int .u8 x.f6,.int .u8 x.f7],rfl,rfl,⟨[.int .u8 x.f1],[.int .u8 x.f2,.int .u8 x.f3,.int .u8 x.f4,.int .u8 x.f5,.int .u8 x.f6,.int .u8 x.f7],rfl,rfl,⟨[.int .u8 x.f2],[.int .u8 x.f3,.int .u8 x.f4,.int .u8 x.f5,.int .u8 x.f6,.int .u8 x.f7],rfl,rfl,⟨[.int .u8 x.f3],[.int .u8 x.f4,.int .u8 x.f5,.int .u8 x.f6,.int .u8 x.f7],rfl,rfl,⟨[.int .u8 x.f4],[.int .u8 x.f5,.int .u8 x.f6,.int .u8 x.f7],rfl,rfl,⟨[.int .u8 x.f5],[.int .u8 x.f6,.int .u8 x.f7],rfl,rfl,⟨[.int .u8 x.f6],[.int .u8 x.f7],rfl,rfl,rfl⟩⟩⟩⟩⟩⟩⟩
theorem k36_mkM (w : World) (base : Nat) (ok : Nat→Prop) (x : S36)  : k36.M w base ok x [.int .u8 x.f0,.int .u8 x.f1,.int .u8 x.f2,.int .u8 x.f3,.int .u8 x.f4,.int .u8 x.f5,.int .u8 x.f6,.int .u8 x.f7]:=⟨[.int .u8 x.f0],[.int .u8 x.f1,.int .u8 x.f2,.int .u8 x.f3,.int .u8 x.f4,.int .u8 x.f5,.int .u8 x.f6,.int .u8 x.f7],rfl,rfl,⟨[.int .u8 x.f1],[.int .u8 x.f2,.int .u8 x.f3,.int .u8 x.f4,.int .u8 x.f5,.int .u8 x.f6,.int .u8 x.f7],rfl,rfl,⟨[.int .u8 x.f2],[.int .u8 x.f3,.int .u8 x.f4,.int .u8 x.f5,.int .u8 x.f6,.int .u8 x.f7],rfl,rfl,⟨[.int .u8 x.f3],[.int .u8 x.f4,.int .u8 x.f5,.int .u8 x.f6,.int .u8 x.f7],rfl,rfl,⟨[.int .u8 x.f4],[.int .u8 x.f5,.int .u8 x.f6,.int .u8 x.f7],rfl,rfl,⟨[.int .u8 x.f5],[.int .u8 x.f6,.int .u8 x.f7],rfl,rfl,⟨[.int .u8 x.f6],[.int .u8 x.f7],rfl,rfl,rfl⟩⟩⟩⟩⟩⟩⟩
theorem k36_mkF (W : World) (ok : Nat→Prop) (x : S36) : Kd.FK k36 W ok x [.int .u8 x.f0,.int .u8 x.f1,.int .u8 x.f2,.int .u8 x.f3,.int .u8 x.f4,.int .u8 x.f5,.int .u8 x.f6,.int .u8 x.f7]:=fun W2 _=>k36_mk W2 x
def rd_T36 (xs : List S36) (i : Int) : S36:=xs.getD i.toNat z36
theorem at_T36 {w : World} {A : Option Addr} {n : Nat} {xs : List S36} (h : Kd.C k36 w A n xs) (i : Int) (h0 : 0≤i) (h1 : i < n) : ∃ ad ,A=some ad∧w.cell? (ad.add (i.toNat * 8))=some (.int .u8 (rd_T36 xs i).f0)∧w.cell? ⟨(ad.add (i.toNat * 8)).block,(ad.add (i.toNat * 8)).off + 1,none⟩=some (.int .u8 (rd_T36 xs i).f1)∧w.cell? ⟨(ad.add (i.toNat * 8)).block,(ad.add (i.toNat * 8)).off + 2,none⟩=some (.int .u8 (rd_T36 xs i).f2)∧w.cell? ⟨(ad.add (i.toNat * 8)).block,(ad.add (i.toNat * 8)).off + 3,none⟩=some (.int .u8 (rd_T36 xs i).f3)∧w.cell? ⟨(ad.add (i.toNat * 8)).block,(ad.add (i.toNat * 8)).off + 4,none⟩=some (.int .u8 (rd_T36 xs i).f4)∧w.cell? ⟨(ad.add (i.toNat * 8)).block,(ad.add (i.toNat * 8)).off + 5,none⟩=some (.int .u8 (rd_T36 xs i).f5)∧w.cell? ⟨(ad.add (i.toNat * 8)).block,(ad.add (i.toNat * 8)).off + 6,none⟩=some (.int .u8 (rd_T36 xs i).f6)∧w.cell? ⟨(ad.add (i.toNat * 8)).block,(ad.add (i.toNat * 8)).off + 7,none⟩=some (.int .u8 (rd_T36 xs i).f7):=by
 obtain ⟨ad,c,e,_,hK,hc0⟩:=Kd.C_get h z36 i h0 h1
 have hc : ∀ j u,c[j]?=some u→w.cell? (ad.add (i.toNat * 8 + j))=some u:=hc0
 obtain rfl:=k36_open hK
 exact ⟨ad,e,hc 0 _ rfl,by rw [← add_field _ _ 1 (by omega)];exact hc 1 _ rfl,by rw [← add_field _ _ 2 (by omega)];exact hc 2 _ rfl,by rw [← add_field _ _ 3 (by omega)];exact hc 3 _ rfl,by rw [← add_field _ _ 4 (by omega)];exact hc 4 _ rfl,by rw [← add_field _ _ 5 (by omega)];exact hc 5 _ rfl,by rw [← add_field _ _ 6 (by omega)];exact hc 6 _ rfl,by rw [← add_field _ _ 7 (by omega)];exact hc 7 _ rfl⟩
structure S38 where
 f0 : S36
 f1 : Int
 f2 : Int
 f3 : Int
 f4 : Int
def z38 : S38:=⟨z36,(0 : Int),(0 : Int),(0 : Int),(0 : Int)⟩
def k38 : Kd S38:=Kd.iso (Kd.pair k36 (Kd.pair (Kd.int .u8) (Kd.pair (Kd.int .u8) (Kd.pair (Kd.int .u8) (Kd.int .u8))))) (fun x : S38=>(x.f0,x.f1,x.f2,x.f3,x.f4))
theorem k38_heap : Kd.Heap k38:=Kd.heap_iso _ (Kd.heap_pair k36_heap (Kd.heap_pair (Kd.heap_int .u8) (Kd.heap_pair (Kd.heap_int .u8) (Kd.heap_pair (Kd.heap_int .u8) (Kd.heap_int .u8)))))
theorem k38_open {w : World} {x : S38} {cs : List Value} (h : k38.K w x cs) : cs=[.int .u8 x.f0.f0,.int .u8 x.f0.f1,.int .u8 x.f0.f2,.int .u8 x.f0.f3,.int .u8 x.f0.f4,.int .u8 x.f0.f5,.int .u8 x.f0.f6,.int .u8 x.f0.f7,.int .u8 x.f1,.int .u8 x.f2,.int .u8 x.f3,.int .u8 x.f4]:=by
 obtain ⟨_,_,rfl,s0,⟨_,_,rfl,rfl,⟨_,_,rfl,rfl,⟨_,_,rfl,rfl,rfl⟩⟩⟩⟩:=h
 obtain rfl:=k36_open s0
 exact rfl
theorem k38_openM {w : World} {base : Nat} {ok : Nat→Prop} {x : S38} {cs : List Value} (h : k38.M w base ok x cs) : cs=[.int .u8 x.f0.f0,.int .u8 x.f0.f1,.int .u8 x.f0.f2,.int .u8 x.f0.f3,.int .u8 x.f0.f4,.int .u8 x.f0.f5,.int .u8 x.f0.f6,.int .u8 x.f0.f7,.int .u8 x.f1,.int .u8 x.f2,.int .u8 x.f3,.int .u8 x.f4]:=by
 obtain ⟨_,_,rfl,s0,⟨_,_,rfl,rfl,⟨_,_,rfl,rfl,⟨_,_,rfl,rfl,rfl⟩⟩⟩⟩:=h
 obtain rfl:=k36_openM s0
 exact rfl
theorem k38_mk (w : World) (x : S38)  : k38.K w x [.int .u8 x.f0.f0,.int .u8 x.f0.f1,.int .u8 x.f0.f2,.int .u8 x.f0.f3,.int .u8 x.f0.f4,.int .u8 x.f0.f5,.int .u8 x.f0.f6,.int .u8 x.f0.f7,.int .u8 x.f1,.int .u8 x.f2,.int .u8 x.f3,.int .u8 x.f4]:=⟨[.int .u8 x.f0.f0,.int .u8 x.f0.f1,.int .u8 x.f0.f2,.int .u8 x.f0.f3,.int .u8 x.f0.f4,.int .u8 x.f0.f5,.int .u8 x.f0.f6,.int .u8 x.f0.f7],[.int .u8 x.f1,.int .u8 x.f2,.int .u8 x.f3,.int .u8 x.f4],rfl,(k36_mk w x.f0 ),⟨[.int .u8 x.f1],[.int .u8 x.f2,.int .u8 x.f3,.int .u8 x.f4],rfl,rfl,⟨[.int .u8 x.f2],[.int .u8 x.f3,.int .u8 x.f4],rfl,rfl,⟨[.int .u8 x.f3],[.int .u8 x.f4],rfl,rfl,rfl⟩⟩⟩⟩
theorem k38_mkM (w : World) (base : Nat) (ok : Nat→Prop) (x : S38)  : k38.M w base ok x [.int .u8 x.f0.f0,.int .u8 x.f0.f1,.int .u8 x.f0.f2,.int .u8 x.f0.f3,.int .u8 x.f0.f4,.int .u8 x.f0.f5,.int .u8 x.f0.f6,.int .u8 x.f0.f7,.int .u8 x.f1,.int .u8 x.f2,.int .u8 x.f3,.int .u8 x.f4]:=⟨[.int .u8 x.f0.f0,.int .u8 x.f0.f1,.int .u8 x.f0.f2,.int .u8 x.f0.f3,.int .u8 x.f0.f4,.int .u8 x.f0.f5,.int .u8 x.f0.f6,.int .u8 x.f0.f7],[.int .u8 x.f1,.int .u8 x.f2,.int .u8 x.f3,.int .u8 x.f4],rfl,(k36_mkM w base ok x.f0 ),⟨[.int .u8 x.f1],[.int .u8 x.f2,.int .u8 x.f3,.int .u8 x.f4],rfl,rfl,⟨[.int .u8 x.f2],[.int .u8 x.f3,.int .u8 x.f4],rfl,rfl,⟨[.int .u8 x.f3],[.int .u8 x.f4],rfl,rfl,rfl⟩⟩⟩⟩
theorem k38_mkF (W : World) (ok : Nat→Prop) (x : S38) : Kd.FK k38 W ok x [.int .u8 x.f0.f0,.int .u8 x.f0.f1,.int .u8 x.f0.f2,.int .u8 x.f0.f3,.int .u8 x.f0.f4,.int .u8 x.f0.f5,.int .u8 x.f0.f6,.int .u8 x.f0.f7,.int .u8 x.f1,.int .u8 x.f2,.int .u8 x.f3,.int .u8 x.f4]:=fun W2 _=>k38_mk W2 x
def rd_T38 (xs : List S38) (i : Int) : S38:=xs.getD i.toNat z38
theorem at_T38 {w : World} {A : Option Addr} {n : Nat} {xs : List S38} (h : Kd.C k38 w A n xs) (i : Int) (h0 : 0≤i) (h1 : i < n) : ∃ ad ,A=some ad∧w.cell? (ad.add (i.toNat * 12))=some (.int .u8 (rd_T38 xs i).f0.f0)∧w.cell? ⟨(ad.add (i.toNat * 12)).block,(ad.add (i.toNat * 12)).off + 1,none⟩=some (.int .u8 (rd_T38 xs i).f0.f1)∧w.cell? ⟨(ad.add (i.toNat * 12)).block,(ad.add (i.toNat * 12)).off + 2,none⟩=some (.int .u8 (rd_T38 xs i).f0.f2)∧w.cell? ⟨(ad.add (i.toNat * 12)).block,(ad.add (i.toNat * 12)).off + 3,none⟩=some (.int .u8 (rd_T38 xs i).f0.f3)∧w.cell? ⟨(ad.add (i.toNat * 12)).block,(ad.add (i.toNat * 12)).off + 4,none⟩=some (.int .u8 (rd_T38 xs i).f0.f4)∧w.cell? ⟨(ad.add (i.toNat * 12)).block,(ad.add (i.toNat * 12)).off + 5,none⟩=some (.int .u8 (rd_T38 xs i).f0.f5)∧w.cell? ⟨(ad.add (i.toNat * 12)).block,(ad.add (i.toNat * 12)).off + 6,none⟩=some (.int .u8 (rd_T38 xs i).f0.f6)∧w.cell? ⟨(ad.add (i.toNat * 12)).block,(ad.add (i.toNat * 12)).off + 7,none⟩=some (.int .u8 (rd_T38 xs i).f0.f7)∧w.cell? ⟨(ad.add (i.toNat * 12)).block,(ad.add (i.toNat * 12)).off + 8,none⟩=some (.int .u8 (rd_T38 xs i).f1)∧w.cell? ⟨(ad.add (i.toNat * 12)).block,(ad.add (i.toNat * 12)).off + 9,none⟩=some (.int .u8 (rd_T38 xs i).f2)∧w.cell? ⟨(ad.add (i.toNat * 12)).block,(ad.add (i.toNat * 12)).off + 10,none⟩=some (.int .u8 (rd_T38 xs i).f3)∧w.cell? ⟨(ad.add (i.toNat * 12)).block,(ad.add (i.toNat * 12)).off + 11,none⟩=some (.int .u8 (rd_T38 xs i).f4):=by
 obtain ⟨ad,c,e,_,hK,hc0⟩:=Kd.C_get h z38 i h0 h1
 have hc : ∀ j u,c[j]?=some u→w.cell? (ad.add (i.toNat * 12 + j))=some u:=hc0
 obtain rfl:=k38_open hK
 exact ⟨ad,e,hc 0 _ rfl,by rw [← add_field _ _ 1 (by omega)];exact hc 1 _ rfl,by rw [← add_field _ _ 2 (by omega)];exact hc 2 _ rfl,by rw [← add_field _ _ 3 (by omega)];exact hc 3 _ rfl,by rw [← add_field _ _ 4 (by omega)];exact hc 4 _ rfl,by rw [← add_field _ _ 5 (by omega)];exact hc 5 _ rfl,by rw [← add_field _ _ 6 (by omega)];exact hc 6 _ rfl,by rw [← add_field _ _ 7 (by omega)];exact hc 7 _ rfl,by rw [← add_field _ _ 8 (by omega)];exact hc 8 _ rfl,by rw [← add_field _ _ 9 (by omega)];exact hc 9 _ rfl,by rw [← add_field _ _ 10 (by omega)];exact hc 10 _ rfl,by rw [← add_field _ _ 11 (by omega)];exact hc 11 _ rfl⟩
structure S43 where
 f0 : Int
 f1 : Int
def z43 : S43:=⟨(0 : Int),(0 : Int)⟩
def k43 : Kd S43:=Kd.iso (Kd.pair (Kd.int .u8) (Kd.int .u8)) (fun x : S43=>(x.f0,x.f1))
theorem k43_heap : Kd.Heap k43:=Kd.heap_iso _ (Kd.heap_pair (Kd.heap_int .u8) (Kd.heap_int .u8))
theorem k43_open {w : World} {x : S43} {cs : List Value} (h : k43.K w x cs) : cs=[.int .u8 x.f0,.int .u8 x.f1]:=by
 obtain ⟨_,_,rfl,rfl,rfl⟩:=h
 exact rfl
theorem k43_openM {w : World} {base : Nat} {ok : Nat→Prop} {x : S43} {cs : List Value} (h : k43.M w base ok x cs) : cs=[.int .u8 x.f0,.int .u8 x.f1]:=by
 obtain ⟨_,_,rfl,rfl,rfl⟩:=h
 exact rfl
theorem k43_mk (w : World) (x : S43)  : k43.K w x [.int .u8 x.f0,.int .u8 x.f1]:=⟨[.int .u8 x.f0],[.int .u8 x.f1],rfl,rfl,rfl⟩
theorem k43_mkM (w : World) (base : Nat) (ok : Nat→Prop) (x : S43)  : k43.M w base ok x [.int .u8 x.f0,.int .u8 x.f1]:=⟨[.int .u8 x.f0],[.int .u8 x.f1],rfl,rfl,rfl⟩
theorem k43_mkF (W : World) (ok : Nat→Prop) (x : S43) : Kd.FK k43 W ok x [.int .u8 x.f0,.int .u8 x.f1]:=fun W2 _=>k43_mk W2 x
def rd_T43 (xs : List S43) (i : Int) : S43:=xs.getD i.toNat z43
theorem at_T43 {w : World} {A : Option Addr} {n : Nat} {xs : List S43} (h : Kd.C k43 w A n xs) (i : Int) (h0 : 0≤i) (h1 : i < n) : ∃ ad ,A=some ad∧w.cell? (ad.add (i.toNat * 2))=some (.int .u8 (rd_T43 xs i).f0)∧w.cell? ⟨(ad.add (i.toNat * 2)).block,(ad.add (i.toNat * 2)).off + 1,none⟩=some (.int .u8 (rd_T43 xs i).f1):=by
 obtain ⟨ad,c,e,_,hK,hc0⟩:=Kd.C_get h z43 i h0 h1
 have hc : ∀ j u,c[j]?=some u→w.cell? (ad.add (i.toNat * 2 + j))=some u:=hc0
 obtain rfl:=k43_open hK
 exact ⟨ad,e,hc 0 _ rfl,by rw [← add_field _ _ 1 (by omega)];exact hc 1 _ rfl⟩
end Go.Proofs.Ytfiandejapgkoaa.P

