/- Texts of AggEnds. Merged: Px0. -/
import Derived.Test.YtapaldcdoahfeaaProg
import Derived.Below
import Derived.Deep.Draws
import Derived.Deep.AppendLies
import Derived.Maps.AppendAt
import Derived.OwnWalk
import Derived.Laws.BytesArg
import Derived.Laws.MakeOwn
import Derived.Laws.OwnMore
import Derived.Deep.OwnRows
import Derived.Tactics
import Derived.Lib.ConvBytes
import Derived.Laws.Slices
import Derived.WalkKit
import Derived.KernelRfl
import Derived.RowKit3
import Derived.Deep.LoopGhost
import Derived.Deep.QuietTactic
import Derived.BigQuiet
import Derived.WideLaws
import Derived.Deep.DeepCutAuto
import Derived.Deep.CutBlock
import Derived.Deep.RegionHeld3
import Derived.Laws.Rows
import Derived.Lib.AppendStr
import Derived.ArgAppend
import Derived.Laws.IdiomCopy
import Derived.OrdersHeld
import Derived.Laws.BitsLemmas
import Derived.RowKit
import Derived.Test.YtapaldcdoahfeaaQAggEndsHKit
import Derived.Test.YtapaldcdoahfeaaQAggEndsWWords
import Derived.Test.YtapaldcdoahfeaaQAggEndsWLast
import Derived.Test.YtapaldcdoahfeaaQAggEndsWTab
import Derived.Test.YtapaldcdoahfeaaQAggEndsWFour
import Derived.Test.YtapaldcdoahfeaaQAggEndsWQPut
import Derived.Test.YtapaldcdoahfeaaQAggEndsWApart
import Derived.Test.YtapaldcdoahfeaaQAggEndsWArr
import Derived.Test.YtapaldcdoahfeaaQAggEndsWZeros
import Derived.Test.YtapaldcdoahfeaaQAggEndsWFoot
import Derived.Test.YtapaldcdoahfeaaQAggEndsWKept
import Derived.Test.YtapaldcdoahfeaaQAggEndsWShare
import Derived.Test.YtapaldcdoahfeaaQAggEndsWN
import Derived.Test.YtapaldcdoahfeaaQAggEndsWFootNe
import Derived.Test.YtapaldcdoahfeaaQAggEndsWAt
import Derived.Test.YtapaldcdoahfeaaQAggEndsWEqStruct
import Derived.Test.YtapaldcdoahfeaaQAggEndsWRepsOne
import Derived.Test.YtapaldcdoahfeaaQAggEndsWInv
import Derived.Test.YtapaldcdoahfeaaQAggEndsWInvWords
import Derived.Test.YtapaldcdoahfeaaQAggEndsWGuard
import Derived.Test.YtapaldcdoahfeaaQAggEndsWNEv
import Derived.Test.YtapaldcdoahfeaaQAggEndsWMore
namespace Go.Proofs.Ytapaldcdoahfeaa.P
open Go.RowKit Go.Proofs.YtapaldcdoahfeaaW.PrintWords Go.Proofs.YtapaldcdoahfeaaW.PrintLast Go.Proofs.YtapaldcdoahfeaaW.PrintMore
attribute [local go_sem] max2_int min2_int max_two min_two max_three min_three max_four min_four   -- for this text's walks alone
set_option linter.unusedVariables false
set_option linter.unusedSimpArgs false
def errW : Option Int→Value
 | none=>.nilIface
 | some c=>.iface 0 (.int .i64 c)
theorem errW_none : errW none=.nilIface:=rfl
theorem errW_some (c : Int) : errW (some c)=.iface 0 (.int .i64 c):=rfl
theorem info3 : (Try.prog.info? 3).map (fun i=>(i.zero,i.size,i.bytes))=some (some (.int .i64 0),1,8):=by kernel_rfl
theorem info33 : (Try.prog.info? 33).map (fun i=>(i.zero,i.size,i.bytes))=some (some (.agg #[(.int .i64 0),(.int .i64 0)]),2,16):=by kernel_rfl
theorem info40 : (Try.prog.info? 40).map (fun i=>(i.zero,i.size,i.bytes))=some (some (.agg #[(.int .i64 0),(.string ⟨#[]⟩)]),2,24):=by kernel_rfl
theorem info42 : (Try.prog.info? 42).map (fun i=>(i.zero,i.size,i.bytes))=some (some (.agg #[(.bool false),(.int .i64 0),(.string ⟨#[]⟩)]),3,32):=by kernel_rfl
theorem info44 : (Try.prog.info? 44).map (fun i=>(i.zero,i.size,i.bytes))=some (some (.slice none 0 0),1,24):=by kernel_rfl
def rd_L2 (xs : List (List Int)) (i : Int) : (List Int):=xs.getD i.toNat ([] : List Int)
theorem at_L2 {w : World} {A : Option Addr} {n : Nat} {xs : List (List Int)} (h : Kd.C (Kd.slice 3 (Kd.int .i64)) w A n xs) (i : Int) (h0 : 0≤i) (h1 : i < n) : ∃ ad A0 c0,A=some ad∧w.cell? (ad.add i.toNat)=some (.slice A0 (rd_L2 xs i).length c0)∧(rd_L2 xs i).length≤c0∧(Kd.int .i64).C w A0 (rd_L2 xs i).length (rd_L2 xs i):=by
 obtain ⟨ad,c,e,_,hK,hc0⟩:=Kd.C_get h ([] : List Int) i h0 h1
 have hc : ∀ j u,c[j]?=some u→w.cell? (ad.add (i.toNat * 1 + j))=some u:=hc0
 obtain ⟨A0,c0,rfl,l0,g0⟩:=hK
 exact ⟨ad,A0,c0,e,by have hq:=hc 0 _ rfl;rwa [Nat.mul_one,Nat.add_zero] at hq,l0,g0⟩
structure S29 where
 f0 : (List Int)
 f1 : Int
 f2 : Int
 f3 : Int
def z29 : S29:=⟨([] : List Int),(0 : Int),(0 : Int),(0 : Int)⟩
def k29 : Kd S29:=Kd.iso (Kd.pair (Kd.slice 3 (Kd.int .i64)) (Kd.pair (Kd.int .i64) (Kd.pair (Kd.int .i64) (Kd.int .i64)))) (fun x : S29=>(x.f0,x.f1,x.f2,x.f3))
theorem k29_open {w : World} {x : S29} {cs : List Value} (h : k29.K w x cs) : ∃ A0 c0,cs=[.slice A0 x.f0.length c0,.int .i64 x.f1,.int .i64 x.f2,.int .i64 x.f3]∧x.f0.length≤c0∧(Kd.int .i64).C w A0 x.f0.length x.f0:=by
 obtain ⟨_,_,rfl,⟨A0,c0,rfl,l0,g0⟩,⟨_,_,rfl,rfl,⟨_,_,rfl,rfl,rfl⟩⟩⟩:=h
 exact ⟨A0,c0,rfl,l0,g0⟩
theorem k29_openM {w : World} {base : Nat} {ok : Nat→Prop} {x : S29} {cs : List Value} (h : k29.M w base ok x cs) : ∃ v0,cs=[v0,.int .i64 x.f1,.int .i64 x.f2,.int .i64 x.f3]∧(Kd.int .i64).R 3 w base ok v0 x.f0:=by
 obtain ⟨_,_,rfl,⟨v0,rfl,g0⟩,⟨_,_,rfl,rfl,⟨_,_,rfl,rfl,rfl⟩⟩⟩:=h
 exact ⟨v0,rfl,g0⟩
theorem k29_mk (w : World) (x : S29) {A0 : Option Addr} {c0 : Nat} (l0 : x.f0.length≤c0) (g0 : (Kd.int .i64).C w A0 x.f0.length x.f0) : k29.K w x [.slice A0 x.f0.length c0,.int .i64 x.f1,.int .i64 x.f2,.int .i64 x.f3]:=⟨[.slice A0 x.f0.length c0],[.int .i64 x.f1,.int .i64 x.f2,.int .i64 x.f3],rfl,⟨A0,c0,rfl,l0,g0⟩,⟨[.int .i64 x.f1],[.int .i64 x.f2,.int .i64 x.f3],rfl,rfl,⟨[.int .i64 x.f2],[.int .i64 x.f3],rfl,rfl,rfl⟩⟩⟩
theorem k29_mkM (w : World) (base : Nat) (ok : Nat→Prop) (x : S29) {v0 : Value} (g0 : (Kd.int .i64).R 3 w base ok v0 x.f0) : k29.M w base ok x [v0,.int .i64 x.f1,.int .i64 x.f2,.int .i64 x.f3]:=⟨[v0],[.int .i64 x.f1,.int .i64 x.f2,.int .i64 x.f3],rfl,⟨v0,rfl,g0⟩,⟨[.int .i64 x.f1],[.int .i64 x.f2,.int .i64 x.f3],rfl,rfl,⟨[.int .i64 x.f2],[.int .i64 x.f3],rfl,rfl,rfl⟩⟩⟩
theorem k29_openF {W : World} {ok : Nat→Prop} {x : S29} {cs : List Value} (h : Kd.FK k29 W ok x cs) : ∃ A0 c0,cs=[.slice A0 x.f0.length c0,.int .i64 x.f1,.int .i64 x.f2,.int .i64 x.f3]∧x.f0.length≤c0∧Kd.F (Kd.int .i64) W ok A0 x.f0.length x.f0:=by
 obtain ⟨A0,c0,rfl,l0,_⟩:=k29_open (Kd.FK_now h)
 exact ⟨A0,c0,rfl,l0,(fun W' hW=>by obtain ⟨A0_,c0_,he,l0_,g0_⟩:=k29_open (h W' hW);injection (Option.some.inj (show some (Value.slice A0 x.f0.length c0)=some (Value.slice A0_ x.f0.length c0_) from congrArg (fun l=>l[0]?) he)) with ha_ _ _;rw [ha_];exact g0_)⟩
theorem k29_mkF (W : World) (ok : Nat→Prop) (x : S29) {A0 : Option Addr} {c0 : Nat} (l0 : x.f0.length≤c0) (g0 : Kd.F (Kd.int .i64) W ok A0 x.f0.length x.f0) : Kd.FK k29 W ok x [.slice A0 x.f0.length c0,.int .i64 x.f1,.int .i64 x.f2,.int .i64 x.f3]:=fun W2 hW=>k29_mk W2 x l0 (g0 W2 hW)
def rd_T29 (xs : List S29) (i : Int) : S29:=xs.getD i.toNat z29
theorem at_T29 {w : World} {A : Option Addr} {n : Nat} {xs : List S29} (h : Kd.C k29 w A n xs) (i : Int) (h0 : 0≤i) (h1 : i < n) : ∃ ad A0 c0,A=some ad∧w.cell? (ad.add (i.toNat * 4))=some (.slice A0 (rd_T29 xs i).f0.length c0)∧w.cell? ⟨(ad.add (i.toNat * 4)).block,(ad.add (i.toNat * 4)).off + 1,none⟩=some (.int .i64 (rd_T29 xs i).f1)∧w.cell? ⟨(ad.add (i.toNat * 4)).block,(ad.add (i.toNat * 4)).off + 2,none⟩=some (.int .i64 (rd_T29 xs i).f2)∧w.cell? ⟨(ad.add (i.toNat * 4)).block,(ad.add (i.toNat * 4)).off + 3,none⟩=some (.int .i64 (rd_T29 xs i).f3)∧(rd_T29 xs i).f0.length≤c0∧(Kd.int .i64).C w A0 (rd_T29 xs i).f0.length (rd_T29 xs i).f0:=by
 obtain ⟨ad,c,e,_,hK,hc0⟩:=Kd.C_get h z29 i h0 h1
 have hc : ∀ j u,c[j]?=some u→w.cell? (ad.add (i.toNat * 4 + j))=some u:=hc0
 obtain ⟨A0,c0,rfl,l0,g0⟩:=k29_open hK
 exact ⟨ad,A0,c0,e,hc 0 _ rfl,by rw [← add_field _ _ 1 (by omega)];exact hc 1 _ rfl,by rw [← add_field _ _ 2 (by omega)];exact hc 2 _ rfl,by rw [← add_field _ _ 3 (by omega)];exact hc 3 _ rfl,l0,g0⟩
structure S33 where
 f0 : Int
 f1 : Int
def z33 : S33:=⟨(0 : Int),(0 : Int)⟩
def k33 : Kd S33:=Kd.iso (Kd.pair (Kd.int .i64) (Kd.int .i64)) (fun x : S33=>(x.f0,x.f1))
theorem k33_open {w : World} {x : S33} {cs : List Value} (h : k33.K w x cs) : cs=[.int .i64 x.f0,.int .i64 x.f1]:=by
 obtain ⟨_,_,rfl,rfl,rfl⟩:=h
 exact rfl
theorem k33_openM {w : World} {base : Nat} {ok : Nat→Prop} {x : S33} {cs : List Value} (h : k33.M w base ok x cs) : cs=[.int .i64 x.f0,.int .i64 x.f1]:=by
 obtain ⟨_,_,rfl,rfl,rfl⟩:=h
 exact rfl
theorem k33_mk (w : World) (x : S33)  : k33.K w x [.int .i64 x.f0,.int .i64 x.f1]:=⟨[.int .i64 x.f0],[.int .i64 x.f1],rfl,rfl,rfl⟩
theorem k33_mkM (w : World) (base : Nat) (ok : Nat→Prop) (x : S33)  : k33.M w base ok x [.int .i64 x.f0,.int .i64 x.f1]:=⟨[.int .i64 x.f0],[.int .i64 x.f1],rfl,rfl,rfl⟩
theorem k33_mkF (W : World) (ok : Nat→Prop) (x : S33) : Kd.FK k33 W ok x [.int .i64 x.f0,.int .i64 x.f1]:=fun W2 _=>k33_mk W2 x
def rd_T33 (xs : List S33) (i : Int) : S33:=xs.getD i.toNat z33
theorem at_T33 {w : World} {A : Option Addr} {n : Nat} {xs : List S33} (h : Kd.C k33 w A n xs) (i : Int) (h0 : 0≤i) (h1 : i < n) : ∃ ad ,A=some ad∧w.cell? (ad.add (i.toNat * 2))=some (.int .i64 (rd_T33 xs i).f0)∧w.cell? ⟨(ad.add (i.toNat * 2)).block,(ad.add (i.toNat * 2)).off + 1,none⟩=some (.int .i64 (rd_T33 xs i).f1):=by
 obtain ⟨ad,c,e,_,hK,hc0⟩:=Kd.C_get h z33 i h0 h1
 have hc : ∀ j u,c[j]?=some u→w.cell? (ad.add (i.toNat * 2 + j))=some u:=hc0
 obtain rfl:=k33_open hK
 exact ⟨ad,e,hc 0 _ rfl,by rw [← add_field _ _ 1 (by omega)];exact hc 1 _ rfl⟩
def rd_L5 (xs : List (List S33)) (i : Int) : (List S33):=xs.getD i.toNat ([] : List S33)
theorem at_L5 {w : World} {A : Option Addr} {n : Nat} {xs : List (List S33)} (h : Kd.C (Kd.slice 33 k33) w A n xs) (i : Int) (h0 : 0≤i) (h1 : i < n) : ∃ ad A0 c0,A=some ad∧w.cell? (ad.add i.toNat)=some (.slice A0 (rd_L5 xs i).length c0)∧(rd_L5 xs i).length≤c0∧k33.C w A0 (rd_L5 xs i).length (rd_L5 xs i):=by
 obtain ⟨ad,c,e,_,hK,hc0⟩:=Kd.C_get h ([] : List S33) i h0 h1
 have hc : ∀ j u,c[j]?=some u→w.cell? (ad.add (i.toNat * 1 + j))=some u:=hc0
 obtain ⟨A0,c0,rfl,l0,g0⟩:=hK
 exact ⟨ad,A0,c0,e,by have hq:=hc 0 _ rfl;rwa [Nat.mul_one,Nat.add_zero] at hq,l0,g0⟩
structure S40 where
 f0 : Int
 f1 : ByteArray
def z40 : S40:=⟨(0 : Int),(⟨#[]⟩ : ByteArray)⟩
def k40 : Kd S40:=Kd.iso (Kd.pair (Kd.int .i64) Kd.string) (fun x : S40=>(x.f0,x.f1))
theorem k40_open {w : World} {x : S40} {cs : List Value} (h : k40.K w x cs) : cs=[.int .i64 x.f0,.string x.f1]:=by
 obtain ⟨_,_,rfl,rfl,rfl⟩:=h
 exact rfl
theorem k40_openM {w : World} {base : Nat} {ok : Nat→Prop} {x : S40} {cs : List Value} (h : k40.M w base ok x cs) : cs=[.int .i64 x.f0,.string x.f1]:=by
 obtain ⟨_,_,rfl,rfl,rfl⟩:=h
 exact rfl
theorem k40_mk (w : World) (x : S40)  : k40.K w x [.int .i64 x.f0,.string x.f1]:=⟨[.int .i64 x.f0],[.string x.f1],rfl,rfl,rfl⟩
theorem k40_mkM (w : World) (base : Nat) (ok : Nat→Prop) (x : S40)  : k40.M w base ok x [.int .i64 x.f0,.string x.f1]:=⟨[.int .i64 x.f0],[.string x.f1],rfl,rfl,rfl⟩
theorem k40_mkF (W : World) (ok : Nat→Prop) (x : S40) : Kd.FK k40 W ok x [.int .i64 x.f0,.string x.f1]:=fun W2 _=>k40_mk W2 x
def rd_T40 (xs : List S40) (i : Int) : S40:=xs.getD i.toNat z40
theorem at_T40 {w : World} {A : Option Addr} {n : Nat} {xs : List S40} (h : Kd.C k40 w A n xs) (i : Int) (h0 : 0≤i) (h1 : i < n) : ∃ ad ,A=some ad∧w.cell? (ad.add (i.toNat * 2))=some (.int .i64 (rd_T40 xs i).f0)∧w.cell? ⟨(ad.add (i.toNat * 2)).block,(ad.add (i.toNat * 2)).off + 1,none⟩=some (.string (rd_T40 xs i).f1):=by
 obtain ⟨ad,c,e,_,hK,hc0⟩:=Kd.C_get h z40 i h0 h1
 have hc : ∀ j u,c[j]?=some u→w.cell? (ad.add (i.toNat * 2 + j))=some u:=hc0
 obtain rfl:=k40_open hK
 exact ⟨ad,e,hc 0 _ rfl,by rw [← add_field _ _ 1 (by omega)];exact hc 1 _ rfl⟩
def rd_L7 (xs : List (List S40)) (i : Int) : (List S40):=xs.getD i.toNat ([] : List S40)
theorem at_L7 {w : World} {A : Option Addr} {n : Nat} {xs : List (List S40)} (h : Kd.C (Kd.slice 40 k40) w A n xs) (i : Int) (h0 : 0≤i) (h1 : i < n) : ∃ ad A0 c0,A=some ad∧w.cell? (ad.add i.toNat)=some (.slice A0 (rd_L7 xs i).length c0)∧(rd_L7 xs i).length≤c0∧k40.C w A0 (rd_L7 xs i).length (rd_L7 xs i):=by
 obtain ⟨ad,c,e,_,hK,hc0⟩:=Kd.C_get h ([] : List S40) i h0 h1
 have hc : ∀ j u,c[j]?=some u→w.cell? (ad.add (i.toNat * 1 + j))=some u:=hc0
 obtain ⟨A0,c0,rfl,l0,g0⟩:=hK
 exact ⟨ad,A0,c0,e,by have hq:=hc 0 _ rfl;rwa [Nat.mul_one,Nat.add_zero] at hq,l0,g0⟩
def rd_L8 (xs : List (List (List S40))) (i : Int) : (List (List S40)):=xs.getD i.toNat ([] : List (List S40))
theorem at_L8 {w : World} {A : Option Addr} {n : Nat} {xs : List (List (List S40))} (h : Kd.C (Kd.slice 44 (Kd.slice 40 k40)) w A n xs) (i : Int) (h0 : 0≤i) (h1 : i < n) : ∃ ad A0 c0,A=some ad∧w.cell? (ad.add i.toNat)=some (.slice A0 (rd_L8 xs i).length c0)∧(rd_L8 xs i).length≤c0∧(Kd.slice 40 k40).C w A0 (rd_L8 xs i).length (rd_L8 xs i):=by
 obtain ⟨ad,c,e,_,hK,hc0⟩:=Kd.C_get h ([] : List (List S40)) i h0 h1
 have hc : ∀ j u,c[j]?=some u→w.cell? (ad.add (i.toNat * 1 + j))=some u:=hc0
 obtain ⟨A0,c0,rfl,l0,g0⟩:=hK
 exact ⟨ad,A0,c0,e,by have hq:=hc 0 _ rfl;rwa [Nat.mul_one,Nat.add_zero] at hq,l0,g0⟩
structure S42 where
 f0 : Bool
 f1 : S40
def z42 : S42:=⟨false,z40⟩
def k42 : Kd S42:=Kd.iso (Kd.pair Kd.bool k40) (fun x : S42=>(x.f0,x.f1))
theorem k42_open {w : World} {x : S42} {cs : List Value} (h : k42.K w x cs) : cs=[.bool x.f0,.int .i64 x.f1.f0,.string x.f1.f1]:=by
 obtain ⟨_,_,rfl,rfl,s1⟩:=h
 obtain rfl:=k40_open s1
 exact rfl
theorem k42_openM {w : World} {base : Nat} {ok : Nat→Prop} {x : S42} {cs : List Value} (h : k42.M w base ok x cs) : cs=[.bool x.f0,.int .i64 x.f1.f0,.string x.f1.f1]:=by
 obtain ⟨_,_,rfl,rfl,s1⟩:=h
 obtain rfl:=k40_openM s1
 exact rfl
theorem k42_mk (w : World) (x : S42)  : k42.K w x [.bool x.f0,.int .i64 x.f1.f0,.string x.f1.f1]:=⟨[.bool x.f0],[.int .i64 x.f1.f0,.string x.f1.f1],rfl,rfl,(k40_mk w x.f1 )⟩
theorem k42_mkM (w : World) (base : Nat) (ok : Nat→Prop) (x : S42)  : k42.M w base ok x [.bool x.f0,.int .i64 x.f1.f0,.string x.f1.f1]:=⟨[.bool x.f0],[.int .i64 x.f1.f0,.string x.f1.f1],rfl,rfl,(k40_mkM w base ok x.f1 )⟩
theorem k42_mkF (W : World) (ok : Nat→Prop) (x : S42) : Kd.FK k42 W ok x [.bool x.f0,.int .i64 x.f1.f0,.string x.f1.f1]:=fun W2 _=>k42_mk W2 x
def rd_T42 (xs : List S42) (i : Int) : S42:=xs.getD i.toNat z42
theorem at_T42 {w : World} {A : Option Addr} {n : Nat} {xs : List S42} (h : Kd.C k42 w A n xs) (i : Int) (h0 : 0≤i) (h1 : i < n) : ∃ ad ,A=some ad∧w.cell? (ad.add (i.toNat * 3))=some (.bool (rd_T42 xs i).f0)∧w.cell? ⟨(ad.add (i.toNat * 3)).block,(ad.add (i.toNat * 3)).off + 1,none⟩=some (.int .i64 (rd_T42 xs i).f1.f0)∧w.cell? ⟨(ad.add (i.toNat * 3)).block,(ad.add (i.toNat * 3)).off + 2,none⟩=some (.string (rd_T42 xs i).f1.f1):=by
 obtain ⟨ad,c,e,_,hK,hc0⟩:=Kd.C_get h z42 i h0 h1
 have hc : ∀ j u,c[j]?=some u→w.cell? (ad.add (i.toNat * 3 + j))=some u:=hc0
 obtain rfl:=k42_open hK
 exact ⟨ad,e,hc 0 _ rfl,by rw [← add_field _ _ 1 (by omega)];exact hc 1 _ rfl,by rw [← add_field _ _ 2 (by omega)];exact hc 2 _ rfl⟩
def rd_L11 (xs : List (List S42)) (i : Int) : (List S42):=xs.getD i.toNat ([] : List S42)
theorem at_L11 {w : World} {A : Option Addr} {n : Nat} {xs : List (List S42)} (h : Kd.C (Kd.slice 42 k42) w A n xs) (i : Int) (h0 : 0≤i) (h1 : i < n) : ∃ ad A0 c0,A=some ad∧w.cell? (ad.add i.toNat)=some (.slice A0 (rd_L11 xs i).length c0)∧(rd_L11 xs i).length≤c0∧k42.C w A0 (rd_L11 xs i).length (rd_L11 xs i):=by
 obtain ⟨ad,c,e,_,hK,hc0⟩:=Kd.C_get h ([] : List S42) i h0 h1
 have hc : ∀ j u,c[j]?=some u→w.cell? (ad.add (i.toNat * 1 + j))=some u:=hc0
 obtain ⟨A0,c0,rfl,l0,g0⟩:=hK
 exact ⟨ad,A0,c0,e,by have hq:=hc 0 _ rfl;rwa [Nat.mul_one,Nat.add_zero] at hq,l0,g0⟩
structure S22 where
 f0 : Int
 f1 : Int
 f2 : Int
 f3 : Int
 f4 : Int
 f5 : Int
 f6 : Int
 f7 : Int
def z22 : S22:=⟨(0 : Int),(0 : Int),(0 : Int),(0 : Int),(0 : Int),(0 : Int),(0 : Int),(0 : Int)⟩
def k22 : Kd S22:=Kd.iso (Kd.pair (Kd.int .u8) (Kd.pair (Kd.int .u8) (Kd.pair (Kd.int .u8) (Kd.pair (Kd.int .u8) (Kd.pair (Kd.int .u8) (Kd.pair (Kd.int .u8) (Kd.pair (Kd.int .u8) (Kd.int .u8)))))))) (fun x : S22=>(x.f0,x.f1,x.f2,x.f3,x.f4,x.f5,x.f6,x.f7))
theorem k22_open {w : World} {x : S22} {cs : List Value} (h : k22.K w x cs) : cs=[.int .u8 x.f0,.int .u8 x.f1,.int .u8 x.f2,.int .u8 x.f3,.int .u8 x.f4,.int .u8 x.f5,.int .u8 x.f6,.int .u8 x.f7]:=by
 obtain ⟨_,_,rfl,rfl,⟨_,_,rfl,rfl,⟨_,_,rfl,rfl,⟨_,_,rfl,rfl,⟨_,_,rfl,rfl,⟨_,_,rfl,rfl,⟨_,_,rfl,rfl,rfl⟩⟩⟩⟩⟩⟩⟩:=h
 exact rfl
theorem k22_openM {w : World} {base : Nat} {ok : Nat→Prop} {x : S22} {cs : List Value} (h : k22.M w base ok x cs) : cs=[.int .u8 x.f0,.int .u8 x.f1,.int .u8 x.f2,.int .u8 x.f3,.int .u8 x.f4,.int .u8 x.f5,.int .u8 x.f6,.int .u8 x.f7]:=by
 obtain ⟨_,_,rfl,rfl,⟨_,_,rfl,rfl,⟨_,_,rfl,rfl,⟨_,_,rfl,rfl,⟨_,_,rfl,rfl,⟨_,_,rfl,rfl,⟨_,_,rfl,rfl,rfl⟩⟩⟩⟩⟩⟩⟩:=h
 exact rfl
theorem k22_mk (w : World) (x : S22)  : k22.K w x [.int .u8 x.f0,.int .u8 x.f1,.int .u8 x.f2,.int .u8 x.f3,.int .u8 x.f4,.int .u8 x.f5,.int .u8 x.f6,.int .u8 x.f7]:=⟨[.int .u8 x.f0],[.int .u8 x.f1,.int .u8 x.f2,.int .u8 x.f3,.int .u8 x.f4,.int .u8 x.f5,.int .u8 x.f6,.int .u8 x.f7],rfl,rfl,⟨[.int .u8 x.f1],[.int .u8 x.f2,.int .u8 x.f3,.int .u8 x.f4,.int .u8 x.f5,.int .u8 x.f6,.int .u8 x.f7],rfl,rfl,⟨[.int .u8 x.f2],[.int .u8 x.f3,.int .u8 x.f4,.int .u8 x.f5,.int .u8 x.f6,.int .u8 x.f7],rfl,rfl,⟨[.int .u8 x.f3],[.int .u8 x.f4,.int .u8 x.f5,.int .u8 x.f6,.int .u8 x.f7],rfl,rfl,⟨[.int .u8 x.f4],[.int .u8 x.f5,.int .u8 x.f6,.int .u8 x.f7],rfl,rfl,⟨[.int .u8 x.f5],[.int .u8 x.f6,.int .u8 x.f7],rfl,rfl,⟨[.int .u8 x.f6],[.int .u8 x.f7],rfl,rfl,rfl⟩⟩⟩⟩⟩⟩⟩
theorem k22_mkM (w : World) (base : Nat) (ok : Nat→Prop) (x : S22)  : k22.M w base ok x [.int .u8 x.f0,.int .u8 x.f1,.int .u8 x.f2,.int .u8 x.f3,.int .u8 x.f4,.int .u8 x.f5,.int .u8 x.f6,.int .u8 x.f7]:=⟨[.int .u8 x.f0],[.int .u8 x.f1,.int .u8 x.f2,.int .u8 x.f3,.int .u8 x.f4,.int .u8 x.f5,.int .u8 x.f6,.int .u8 x.f7],rfl,rfl,⟨[.int .u8 x.f1],[.int .u8 x.f2,.int .u8 x.f3,.int .u8 x.f4,.int .u8 x.f5,.int .u8 x.f6,.int .u8 x.f7],rfl,rfl,⟨[.int .u8 x.f2],[.int .u8 x.f3,.int .u8 x.f4,.int .u8 x.f5,.int .u8 x.f6,.int .u8 x.f7],rfl,rfl,⟨[.int .u8 x.f3],[.int .u8 x.f4,.int .u8 x.f5,.int .u8 x.f6,.int .u8 x.f7],rfl,rfl,⟨[.int .u8 x.f4],[.int .u8 x.f5,.int .u8 x.f6,.int .u8 x.f7],rfl,rfl,⟨[.int .u8 x.f5],[.int .u8 x.f6,.int .u8 x.f7],rfl,rfl,⟨[.int .u8 x.f6],[.int .u8 x.f7],rfl,rfl,rfl⟩⟩⟩⟩⟩⟩⟩
theorem k22_mkF (W : World) (ok : Nat→Prop) (x : S22) : Kd.FK k22 W ok x [.int .u8 x.f0,.int .u8 x.f1,.int .u8 x.f2,.int .u8 x.f3,.int .u8 x.f4,.int .u8 x.f5,.int .u8 x.f6,.int .u8 x.f7]:=fun W2 _=>k22_mk W2 x
def rd_T22 (xs : List S22) (i : Int) : S22:=xs.getD i.toNat z22
theorem at_T22 {w : World} {A : Option Addr} {n : Nat} {xs : List S22} (h : Kd.C k22 w A n xs) (i : Int) (h0 : 0≤i) (h1 : i < n) : ∃ ad ,A=some ad∧w.cell? (ad.add (i.toNat * 8))=some (.int .u8 (rd_T22 xs i).f0)∧w.cell? ⟨(ad.add (i.toNat * 8)).block,(ad.add (i.toNat * 8)).off + 1,none⟩=some (.int .u8 (rd_T22 xs i).f1)∧w.cell? ⟨(ad.add (i.toNat * 8)).block,(ad.add (i.toNat * 8)).off + 2,none⟩=some (.int .u8 (rd_T22 xs i).f2)∧w.cell? ⟨(ad.add (i.toNat * 8)).block,(ad.add (i.toNat * 8)).off + 3,none⟩=some (.int .u8 (rd_T22 xs i).f3)∧w.cell? ⟨(ad.add (i.toNat * 8)).block,(ad.add (i.toNat * 8)).off + 4,none⟩=some (.int .u8 (rd_T22 xs i).f4)∧w.cell? ⟨(ad.add (i.toNat * 8)).block,(ad.add (i.toNat * 8)).off + 5,none⟩=some (.int .u8 (rd_T22 xs i).f5)∧w.cell? ⟨(ad.add (i.toNat * 8)).block,(ad.add (i.toNat * 8)).off + 6,none⟩=some (.int .u8 (rd_T22 xs i).f6)∧w.cell? ⟨(ad.add (i.toNat * 8)).block,(ad.add (i.toNat * 8)).off + 7,none⟩=some (.int .u8 (rd_T22 xs i).f7):=by
 obtain ⟨ad,c,e,_,hK,hc0⟩:=Kd.C_get h z22 i h0 h1
 have hc : ∀ j u,c[j]?=some u→w.cell? (ad.add (i.toNat * 8 + j))=some u:=hc0
 obtain rfl:=k22_open hK
 exact ⟨ad,e,hc 0 _ rfl,by rw [← add_field _ _ 1 (by omega)];exact hc 1 _ rfl,by rw [← add_field _ _ 2 (by omega)];exact hc 2 _ rfl,by rw [← add_field _ _ 3 (by omega)];exact hc 3 _ rfl,by rw [← add_field _ _ 4 (by omega)];exact hc 4 _ rfl,by rw [← add_field _ _ 5 (by omega)];exact hc 5 _ rfl,by rw [← add_field _ _ 6 (by omega)];exact hc 6 _ rfl,by rw [← add_field _ _ 7 (by omega)];exact hc 7 _ rfl⟩
structure S24 where
 f0 : S22
 f1 : Int
 f2 : Int
 f3 : Int
 f4 : Int
def z24 : S24:=⟨z22,(0 : Int),(0 : Int),(0 : Int),(0 : Int)⟩
def k24 : Kd S24:=Kd.iso (Kd.pair k22 (Kd.pair (Kd.int .u8) (Kd.pair (Kd.int .u8) (Kd.pair (Kd.int .u8) (Kd.int .u8))))) (fun x : S24=>(x.f0,x.f1,x.f2,x.f3,x.f4))
theorem k24_open {w : World} {x : S24} {cs : List Value} (h : k24.K w x cs) : cs=[.int .u8 x.f0.f0,.int .u8 x.f0.f1,.int .u8 x.f0.f2,.int .u8 x.f0.f3,.int .u8 x.f0.f4,.int .u8 x.f0.f5,.int .u8 x.f0.f6,.int .u8 x.f0.f7,.int .u8 x.f1,.int .u8 x.f2,.int .u8 x.f3,.int .u8 x.f4]:=by
 obtain ⟨_,_,rfl,s0,⟨_,_,rfl,rfl,⟨_,_,rfl,rfl,⟨_,_,rfl,rfl,rfl⟩⟩⟩⟩:=h
 obtain rfl:=k22_open s0
 exact rfl
theorem k24_openM {w : World} {base : Nat} {ok : Nat→Prop} {x : S24} {cs : List Value} (h : k24.M w base ok x cs) : cs=[.int .u8 x.f0.f0,.int .u8 x.f0.f1,.int .u8 x.f0.f2,.int .u8 x.f0.f3,.int .u8 x.f0.f4,.int .u8 x.f0.f5,.int .u8 x.f0.f6,.int .u8 x.f0.f7,.int .u8 x.f1,.int .u8 x.f2,.int .u8 x.f3,.int .u8 x.f4]:=by
 obtain ⟨_,_,rfl,s0,⟨_,_,rfl,rfl,⟨_,_,rfl,rfl,⟨_,_,rfl,rfl,rfl⟩⟩⟩⟩:=h
 obtain rfl:=k22_openM s0
 exact rfl
theorem k24_mk (w : World) (x : S24)  : k24.K w x [.int .u8 x.f0.f0,.int .u8 x.f0.f1,.int .u8 x.f0.f2,.int .u8 x.f0.f3,.int .u8 x.f0.f4,.int .u8 x.f0.f5,.int .u8 x.f0.f6,.int .u8 x.f0.f7,.int .u8 x.f1,.int .u8 x.f2,.int .u8 x.f3,.int .u8 x.f4]:=⟨[.int .u8 x.f0.f0,.int .u8 x.f0.f1,.int .u8 x.f0.f2,.int .u8 x.f0.f3,.int .u8 x.f0.f4,.int .u8 x.f0.f5,.int .u8 x.f0.f6,.int .u8 x.f0.f7],[.int .u8 x.f1,.int .u8 x.f2,.int .u8 x.f3,.int .u8 x.f4],rfl,(k22_mk w x.f0 ),⟨[.int .u8 x.f1],[.int .u8 x.f2,.int .u8 x.f3,.int .u8 x.f4],rfl,rfl,⟨[.int .u8 x.f2],[.int .u8 x.f3,.int .u8 x.f4],rfl,rfl,⟨[.int .u8 x.f3],[.int .u8 x.f4],rfl,rfl,rfl⟩⟩⟩⟩
theorem k24_mkM (w : World) (base : Nat) (ok : Nat→Prop) (x : S24)  : k24.M w base ok x [.int .u8 x.f0.f0,.int .u8 x.f0.f1,.int .u8 x.f0.f2,.int .u8 x.f0.f3,.int .u8 x.f0.f4,.int .u8 x.f0.f5,.int .u8 x.f0.f6,.int .u8 x.f0.f7,.int .u8 x.f1,.int .u8 x.f2,.int .u8 x.f3,.int .u8 x.f4]:=⟨[.int .u8 x.f0.f0,.int .u8 x.f0.f1,.int .u8 x.f0.f2,.int .u8 x.f0.f3,.int .u8 x.f0.f4,.int .u8 x.f0.f5,.int .u8 x.f0.f6,.int .u8 x.f0.f7],[.int .u8 x.f1,.int .u8 x.f2,.int .u8 x.f3,.int .u8 x.f4],rfl,(k22_mkM w base ok x.f0 ),⟨[.int .u8 x.f1],[.int .u8 x.f2,.int .u8 x.f3,.int .u8 x.f4],rfl,rfl,⟨[.int .u8 x.f2],[.int .u8 x.f3,.int .u8 x.f4],rfl,rfl,⟨[.int .u8 x.f3],[.int .u8 x.f4],rfl,rfl,rfl⟩⟩⟩⟩
theorem k24_mkF (W : World) (ok : Nat→Prop) (x : S24) : Kd.FK k24 W ok x [.int .u8 x.f0.f0,.int .u8 x.f0.f1,.int .u8 x.f0.f2,.int .u8 x.f0.f3,.int .u8 x.f0.f4,.int .u8 x.f0.f5,.int .u8 x.f0.f6,.int .u8 x.f0.f7,.int .u8 x.f1,.int .u8 x.f2,.int .u8 x.f3,.int .u8 x.f4]:=fun W2 _=>k24_mk W2 x
def rd_T24 (xs : List S24) (i : Int) : S24:=xs.getD i.toNat z24
theorem at_T24 {w : World} {A : Option Addr} {n : Nat} {xs : List S24} (h : Kd.C k24 w A n xs) (i : Int) (h0 : 0≤i) (h1 : i < n) : ∃ ad ,A=some ad∧w.cell? (ad.add (i.toNat * 12))=some (.int .u8 (rd_T24 xs i).f0.f0)∧w.cell? ⟨(ad.add (i.toNat * 12)).block,(ad.add (i.toNat * 12)).off + 1,none⟩=some (.int .u8 (rd_T24 xs i).f0.f1)∧w.cell? ⟨(ad.add (i.toNat * 12)).block,(ad.add (i.toNat * 12)).off + 2,none⟩=some (.int .u8 (rd_T24 xs i).f0.f2)∧w.cell? ⟨(ad.add (i.toNat * 12)).block,(ad.add (i.toNat * 12)).off + 3,none⟩=some (.int .u8 (rd_T24 xs i).f0.f3)∧w.cell? ⟨(ad.add (i.toNat * 12)).block,(ad.add (i.toNat * 12)).off + 4,none⟩=some (.int .u8 (rd_T24 xs i).f0.f4)∧w.cell? ⟨(ad.add (i.toNat * 12)).block,(ad.add (i.toNat * 12)).off + 5,none⟩=some (.int .u8 (rd_T24 xs i).f0.f5)∧w.cell? ⟨(ad.add (i.toNat * 12)).block,(ad.add (i.toNat * 12)).off + 6,none⟩=some (.int .u8 (rd_T24 xs i).f0.f6)∧w.cell? ⟨(ad.add (i.toNat * 12)).block,(ad.add (i.toNat * 12)).off + 7,none⟩=some (.int .u8 (rd_T24 xs i).f0.f7)∧w.cell? ⟨(ad.add (i.toNat * 12)).block,(ad.add (i.toNat * 12)).off + 8,none⟩=some (.int .u8 (rd_T24 xs i).f1)∧w.cell? ⟨(ad.add (i.toNat * 12)).block,(ad.add (i.toNat * 12)).off + 9,none⟩=some (.int .u8 (rd_T24 xs i).f2)∧w.cell? ⟨(ad.add (i.toNat * 12)).block,(ad.add (i.toNat * 12)).off + 10,none⟩=some (.int .u8 (rd_T24 xs i).f3)∧w.cell? ⟨(ad.add (i.toNat * 12)).block,(ad.add (i.toNat * 12)).off + 11,none⟩=some (.int .u8 (rd_T24 xs i).f4):=by
 obtain ⟨ad,c,e,_,hK,hc0⟩:=Kd.C_get h z24 i h0 h1
 have hc : ∀ j u,c[j]?=some u→w.cell? (ad.add (i.toNat * 12 + j))=some u:=hc0
 obtain rfl:=k24_open hK
 exact ⟨ad,e,hc 0 _ rfl,by rw [← add_field _ _ 1 (by omega)];exact hc 1 _ rfl,by rw [← add_field _ _ 2 (by omega)];exact hc 2 _ rfl,by rw [← add_field _ _ 3 (by omega)];exact hc 3 _ rfl,by rw [← add_field _ _ 4 (by omega)];exact hc 4 _ rfl,by rw [← add_field _ _ 5 (by omega)];exact hc 5 _ rfl,by rw [← add_field _ _ 6 (by omega)];exact hc 6 _ rfl,by rw [← add_field _ _ 7 (by omega)];exact hc 7 _ rfl,by rw [← add_field _ _ 8 (by omega)];exact hc 8 _ rfl,by rw [← add_field _ _ 9 (by omega)];exact hc 9 _ rfl,by rw [← add_field _ _ 10 (by omega)];exact hc 10 _ rfl,by rw [← add_field _ _ 11 (by omega)];exact hc 11 _ rfl⟩
structure S49 where
 f0 : (List (List S40))
 f1 : Int
def z49 : S49:=⟨([] : List (List S40)),(0 : Int)⟩
def k49 : Kd S49:=Kd.iso (Kd.pair (Kd.slice 44 (Kd.slice 40 k40)) (Kd.int .u8)) (fun x : S49=>(x.f0,x.f1))
theorem k49_open {w : World} {x : S49} {cs : List Value} (h : k49.K w x cs) : ∃ A0 c0,cs=[.slice A0 x.f0.length c0,.int .u8 x.f1]∧x.f0.length≤c0∧(Kd.slice 40 k40).C w A0 x.f0.length x.f0:=by
 obtain ⟨_,_,rfl,⟨A0,c0,rfl,l0,g0⟩,rfl⟩:=h
 exact ⟨A0,c0,rfl,l0,g0⟩
theorem k49_openM {w : World} {base : Nat} {ok : Nat→Prop} {x : S49} {cs : List Value} (h : k49.M w base ok x cs) : ∃ v0,cs=[v0,.int .u8 x.f1]∧(Kd.slice 40 k40).R 44 w base ok v0 x.f0:=by
 obtain ⟨_,_,rfl,⟨v0,rfl,g0⟩,rfl⟩:=h
 exact ⟨v0,rfl,g0⟩
theorem k49_mk (w : World) (x : S49) {A0 : Option Addr} {c0 : Nat} (l0 : x.f0.length≤c0) (g0 : (Kd.slice 40 k40).C w A0 x.f0.length x.f0) : k49.K w x [.slice A0 x.f0.length c0,.int .u8 x.f1]:=⟨[.slice A0 x.f0.length c0],[.int .u8 x.f1],rfl,⟨A0,c0,rfl,l0,g0⟩,rfl⟩
theorem k49_mkM (w : World) (base : Nat) (ok : Nat→Prop) (x : S49) {v0 : Value} (g0 : (Kd.slice 40 k40).R 44 w base ok v0 x.f0) : k49.M w base ok x [v0,.int .u8 x.f1]:=⟨[v0],[.int .u8 x.f1],rfl,⟨v0,rfl,g0⟩,rfl⟩
theorem k49_openF {W : World} {ok : Nat→Prop} {x : S49} {cs : List Value} (h : Kd.FK k49 W ok x cs) : ∃ A0 c0,cs=[.slice A0 x.f0.length c0,.int .u8 x.f1]∧x.f0.length≤c0∧Kd.F (Kd.slice 40 k40) W ok A0 x.f0.length x.f0:=by
 obtain ⟨A0,c0,rfl,l0,_⟩:=k49_open (Kd.FK_now h)
 exact ⟨A0,c0,rfl,l0,(fun W' hW=>by obtain ⟨A0_,c0_,he,l0_,g0_⟩:=k49_open (h W' hW);injection (Option.some.inj (show some (Value.slice A0 x.f0.length c0)=some (Value.slice A0_ x.f0.length c0_) from congrArg (fun l=>l[0]?) he)) with ha_ _ _;rw [ha_];exact g0_)⟩
theorem k49_mkF (W : World) (ok : Nat→Prop) (x : S49) {A0 : Option Addr} {c0 : Nat} (l0 : x.f0.length≤c0) (g0 : Kd.F (Kd.slice 40 k40) W ok A0 x.f0.length x.f0) : Kd.FK k49 W ok x [.slice A0 x.f0.length c0,.int .u8 x.f1]:=fun W2 hW=>k49_mk W2 x l0 (g0 W2 hW)
def rd_T49 (xs : List S49) (i : Int) : S49:=xs.getD i.toNat z49
theorem at_T49 {w : World} {A : Option Addr} {n : Nat} {xs : List S49} (h : Kd.C k49 w A n xs) (i : Int) (h0 : 0≤i) (h1 : i < n) : ∃ ad A0 c0,A=some ad∧w.cell? (ad.add (i.toNat * 2))=some (.slice A0 (rd_T49 xs i).f0.length c0)∧w.cell? ⟨(ad.add (i.toNat * 2)).block,(ad.add (i.toNat * 2)).off + 1,none⟩=some (.int .u8 (rd_T49 xs i).f1)∧(rd_T49 xs i).f0.length≤c0∧(Kd.slice 40 k40).C w A0 (rd_T49 xs i).f0.length (rd_T49 xs i).f0:=by
 obtain ⟨ad,c,e,_,hK,hc0⟩:=Kd.C_get h z49 i h0 h1
 have hc : ∀ j u,c[j]?=some u→w.cell? (ad.add (i.toNat * 2 + j))=some u:=hc0
 obtain ⟨A0,c0,rfl,l0,g0⟩:=k49_open hK
 exact ⟨ad,A0,c0,e,hc 0 _ rfl,by rw [← add_field _ _ 1 (by omega)];exact hc 1 _ rfl,l0,g0⟩
end Go.Proofs.Ytapaldcdoahfeaa.P

