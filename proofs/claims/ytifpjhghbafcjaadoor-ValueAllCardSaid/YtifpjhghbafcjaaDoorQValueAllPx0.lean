/- Texts of ValueAll. Merged: Px0. -/
import Derived.Test.YtifpjhghbafcjaaDoorProg
import Derived.Below
import Derived.Deep.Draws
import Derived.Deep.AppendLies
import Derived.Maps.AppendAt
import Derived.OwnWalk
import Derived.Laws.BytesArg
import Derived.Laws.MakeOwn
import Derived.Laws.OwnMore
import Derived.Deep.OwnRows
import Derived.Tactics
import Derived.Lib.ConvBytes
import Derived.Laws.Slices
import Derived.WalkKit
import Derived.KernelRfl
import Derived.RowKit3
import Derived.Deep.LoopGhost
import Derived.Deep.QuietTactic
import Derived.BigQuiet
import Derived.WideLaws
import Derived.Deep.DeepCutAuto
import Derived.Deep.CutBlock
import Derived.Deep.RegionHeld3
import Derived.Laws.Rows
import Derived.Lib.AppendStr
import Derived.ArgAppend
import Derived.Laws.IdiomCopy
import Derived.OrdersHeld
import Derived.Laws.BitsLemmas
import Derived.RowKit
import Derived.Test.YtifpjhghbafcjaaDoorQValueAllHKit
import Derived.Test.YtifpjhghbafcjaaDoorQValueAllWWords
import Derived.Test.YtifpjhghbafcjaaDoorQValueAllWLast
import Derived.Test.YtifpjhghbafcjaaDoorQValueAllWTab
import Derived.Test.YtifpjhghbafcjaaDoorQValueAllWFour
import Derived.Test.YtifpjhghbafcjaaDoorQValueAllWQPut
import Derived.Test.YtifpjhghbafcjaaDoorQValueAllWApart
import Derived.Test.YtifpjhghbafcjaaDoorQValueAllWArr
import Derived.Test.YtifpjhghbafcjaaDoorQValueAllWZeros
import Derived.Test.YtifpjhghbafcjaaDoorQValueAllWFoot
import Derived.Test.YtifpjhghbafcjaaDoorQValueAllWKept
import Derived.Test.YtifpjhghbafcjaaDoorQValueAllWShare
import Derived.Test.YtifpjhghbafcjaaDoorQValueAllWN
import Derived.Test.YtifpjhghbafcjaaDoorQValueAllWFootNe
import Derived.Test.YtifpjhghbafcjaaDoorQValueAllWAt
import Derived.Test.YtifpjhghbafcjaaDoorQValueAllWEqStruct
import Derived.Test.YtifpjhghbafcjaaDoorQValueAllWRepsOne
import Derived.Test.YtifpjhghbafcjaaDoorQValueAllWInv
import Derived.Test.YtifpjhghbafcjaaDoorQValueAllWInvWords
import Derived.Test.YtifpjhghbafcjaaDoorQValueAllWGuard
import Derived.Test.YtifpjhghbafcjaaDoorQValueAllWNEv
import Derived.Test.YtifpjhghbafcjaaDoorQValueAllWMore
namespace Go.Proofs.YtifpjhghbafcjaaDoor.P
open Go.RowKit Go.Proofs.YtifpjhghbafcjaaDoorW.PrintWords Go.Proofs.YtifpjhghbafcjaaDoorW.PrintLast Go.Proofs.YtifpjhghbafcjaaDoorW.PrintMore
attribute [local go_sem] max2_int min2_int max_two min_two max_three min_three max_four min_four   -- for this text's walks alone
set_option linter.unusedVariables false
set_option linter.unusedSimpArgs false
def errW : Option Int→Value
 | none=>.nilIface
 | some c=>.iface 80 (.int .i64 c)
theorem errW_none : errW none=.nilIface:=rfl
theorem errW_some (c : Int) : errW (some c)=.iface 80 (.int .i64 c):=rfl
theorem info5 : (Tryd.prog.info? 5).map (fun i=>(i.zero,i.size,i.bytes))=some (some (.int .u8 0),1,1):=by kernel_rfl
structure S23 where
 f0 : Int
 f1 : ByteArray
def z23 : S23:=⟨(0 : Int),(⟨#[]⟩ : ByteArray)⟩
def k23 : Kd S23:=Kd.iso (Kd.pair (Kd.int .i64) Kd.string) (fun x : S23=>(x.f0,x.f1))
theorem k23_open {w : World} {x : S23} {cs : List Value} (h : k23.K w x cs) : cs=[.int .i64 x.f0,.string x.f1]:=by
 obtain ⟨_,_,rfl,rfl,rfl⟩:=h
 exact rfl
theorem k23_openM {w : World} {base : Nat} {ok : Nat→Prop} {x : S23} {cs : List Value} (h : k23.M w base ok x cs) : cs=[.int .i64 x.f0,.string x.f1]:=by
 obtain ⟨_,_,rfl,rfl,rfl⟩:=h
 exact rfl
theorem k23_mk (w : World) (x : S23)  : k23.K w x [.int .i64 x.f0,.string x.f1]:=⟨[.int .i64 x.f0],[.string x.f1],rfl,rfl,rfl⟩
theorem k23_mkM (w : World) (base : Nat) (ok : Nat→Prop) (x : S23)  : k23.M w base ok x [.int .i64 x.f0,.string x.f1]:=⟨[.int .i64 x.f0],[.string x.f1],rfl,rfl,rfl⟩
def rd_T23 (xs : List S23) (i : Int) : S23:=xs.getD i.toNat z23
theorem at_T23 {w : World} {A : Option Addr} {n : Nat} {xs : List S23} (h : Kd.C k23 w A n xs) (i : Int) (h0 : 0≤i) (h1 : i < n) : ∃ ad ,A=some ad∧w.cell? (ad.add (i.toNat * 2))=some (.int .i64 (rd_T23 xs i).f0)∧w.cell? ⟨(ad.add (i.toNat * 2)).block,(ad.add (i.toNat * 2)).off + 1,none⟩=some (.string (rd_T23 xs i).f1):=by
 obtain ⟨ad,c,e,_,hK,hc0⟩:=Kd.C_get h z23 i h0 h1
 have hc : ∀ j u,c[j]?=some u→w.cell? (ad.add (i.toNat * 2 + j))=some u:=hc0
 obtain rfl:=k23_open hK
 exact ⟨ad,e,hc 0 _ rfl,by rw [← add_field _ _ 1 (by omega)];exact hc 1 _ rfl⟩
structure S24 where
 f0 : S23
 f1 : S23
 f2 : S23
def z24 : S24:=⟨z23,z23,z23⟩
def k24 : Kd S24:=Kd.iso (Kd.pair k23 (Kd.pair k23 k23)) (fun x : S24=>(x.f0,x.f1,x.f2))
theorem k24_open {w : World} {x : S24} {cs : List Value} (h : k24.K w x cs) : cs=[.int .i64 x.f0.f0,.string x.f0.f1,.int .i64 x.f1.f0,.string x.f1.f1,.int .i64 x.f2.f0,.string x.f2.f1]:=by
 obtain ⟨_,_,rfl,s0,⟨_,_,rfl,s2,s4⟩⟩:=h
 obtain rfl:=k23_open s0
 obtain rfl:=k23_open s2
 obtain rfl:=k23_open s4
 exact rfl
theorem k24_openM {w : World} {base : Nat} {ok : Nat→Prop} {x : S24} {cs : List Value} (h : k24.M w base ok x cs) : cs=[.int .i64 x.f0.f0,.string x.f0.f1,.int .i64 x.f1.f0,.string x.f1.f1,.int .i64 x.f2.f0,.string x.f2.f1]:=by
 obtain ⟨_,_,rfl,s0,⟨_,_,rfl,s2,s4⟩⟩:=h
 obtain rfl:=k23_openM s0
 obtain rfl:=k23_openM s2
 obtain rfl:=k23_openM s4
 exact rfl
theorem k24_mk (w : World) (x : S24)  : k24.K w x [.int .i64 x.f0.f0,.string x.f0.f1,.int .i64 x.f1.f0,.string x.f1.f1,.int .i64 x.f2.f0,.string x.f2.f1]:=⟨[.int .i64 x.f0.f0,.string x.f0.f1],[.int .i64 x.f1.f0,.string x.f1.f1,.int .i64 x.f2.f0,.string x.f2.f1],rfl,(k23_mk w x.f0 ),⟨[.int .i64 x.f1.f0,.string x.f1.f1],[.int .i64 x.f2.f0,.string x.f2.f1],rfl,(k23_mk w x.f1 ),(k23_mk w x.f2 )⟩⟩
theorem k24_mkM (w : World) (base : Nat) (ok : Nat→Prop) (x : S24)  : k24.M w base ok x [.int .i64 x.f0.f0,.string x.f0.f1,.int .i64 x.f1.f0,.string x.f1.f1,.int .i64 x.f2.f0,.string x.f2.f1]:=⟨[.int .i64 x.f0.f0,.string x.f0.f1],[.int .i64 x.f1.f0,.string x.f1.f1,.int .i64 x.f2.f0,.string x.f2.f1],rfl,(k23_mkM w base ok x.f0 ),⟨[.int .i64 x.f1.f0,.string x.f1.f1],[.int .i64 x.f2.f0,.string x.f2.f1],rfl,(k23_mkM w base ok x.f1 ),(k23_mkM w base ok x.f2 )⟩⟩
def rd_T24 (xs : List S24) (i : Int) : S24:=xs.getD i.toNat z24
theorem at_T24 {w : World} {A : Option Addr} {n : Nat} {xs : List S24} (h : Kd.C k24 w A n xs) (i : Int) (h0 : 0≤i) (h1 : i < n) : ∃ ad ,A=some ad∧w.cell? (ad.add (i.toNat * 6))=some (.int .i64 (rd_T24 xs i).f0.f0)∧w.cell? ⟨(ad.add (i.toNat * 6)).block,(ad.add (i.toNat * 6)).off + 1,none⟩=some (.string (rd_T24 xs i).f0.f1)∧w.cell? ⟨(ad.add (i.toNat * 6)).block,(ad.add (i.toNat * 6)).off + 2,none⟩=some (.int .i64 (rd_T24 xs i).f1.f0)∧w.cell? ⟨(ad.add (i.toNat * 6)).block,(ad.add (i.toNat * 6)).off + 3,none⟩=some (.string (rd_T24 xs i).f1.f1)∧w.cell? ⟨(ad.add (i.toNat * 6)).block,(ad.add (i.toNat * 6)).off + 4,none⟩=some (.int .i64 (rd_T24 xs i).f2.f0)∧w.cell? ⟨(ad.add (i.toNat * 6)).block,(ad.add (i.toNat * 6)).off + 5,none⟩=some (.string (rd_T24 xs i).f2.f1):=by
 obtain ⟨ad,c,e,_,hK,hc0⟩:=Kd.C_get h z24 i h0 h1
 have hc : ∀ j u,c[j]?=some u→w.cell? (ad.add (i.toNat * 6 + j))=some u:=hc0
 obtain rfl:=k24_open hK
 exact ⟨ad,e,hc 0 _ rfl,by rw [← add_field _ _ 1 (by omega)];exact hc 1 _ rfl,by rw [← add_field _ _ 2 (by omega)];exact hc 2 _ rfl,by rw [← add_field _ _ 3 (by omega)];exact hc 3 _ rfl,by rw [← add_field _ _ 4 (by omega)];exact hc 4 _ rfl,by rw [← add_field _ _ 5 (by omega)];exact hc 5 _ rfl⟩
structure S30 where
 f0 : Int
 f1 : Int
def z30 : S30:=⟨(0 : Int),(0 : Int)⟩
def k30 : Kd S30:=Kd.iso (Kd.pair (Kd.int .i64) (Kd.int .i64)) (fun x : S30=>(x.f0,x.f1))
theorem k30_open {w : World} {x : S30} {cs : List Value} (h : k30.K w x cs) : cs=[.int .i64 x.f0,.int .i64 x.f1]:=by
 obtain ⟨_,_,rfl,rfl,rfl⟩:=h
 exact rfl
theorem k30_openM {w : World} {base : Nat} {ok : Nat→Prop} {x : S30} {cs : List Value} (h : k30.M w base ok x cs) : cs=[.int .i64 x.f0,.int .i64 x.f1]:=by
 obtain ⟨_,_,rfl,rfl,rfl⟩:=h
 exact rfl
theorem k30_mk (w : World) (x : S30)  : k30.K w x [.int .i64 x.f0,.int .i64 x.f1]:=⟨[.int .i64 x.f0],[.int .i64 x.f1],rfl,rfl,rfl⟩
theorem k30_mkM (w : World) (base : Nat) (ok : Nat→Prop) (x : S30)  : k30.M w base ok x [.int .i64 x.f0,.int .i64 x.f1]:=⟨[.int .i64 x.f0],[.int .i64 x.f1],rfl,rfl,rfl⟩
def rd_T30 (xs : List S30) (i : Int) : S30:=xs.getD i.toNat z30
theorem at_T30 {w : World} {A : Option Addr} {n : Nat} {xs : List S30} (h : Kd.C k30 w A n xs) (i : Int) (h0 : 0≤i) (h1 : i < n) : ∃ ad ,A=some ad∧w.cell? (ad.add (i.toNat * 2))=some (.int .i64 (rd_T30 xs i).f0)∧w.cell? ⟨(ad.add (i.toNat * 2)).block,(ad.add (i.toNat * 2)).off + 1,none⟩=some (.int .i64 (rd_T30 xs i).f1):=by
 obtain ⟨ad,c,e,_,hK,hc0⟩:=Kd.C_get h z30 i h0 h1
 have hc : ∀ j u,c[j]?=some u→w.cell? (ad.add (i.toNat * 2 + j))=some u:=hc0
 obtain rfl:=k30_open hK
 exact ⟨ad,e,hc 0 _ rfl,by rw [← add_field _ _ 1 (by omega)];exact hc 1 _ rfl⟩
structure S35 where
 f0 : S23
 f1 : S23
def z35 : S35:=⟨z23,z23⟩
def k35 : Kd S35:=Kd.iso (Kd.pair k23 k23) (fun x : S35=>(x.f0,x.f1))
theorem k35_open {w : World} {x : S35} {cs : List Value} (h : k35.K w x cs) : cs=[.int .i64 x.f0.f0,.string x.f0.f1,.int .i64 x.f1.f0,.string x.f1.f1]:=by
 obtain ⟨_,_,rfl,s0,s2⟩:=h
 obtain rfl:=k23_open s0
 obtain rfl:=k23_open s2
 exact rfl
theorem k35_openM {w : World} {base : Nat} {ok : Nat→Prop} {x : S35} {cs : List Value} (h : k35.M w base ok x cs) : cs=[.int .i64 x.f0.f0,.string x.f0.f1,.int .i64 x.f1.f0,.string x.f1.f1]:=by
 obtain ⟨_,_,rfl,s0,s2⟩:=h
 obtain rfl:=k23_openM s0
 obtain rfl:=k23_openM s2
 exact rfl
theorem k35_mk (w : World) (x : S35)  : k35.K w x [.int .i64 x.f0.f0,.string x.f0.f1,.int .i64 x.f1.f0,.string x.f1.f1]:=⟨[.int .i64 x.f0.f0,.string x.f0.f1],[.int .i64 x.f1.f0,.string x.f1.f1],rfl,(k23_mk w x.f0 ),(k23_mk w x.f1 )⟩
theorem k35_mkM (w : World) (base : Nat) (ok : Nat→Prop) (x : S35)  : k35.M w base ok x [.int .i64 x.f0.f0,.string x.f0.f1,.int .i64 x.f1.f0,.string x.f1.f1]:=⟨[.int .i64 x.f0.f0,.string x.f0.f1],[.int .i64 x.f1.f0,.string x.f1.f1],rfl,(k23_mkM w base ok x.f0 ),(k23_mkM w base ok x.f1 )⟩
def rd_T35 (xs : List S35) (i : Int) : S35:=xs.getD i.toNat z35
theorem at_T35 {w : World} {A : Option Addr} {n : Nat} {xs : List S35} (h : Kd.C k35 w A n xs) (i : Int) (h0 : 0≤i) (h1 : i < n) : ∃ ad ,A=some ad∧w.cell? (ad.add (i.toNat * 4))=some (.int .i64 (rd_T35 xs i).f0.f0)∧w.cell? ⟨(ad.add (i.toNat * 4)).block,(ad.add (i.toNat * 4)).off + 1,none⟩=some (.string (rd_T35 xs i).f0.f1)∧w.cell? ⟨(ad.add (i.toNat * 4)).block,(ad.add (i.toNat * 4)).off + 2,none⟩=some (.int .i64 (rd_T35 xs i).f1.f0)∧w.cell? ⟨(ad.add (i.toNat * 4)).block,(ad.add (i.toNat * 4)).off + 3,none⟩=some (.string (rd_T35 xs i).f1.f1):=by
 obtain ⟨ad,c,e,_,hK,hc0⟩:=Kd.C_get h z35 i h0 h1
 have hc : ∀ j u,c[j]?=some u→w.cell? (ad.add (i.toNat * 4 + j))=some u:=hc0
 obtain rfl:=k35_open hK
 exact ⟨ad,e,hc 0 _ rfl,by rw [← add_field _ _ 1 (by omega)];exact hc 1 _ rfl,by rw [← add_field _ _ 2 (by omega)];exact hc 2 _ rfl,by rw [← add_field _ _ 3 (by omega)];exact hc 3 _ rfl⟩
end Go.Proofs.YtifpjhghbafcjaaDoor.P

