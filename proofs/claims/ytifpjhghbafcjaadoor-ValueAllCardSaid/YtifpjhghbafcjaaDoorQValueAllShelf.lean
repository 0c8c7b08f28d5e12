/- Texts of ValueAll. Merged: Shelf. -/
import Derived.Shelf.Strconv.Itoa0
import Derived.Shelf.Strconv.Itoa1
import Derived.Shelf.LaysM
import Derived.Shelf.Strconv.Itoa2
import Derived.Shelf.Strconv.Itoa3
import Derived.Shelf.Strconv.Itoa4
import Derived.Test.YtifpjhghbafcjaaDoorProg
/-
 DERIVED: THE SHELF's CONTRACTS AT THIS DUMP,IN PLAIN WORDS (tools/lay-plain.mjs out of 'TrydsShelf.lean',which tools/lay-shelf.mjs wrote): THE SAME DECLARATIONS UNDER THE SAME NAMES: 'import','namespace','open','def','theorem' AND NOTHING ELSE: no command of the shelf's: FOR A HAND-IN. Each laying: the table of numbers ('.._ren') and one theorem,a field a fact of the dump's own or the kernel's comparison;each contract: ONE APPLICATION.
-/
namespace Go.Proofs
open Go.Shelf
def Tryd.lays283_ren : Go.Shelf.Ren:=⟨fun|283=>52|n=>n,fun|3=>3|9=>9|4=>4|n=>n,fun|n=>n⟩
theorem Tryd.lays283 : Go.Proofs.Lays.n283 Tryd.prog Tryd.lays283_ren:={
 mixed:=by kernel_rfl
 f283:=Tryd.func52.trans (congrArg some (by kernel_rfl))
 t3:=Tryd.underlying3
 a3:=Tryd.isAgg3
 z3:=Tryd.sizeOf3
 v3:=Tryd.zeroValue3
 t4:=Tryd.underlying4
 a4:=Tryd.isAgg4
 z4:=Tryd.sizeOf4
 v4:=Tryd.zeroValue4
 t9:=Tryd.underlying9
 a9:=Tryd.isAgg9
 z9:=Tryd.sizeOf9
 v9:=Tryd.zeroValue9 }
open Go.Lib in
theorem Tryd.internal_strconv_small (i : Nat) (h : i < 100) (w : World) :
  Calls Tryd.prog 52 #[.int .i64 i] w fun e w'=>e=.returned (.string ⟨(Lib.decDigits i).toArray⟩)∧w'=w:=Any.internal_strconv_small Tryd.lays283 i h w
def Tryd.laysM284_ren : Go.Shelf.Ren:=⟨fun|284=>53|129=>66|317=>65|318=>67|n=>n,fun|53=>45|3=>3|212=>88|0=>0|4=>4|46=>69|5=>5|9=>9|n=>n,fun|17=>1|n=>n⟩
theorem Tryd.laysM284 : Go.Proofs.LaysM.n284 Tryd.prog Tryd.laysM284_ren:={
 mixed:=by kernel_rfl
 f129:=Tryd.func66.trans (congrArg some (by kernel_rfl))
 f284:=Tryd.func53.trans (congrArg some (by kernel_rfl))
 f317:=Tryd.func65.trans (congrArg some (by kernel_rfl))
 f318:=Tryd.func67.trans (congrArg some (by kernel_rfl))
 t0:=Tryd.underlying0
 a0:=Tryd.isAgg0
 z0:=Tryd.sizeOf0
 v0:=Tryd.zeroValue0
 t3:=Tryd.underlying3
 a3:=Tryd.isAgg3
 z3:=Tryd.sizeOf3
 v3:=Tryd.zeroValue3
 t4:=Tryd.underlying4
 a4:=Tryd.isAgg4
 z4:=Tryd.sizeOf4
 v4:=Tryd.zeroValue4
 t5:=Tryd.underlying5
 a5:=Tryd.isAgg5
 z5:=Tryd.sizeOf5
 v5:=Tryd.zeroValue5
 t9:=Tryd.underlying9
 a9:=Tryd.isAgg9
 z9:=Tryd.sizeOf9
 v9:=Tryd.zeroValue9
 t46:=Tryd.underlying69
 a46:=Tryd.isAgg69
 z46:=Tryd.sizeOf69
 v46:=Tryd.zeroValue69
 t53:=Tryd.underlying45
 a53:=Tryd.isAgg45
 z53:=Tryd.sizeOf45
 v53:=Tryd.zeroValue45
 t212:=Tryd.underlying88
 a212:=Tryd.isAgg88
 z212:=Tryd.sizeOf88
 v212:=Tryd.zeroValue88
 g17:=by kernel_rfl
 i0:=by kernel_rfl
 i3:=by kernel_rfl
 i4:=by kernel_rfl
 i5:=by kernel_rfl
 i9:=by kernel_rfl
 i46:=by kernel_rfl
 i53:=by kernel_rfl
 i212:=by kernel_rfl
 m17:=by kernel_rfl }
open Go.Lib in
theorem Tryd.internal_strconv_numDigits (u : Nat) (h1 : 1≤u) (h2 : u < 18446744073709551616) (w : World) (htab : Lib.TabIs Tryd.prog w "internal/strconv.uint64pow10" .u64 Lib.pow10Tab) :
  Calls Tryd.prog 53 #[.int .u64 u] w fun e w'=>e=.returned (.int .i64 (Lib.nDigits u))∧w'=w:=Any.internal_strconv_numDigits Tryd.laysM284 u h1 h2 w htab
def Tryd.lays285_ren : Go.Shelf.Ren:=⟨fun|285=>54|n=>n,fun|37=>65|53=>45|3=>3|4=>4|51=>89|9=>9|5=>5|0=>0|n=>n,fun|n=>n⟩
theorem Tryd.lays285 : Go.Proofs.Lays.n285 Tryd.prog Tryd.lays285_ren:={
 mixed:=by kernel_rfl
 f285:=Tryd.func54.trans (congrArg some (by kernel_rfl))
 t0:=Tryd.underlying0
 a0:=Tryd.isAgg0
 z0:=Tryd.sizeOf0
 v0:=Tryd.zeroValue0
 t3:=Tryd.underlying3
 a3:=Tryd.isAgg3
 z3:=Tryd.sizeOf3
 v3:=Tryd.zeroValue3
 t4:=Tryd.underlying4
 a4:=Tryd.isAgg4
 z4:=Tryd.sizeOf4
 v4:=Tryd.zeroValue4
 t5:=Tryd.underlying5
 a5:=Tryd.isAgg5
 z5:=Tryd.sizeOf5
 v5:=Tryd.zeroValue5
 t9:=Tryd.underlying9
 a9:=Tryd.isAgg9
 z9:=Tryd.sizeOf9
 v9:=Tryd.zeroValue9
 t37:=Tryd.underlying65
 a37:=Tryd.isAgg65
 z37:=Tryd.sizeOf65
 v37:=Tryd.zeroValue65
 t51:=Tryd.underlying89
 a51:=Tryd.isAgg89
 z51:=Tryd.sizeOf89
 v51:=Tryd.zeroValue89
 t53:=Tryd.underlying45
 a53:=Tryd.isAgg45
 z53:=Tryd.sizeOf45
 v53:=Tryd.zeroValue45 }
open Go.RowKit Go.Sort Go.Lib in
theorem Tryd.internal_strconv_formatBase10 (blk off cap : Nat) (u : Nat) (d : Array UInt8) (w : World) (hH : Holds (fun (b : UInt8)=>Value.int .u8 (b.toNat : Int)) w blk off d) (hu : u < 10 ^ d.size) (hu64 : u < 18446744073709551616) (hsz : d.size < 4611686018427387904) :
  Calls Tryd.prog 54 #[.slice (some ⟨blk,off,none⟩) d.size cap,.int .u64 u] w fun e w' =>
   e=.returned (.tuple #[])∧∃ (n v' : Nat) (dk : Array UInt8),w'=(putRow (fun (b : UInt8)=>Value.int .u8 (b.toNat : Int)) w blk off dk).drewN n∧FmtInv d.size u 0 v' dk:=Any.internal_strconv_formatBase10 Tryd.lays285 blk off cap u d w hH hu hu64 hsz
def Tryd.laysM246_ren : Go.Shelf.Ren:=⟨fun|246=>41|283=>52|284=>53|285=>54|286=>55|129=>66|317=>65|318=>67|319=>68|320=>69|337=>76|338=>77|n=>n,fun|2=>2|3=>3|9=>9|4=>4|171=>74|0=>0|53=>45|37=>65|5=>5|173=>77|212=>88|51=>89|20=>20|213=>90|46=>69|232=>103|233=>104|n=>n,fun|17=>1|18=>4|19=>5|n=>n⟩
theorem Tryd.laysM246 : Go.Proofs.LaysM.n246 Tryd.prog Tryd.laysM246_ren:={
 mixed:=by kernel_rfl
 f129:=Tryd.func66.trans (congrArg some (by kernel_rfl))
 f246:=Tryd.func41.trans (congrArg some (by kernel_rfl))
 f283:=Tryd.func52.trans (congrArg some (by kernel_rfl))
 f284:=Tryd.func53.trans (congrArg some (by kernel_rfl))
 f285:=Tryd.func54.trans (congrArg some (by kernel_rfl))
 f286:=Tryd.func55.trans (congrArg some (by kernel_rfl))
 f317:=Tryd.func65.trans (congrArg some (by kernel_rfl))
 f318:=Tryd.func67.trans (congrArg some (by kernel_rfl))
 f319:=Tryd.func68.trans (congrArg some (by kernel_rfl))
 f320:=Tryd.func69.trans (congrArg some (by kernel_rfl))
 f337:=Tryd.func76.trans (congrArg some (by kernel_rfl))
 f338:=Tryd.func77.trans (congrArg some (by kernel_rfl))
 t0:=Tryd.underlying0
 a0:=Tryd.isAgg0
 z0:=Tryd.sizeOf0
 v0:=Tryd.zeroValue0
 t2:=Tryd.underlying2
 a2:=Tryd.isAgg2
 z2:=Tryd.sizeOf2
 v2:=Tryd.zeroValue2
 t3:=Tryd.underlying3
 a3:=Tryd.isAgg3
 z3:=Tryd.sizeOf3
 v3:=Tryd.zeroValue3
 t4:=Tryd.underlying4
 a4:=Tryd.isAgg4
 z4:=Tryd.sizeOf4
 v4:=Tryd.zeroValue4
 t5:=Tryd.underlying5
 a5:=Tryd.isAgg5
 z5:=Tryd.sizeOf5
 v5:=Tryd.zeroValue5
 t9:=Tryd.underlying9
 a9:=Tryd.isAgg9
 z9:=Tryd.sizeOf9
 v9:=Tryd.zeroValue9
 t20:=Tryd.underlying20
 a20:=Tryd.isAgg20
 z20:=Tryd.sizeOf20
 v20:=Tryd.zeroValue20
 t37:=Tryd.underlying65
 a37:=Tryd.isAgg65
 z37:=Tryd.sizeOf65
 v37:=Tryd.zeroValue65
 t46:=Tryd.underlying69
 a46:=Tryd.isAgg69
 z46:=Tryd.sizeOf69
 v46:=Tryd.zeroValue69
 t51:=Tryd.underlying89
 a51:=Tryd.isAgg89
 z51:=Tryd.sizeOf89
 v51:=Tryd.zeroValue89
 t53:=Tryd.underlying45
 a53:=Tryd.isAgg45
 z53:=Tryd.sizeOf45
 v53:=Tryd.zeroValue45
 t171:=Tryd.underlying74
 a171:=Tryd.isAgg74
 z171:=Tryd.sizeOf74
 v171:=Tryd.zeroValue74
 t173:=Tryd.underlying77
 a173:=Tryd.isAgg77
 z173:=Tryd.sizeOf77
 v173:=Tryd.zeroValue77
 t212:=Tryd.underlying88
 a212:=Tryd.isAgg88
 z212:=Tryd.sizeOf88
 v212:=Tryd.zeroValue88
 t213:=Tryd.underlying90
 a213:=Tryd.isAgg90
 z213:=Tryd.sizeOf90
 t232:=Tryd.underlying103
 a232:=Tryd.isAgg103
 z232:=Tryd.sizeOf103
 v232:=Tryd.zeroValue103
 t233:=Tryd.underlying104
 a233:=Tryd.isAgg104
 z233:=Tryd.sizeOf104
 v233:=Tryd.zeroValue104
 g17:=by kernel_rfl
 g18:=by kernel_rfl
 g19:=by kernel_rfl
 i0:=by kernel_rfl
 i2:=by kernel_rfl
 i3:=by kernel_rfl
 i4:=by kernel_rfl
 i5:=by kernel_rfl
 i9:=by kernel_rfl
 i20:=by kernel_rfl
 i37:=by kernel_rfl
 i46:=by kernel_rfl
 i51:=by kernel_rfl
 i53:=by kernel_rfl
 i171:=by kernel_rfl
 i173:=by kernel_rfl
 i212:=by kernel_rfl
 i232:=by kernel_rfl
 i233:=by kernel_rfl
 m17:=by kernel_rfl
 m18:=by kernel_rfl
 m19:=by kernel_rfl }
open Go.RowKit Go.Sort Go.Lib in
theorem Tryd.internal_strconv_FormatInt_10 (n : Int) (h0 : -9223372036854775808≤n) (h1 : n≤9223372036854775807) (w : World) (htab : Lib.TabIs Tryd.prog w "internal/strconv.uint64pow10" .u64 Lib.pow10Tab) :
  Calls Tryd.prog 41 #[.int .i64 n,.int .i64 10] w fun e w'=>e=.returned (.string ⟨(Lib.itoa n).toArray⟩)∧∃ k os,w'=grow (w.drewN k) os:=Any.internal_strconv_FormatInt_10 Tryd.laysM246 n h0 h1 w htab
end Go.Proofs

