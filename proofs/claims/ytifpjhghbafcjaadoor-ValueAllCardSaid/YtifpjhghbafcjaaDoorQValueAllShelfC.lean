/- Texts of ValueAll. Merged: ShelfC. -/
import Derived.Shelf.Small.Strs
import Derived.Shelf.Small.Wraps
import Derived.Shelf.LaysM
import Derived.Shelf.Strconv.ParseIntEmpty
import Derived.Shelf.Strconv.Clone
import Derived.Shelf.Strconv.SyntaxError
import Derived.Shelf.LaysC
import Derived.Shelf.Strconv.ToError
import Derived.Shelf.Strconv.Lower
import Derived.Shelf.Strconv.ParseUint10
import Derived.Shelf.Strconv.ParseUint10Empty
import Derived.Shelf.Strconv.ParseUint10Any
import Derived.Shelf.Strconv.ParseInt10
import Derived.Shelf.Strconv.RangeError
import Derived.Shelf.Strconv.ToErrorRange
import Derived.Shelf.Strconv.ParseUintEmpty
import Derived.Shelf.Strconv.ParseUint10b64
import Derived.Shelf.Strconv.ParseUint10b32
import Derived.Shelf.Strconv.ParseUint10b16
import Derived.Shelf.Strconv.ParseUint10b8
import Derived.Shelf.Strconv.ParseUint10At
import Derived.Shelf.Strconv.ParseInt10At64
import Derived.Shelf.Strconv.ParseInt10At32
import Derived.Shelf.Strconv.ParseInt10At16
import Derived.Shelf.Strconv.ParseInt10At8
import Derived.Shelf.Strconv.ParseInt10All
import Derived.Shelf.Strconv.ParseIntPublic10
import Derived.Shelf.Strconv.ErrVarParseInt
import Derived.Shelf.Pu.ParseUintPublic10
import Derived.Shelf.Pu.ErrVarParseUint
import Derived.Test.YtifpjhghbafcjaaDoorProg
/-
 DERIVED: THE SHELF's CONTRACTS AT THIS DUMP,IN PLAIN WORDS (tools/lay-plain.mjs out of 'TrydsShelf.lean',which tools/lay-shelf.mjs wrote): THE SAME DECLARATIONS UNDER THE SAME NAMES: 'import','namespace','open','def','theorem' AND NOTHING ELSE: no command of the shelf's: FOR A HAND-IN. Each laying: the table of numbers ('.._ren') and one theorem,a field a fact of the dump's own or the kernel's comparison;each contract: ONE APPLICATION.
-/
namespace Go.Proofs
open Go.Shelf
def Tryd.lays103_ren : Go.Shelf.Ren:=⟨fun|103=>48|210=>63|206=>74|n=>n,fun|9=>9|4=>4|24=>55|3=>3|n=>n,fun|n=>n⟩
theorem Tryd.lays103 : Go.Proofs.Lays.n103 Tryd.prog Tryd.lays103_ren:={
 mixed:=by kernel_rfl
 f103:=Tryd.func48.trans (congrArg some (by kernel_rfl))
 f206:=Tryd.func74.trans (congrArg some (by kernel_rfl))
 f210:=Tryd.func63.trans (congrArg some (by kernel_rfl))
 t3:=Tryd.underlying3
 a3:=Tryd.isAgg3
 z3:=Tryd.sizeOf3
 v3:=Tryd.zeroValue3
 t4:=Tryd.underlying4
 a4:=Tryd.isAgg4
 z4:=Tryd.sizeOf4
 v4:=Tryd.zeroValue4
 t9:=Tryd.underlying9
 a9:=Tryd.isAgg9
 z9:=Tryd.sizeOf9
 v9:=Tryd.zeroValue9
 t24:=Tryd.underlying55
 a24:=Tryd.isAgg55
 z24:=Tryd.sizeOf55
 v24:=Tryd.zeroValue55 }
open Go.RowKit in
theorem Tryd.strings_CutPrefix (s p : ByteArray) (w : World) :
  Calls Tryd.prog 48 #[.string s,.string p] w fun e w'=>e=.returned (.tuple #[.string ⟨(Lib.trimPrefix s.data.toList p.data.toList).toArray⟩,.bool (Lib.hasPrefix s.data.toList p.data.toList)])∧w'=w:=Any.strings_CutPrefix Tryd.lays103 s p w
def Tryd.lays104_ren : Go.Shelf.Ren:=⟨fun|104=>49|211=>64|207=>75|n=>n,fun|9=>9|4=>4|24=>55|3=>3|n=>n,fun|n=>n⟩
theorem Tryd.lays104 : Go.Proofs.Lays.n104 Tryd.prog Tryd.lays104_ren:={
 mixed:=by kernel_rfl
 f104:=Tryd.func49.trans (congrArg some (by kernel_rfl))
 f207:=Tryd.func75.trans (congrArg some (by kernel_rfl))
 f211:=Tryd.func64.trans (congrArg some (by kernel_rfl))
 t3:=Tryd.underlying3
 a3:=Tryd.isAgg3
 z3:=Tryd.sizeOf3
 v3:=Tryd.zeroValue3
 t4:=Tryd.underlying4
 a4:=Tryd.isAgg4
 z4:=Tryd.sizeOf4
 v4:=Tryd.zeroValue4
 t9:=Tryd.underlying9
 a9:=Tryd.isAgg9
 z9:=Tryd.sizeOf9
 v9:=Tryd.zeroValue9
 t24:=Tryd.underlying55
 a24:=Tryd.isAgg55
 z24:=Tryd.sizeOf55
 v24:=Tryd.zeroValue55 }
open Go.RowKit in
theorem Tryd.strings_CutSuffix (s p : ByteArray) (w : World) (hs : s.size≤9223372036854775807) :
  Calls Tryd.prog 49 #[.string s,.string p] w fun e w'=>e=.returned (.tuple #[.string ⟨(Lib.trimSuffix s.data.toList p.data.toList).toArray⟩,.bool (Lib.hasSuffix s.data.toList p.data.toList)])∧w'=w:=Any.strings_CutSuffix Tryd.lays104 s p w hs
def Tryd.laysC245_ren : Go.Shelf.Ren:=⟨fun|245=>46|279=>57|280=>58|281=>59|282=>60|316=>71|171=>73|205=>72|243=>78|246=>41|283=>52|284=>53|285=>54|286=>55|129=>66|317=>65|318=>67|319=>68|320=>69|337=>76|338=>77|n=>n,fun|9=>9|3=>3|75=>50|167=>80|4=>4|168=>81|210=>96|37=>65|0=>0|127=>79|145=>102|143=>100|2=>2|171=>74|53=>45|5=>5|173=>77|212=>88|51=>89|20=>20|213=>90|46=>69|232=>103|233=>104|80=>70|n=>n,fun|15=>2|16=>3|17=>1|18=>4|19=>5|n=>n⟩
theorem Tryd.laysC245 : Go.Proofs.LaysC.n245 Tryd.prog Tryd.laysC245_ren:={
 mixed:=by kernel_rfl
 f129:=Tryd.func66.trans (congrArg some (by kernel_rfl))
 f171:=Tryd.func73.trans (congrArg some (by kernel_rfl))
 f205:=Tryd.func72.trans (congrArg some (by kernel_rfl))
 f243:=Tryd.func78.trans (congrArg some (by kernel_rfl))
 f245:=Tryd.func46.trans (congrArg some (by kernel_rfl))
 f246:=Tryd.func41.trans (congrArg some (by kernel_rfl))
 f279:=Tryd.func57.trans (congrArg some (by kernel_rfl))
 f280:=Tryd.func58.trans (congrArg some (by kernel_rfl))
 f281:=Tryd.func59.trans (congrArg some (by kernel_rfl))
 f282:=Tryd.func60.trans (congrArg some (by kernel_rfl))
 f283:=Tryd.func52.trans (congrArg some (by kernel_rfl))
 f284:=Tryd.func53.trans (congrArg some (by kernel_rfl))
 f285:=Tryd.func54.trans (congrArg some (by kernel_rfl))
 f286:=Tryd.func55.trans (congrArg some (by kernel_rfl))
 f316:=Tryd.func71.trans (congrArg some (by kernel_rfl))
 f317:=Tryd.func65.trans (congrArg some (by kernel_rfl))
 f318:=Tryd.func67.trans (congrArg some (by kernel_rfl))
 f319:=Tryd.func68.trans (congrArg some (by kernel_rfl))
 f320:=Tryd.func69.trans (congrArg some (by kernel_rfl))
 f337:=Tryd.func76.trans (congrArg some (by kernel_rfl))
 f338:=Tryd.func77.trans (congrArg some (by kernel_rfl))
 t0:=Tryd.underlying0
 a0:=Tryd.isAgg0
 z0:=Tryd.sizeOf0
 v0:=Tryd.zeroValue0
 t2:=Tryd.underlying2
 a2:=Tryd.isAgg2
 z2:=Tryd.sizeOf2
 v2:=Tryd.zeroValue2
 t3:=Tryd.underlying3
 a3:=Tryd.isAgg3
 z3:=Tryd.sizeOf3
 v3:=Tryd.zeroValue3
 t4:=Tryd.underlying4
 a4:=Tryd.isAgg4
 z4:=Tryd.sizeOf4
 v4:=Tryd.zeroValue4
 t5:=Tryd.underlying5
 a5:=Tryd.isAgg5
 z5:=Tryd.sizeOf5
 v5:=Tryd.zeroValue5
 t9:=Tryd.underlying9
 a9:=Tryd.isAgg9
 z9:=Tryd.sizeOf9
 v9:=Tryd.zeroValue9
 t20:=Tryd.underlying20
 a20:=Tryd.isAgg20
 z20:=Tryd.sizeOf20
 v20:=Tryd.zeroValue20
 t37:=Tryd.underlying65
 a37:=Tryd.isAgg65
 z37:=Tryd.sizeOf65
 v37:=Tryd.zeroValue65
 t46:=Tryd.underlying69
 a46:=Tryd.isAgg69
 z46:=Tryd.sizeOf69
 v46:=Tryd.zeroValue69
 t51:=Tryd.underlying89
 a51:=Tryd.isAgg89
 z51:=Tryd.sizeOf89
 v51:=Tryd.zeroValue89
 t53:=Tryd.underlying45
 a53:=Tryd.isAgg45
 z53:=Tryd.sizeOf45
 v53:=Tryd.zeroValue45
 t75:=Tryd.underlying50
 a75:=Tryd.isAgg50
 z75:=Tryd.sizeOf50
 v75:=Tryd.zeroValue50
 t127:=Tryd.underlying79
 a127:=Tryd.isAgg79
 z127:=Tryd.sizeOf79
 v127:=Tryd.zeroValue79
 t143:=Tryd.underlying100
 a143:=Tryd.isAgg100
 z143:=Tryd.sizeOf100
 v143:=Tryd.zeroValue100
 t145:=Tryd.underlying102
 a145:=Tryd.isAgg102
 z145:=Tryd.sizeOf102
 v145:=Tryd.zeroValue102
 t167:=Tryd.underlying80
 a167:=Tryd.isAgg80
 z167:=Tryd.sizeOf80
 v167:=Tryd.zeroValue80
 t168:=Tryd.underlying81
 a168:=Tryd.isAgg81
 z168:=Tryd.sizeOf81
 v168:=Tryd.zeroValue81
 t171:=Tryd.underlying74
 a171:=Tryd.isAgg74
 z171:=Tryd.sizeOf74
 v171:=Tryd.zeroValue74
 t173:=Tryd.underlying77
 a173:=Tryd.isAgg77
 z173:=Tryd.sizeOf77
 v173:=Tryd.zeroValue77
 t210:=Tryd.underlying96
 a210:=Tryd.isAgg96
 z210:=Tryd.sizeOf96
 v210:=Tryd.zeroValue96
 t212:=Tryd.underlying88
 a212:=Tryd.isAgg88
 z212:=Tryd.sizeOf88
 v212:=Tryd.zeroValue88
 t213:=Tryd.underlying90
 a213:=Tryd.isAgg90
 z213:=Tryd.sizeOf90
 t232:=Tryd.underlying103
 a232:=Tryd.isAgg103
 z232:=Tryd.sizeOf103
 v232:=Tryd.zeroValue103
 t233:=Tryd.underlying104
 a233:=Tryd.isAgg104
 z233:=Tryd.sizeOf104
 v233:=Tryd.zeroValue104
 g15:=by kernel_rfl
 g16:=by kernel_rfl
 g17:=by kernel_rfl
 g18:=by kernel_rfl
 g19:=by kernel_rfl
 t80:=Tryd.underlying70
 a80:=Tryd.isAgg70
 z80:=Tryd.sizeOf70
 v80:=Tryd.zeroValue70
 i0:=by kernel_rfl
 i2:=by kernel_rfl
 i3:=by kernel_rfl
 i4:=by kernel_rfl
 i5:=by kernel_rfl
 i9:=by kernel_rfl
 i20:=by kernel_rfl
 i37:=by kernel_rfl
 i46:=by kernel_rfl
 i51:=by kernel_rfl
 i53:=by kernel_rfl
 i75:=by kernel_rfl
 i80:=by kernel_rfl
 i127:=by kernel_rfl
 i143:=by kernel_rfl
 i145:=by kernel_rfl
 i167:=by kernel_rfl
 i168:=by kernel_rfl
 i171:=by kernel_rfl
 i173:=by kernel_rfl
 i210:=by kernel_rfl
 i212:=by kernel_rfl
 i232:=by kernel_rfl
 i233:=by kernel_rfl
 m15:=by kernel_rfl
 m16:=by kernel_rfl
 m17:=by kernel_rfl
 m18:=by kernel_rfl
 m19:=by kernel_rfl
 c0:=by kernel_rfl
 c2:=by kernel_rfl
 c3:=by kernel_rfl
 c4:=by kernel_rfl
 c5:=by kernel_rfl
 c9:=by kernel_rfl
 c20:=by kernel_rfl
 c37:=by kernel_rfl
 c46:=by kernel_rfl
 c51:=by kernel_rfl
 c53:=by kernel_rfl
 c75:=by kernel_rfl
 c80:=by kernel_rfl
 c127:=by kernel_rfl
 c143:=by kernel_rfl
 c145:=by kernel_rfl
 c167:=by kernel_rfl
 c168:=by kernel_rfl
 c171:=by kernel_rfl
 c173:=by kernel_rfl
 c210:=by kernel_rfl
 c212:=by kernel_rfl
 c213:=by kernel_rfl
 c232:=by kernel_rfl
 c233:=by kernel_rfl }
open Go.RowKit in
theorem Tryd.strconv_toError_syntax (fn s : ByteArray) (base bits : Int) (ev : Value) (w : World) (hlim : s.size≤281474976710656) (hv : w.cell? ⟨2,0,none⟩=some ev) (hev : ev=.nilIface ∨ ∃ te pe,ev=.iface te pe) :
  Calls Tryd.prog 46 #[.string fn,.string s,.int .i64 base,.int .i64 bits,.iface 80 (.int .i64 2)] w fun e w'=>∃ N,e=.returned (.iface 81 (.pointer (some ⟨N,0,none⟩)))∧w.heap.size≤N∧w'.heap[N]?=some (.cells #[.string fn,.string s,ev] 96 (0,0))∧Below w.heap.size w w':=Any.strconv_toError_syntax Tryd.laysC245 fn s base bits ev w hlim hv hev
def Tryd.lays321_ren : Go.Shelf.Ren:=⟨fun|321=>61|n=>n,fun|5=>5|n=>n,fun|n=>n⟩
theorem Tryd.lays321 : Go.Proofs.Lays.n321 Tryd.prog Tryd.lays321_ren:={
 mixed:=by kernel_rfl
 f321:=Tryd.func61.trans (congrArg some (by kernel_rfl))
 t5:=Tryd.underlying5
 a5:=Tryd.isAgg5
 z5:=Tryd.sizeOf5
 v5:=Tryd.zeroValue5 }
open Go.RowKit in
theorem Tryd.internal_strconv_lower (c : Int) (w : World) :
  Calls Tryd.prog 61 #[.int .u8 c] w fun e w'=>e=.returned (.int .u8 (bits .or .u8 c 32))∧w'=w:=Any.internal_strconv_lower Tryd.lays321 c w
def Tryd.laysC174_ren : Go.Shelf.Ren:=⟨fun|174=>30|247=>45|245=>46|287=>47|279=>57|280=>58|281=>59|282=>60|321=>61|322=>62|316=>71|171=>73|205=>72|243=>78|246=>41|283=>52|284=>53|285=>54|286=>55|129=>66|317=>65|318=>67|319=>68|320=>69|337=>76|338=>77|n=>n,fun|9=>9|3=>3|2=>2|75=>50|85=>51|4=>4|167=>80|5=>5|53=>45|175=>53|46=>69|168=>81|37=>65|0=>0|210=>96|21=>21|127=>79|145=>102|143=>100|171=>74|173=>77|212=>88|51=>89|20=>20|213=>90|232=>103|233=>104|80=>70|n=>n,fun|15=>2|16=>3|17=>1|18=>4|19=>5|n=>n⟩
theorem Tryd.laysC174 : Go.Proofs.LaysC.n174 Tryd.prog Tryd.laysC174_ren:={
 mixed:=by kernel_rfl
 f129:=Tryd.func66.trans (congrArg some (by kernel_rfl))
 f171:=Tryd.func73.trans (congrArg some (by kernel_rfl))
 f174:=Tryd.func30.trans (congrArg some (by kernel_rfl))
 f205:=Tryd.func72.trans (congrArg some (by kernel_rfl))
 f243:=Tryd.func78.trans (congrArg some (by kernel_rfl))
 f245:=Tryd.func46.trans (congrArg some (by kernel_rfl))
 f246:=Tryd.func41.trans (congrArg some (by kernel_rfl))
 f247:=Tryd.func45.trans (congrArg some (by kernel_rfl))
 f279:=Tryd.func57.trans (congrArg some (by kernel_rfl))
 f280:=Tryd.func58.trans (congrArg some (by kernel_rfl))
 f281:=Tryd.func59.trans (congrArg some (by kernel_rfl))
 f282:=Tryd.func60.trans (congrArg some (by kernel_rfl))
 f283:=Tryd.func52.trans (congrArg some (by kernel_rfl))
 f284:=Tryd.func53.trans (congrArg some (by kernel_rfl))
 f285:=Tryd.func54.trans (congrArg some (by kernel_rfl))
 f286:=Tryd.func55.trans (congrArg some (by kernel_rfl))
 f287:=Tryd.func47.trans (congrArg some (by kernel_rfl))
 f316:=Tryd.func71.trans (congrArg some (by kernel_rfl))
 f317:=Tryd.func65.trans (congrArg some (by kernel_rfl))
 f318:=Tryd.func67.trans (congrArg some (by kernel_rfl))
 f319:=Tryd.func68.trans (congrArg some (by kernel_rfl))
 f320:=Tryd.func69.trans (congrArg some (by kernel_rfl))
 f321:=Tryd.func61.trans (congrArg some (by kernel_rfl))
 f322:=Tryd.func62.trans (congrArg some (by kernel_rfl))
 f337:=Tryd.func76.trans (congrArg some (by kernel_rfl))
 f338:=Tryd.func77.trans (congrArg some (by kernel_rfl))
 t0:=Tryd.underlying0
 a0:=Tryd.isAgg0
 z0:=Tryd.sizeOf0
 v0:=Tryd.zeroValue0
 t2:=Tryd.underlying2
 a2:=Tryd.isAgg2
 z2:=Tryd.sizeOf2
 v2:=Tryd.zeroValue2
 t3:=Tryd.underlying3
 a3:=Tryd.isAgg3
 z3:=Tryd.sizeOf3
 v3:=Tryd.zeroValue3
 t4:=Tryd.underlying4
 a4:=Tryd.isAgg4
 z4:=Tryd.sizeOf4
 v4:=Tryd.zeroValue4
 t5:=Tryd.underlying5
 a5:=Tryd.isAgg5
 z5:=Tryd.sizeOf5
 v5:=Tryd.zeroValue5
 t9:=Tryd.underlying9
 a9:=Tryd.isAgg9
 z9:=Tryd.sizeOf9
 v9:=Tryd.zeroValue9
 t20:=Tryd.underlying20
 a20:=Tryd.isAgg20
 z20:=Tryd.sizeOf20
 v20:=Tryd.zeroValue20
 t21:=Tryd.underlying21
 a21:=Tryd.isAgg21
 z21:=Tryd.sizeOf21
 v21:=Tryd.zeroValue21
 t37:=Tryd.underlying65
 a37:=Tryd.isAgg65
 z37:=Tryd.sizeOf65
 v37:=Tryd.zeroValue65
 t46:=Tryd.underlying69
 a46:=Tryd.isAgg69
 z46:=Tryd.sizeOf69
 v46:=Tryd.zeroValue69
 t51:=Tryd.underlying89
 a51:=Tryd.isAgg89
 z51:=Tryd.sizeOf89
 v51:=Tryd.zeroValue89
 t53:=Tryd.underlying45
 a53:=Tryd.isAgg45
 z53:=Tryd.sizeOf45
 v53:=Tryd.zeroValue45
 t75:=Tryd.underlying50
 a75:=Tryd.isAgg50
 z75:=Tryd.sizeOf50
 v75:=Tryd.zeroValue50
 t85:=Tryd.underlying51
 a85:=Tryd.isAgg51
 z85:=Tryd.sizeOf51
 v85:=Tryd.zeroValue51
 t127:=Tryd.underlying79
 a127:=Tryd.isAgg79
 z127:=Tryd.sizeOf79
 v127:=Tryd.zeroValue79
 t143:=Tryd.underlying100
 a143:=Tryd.isAgg100
 z143:=Tryd.sizeOf100
 v143:=Tryd.zeroValue100
 t145:=Tryd.underlying102
 a145:=Tryd.isAgg102
 z145:=Tryd.sizeOf102
 v145:=Tryd.zeroValue102
 t167:=Tryd.underlying80
 a167:=Tryd.isAgg80
 z167:=Tryd.sizeOf80
 v167:=Tryd.zeroValue80
 t168:=Tryd.underlying81
 a168:=Tryd.isAgg81
 z168:=Tryd.sizeOf81
 v168:=Tryd.zeroValue81
 t171:=Tryd.underlying74
 a171:=Tryd.isAgg74
 z171:=Tryd.sizeOf74
 v171:=Tryd.zeroValue74
 t173:=Tryd.underlying77
 a173:=Tryd.isAgg77
 z173:=Tryd.sizeOf77
 v173:=Tryd.zeroValue77
 t175:=Tryd.underlying53
 a175:=Tryd.isAgg53
 z175:=Tryd.sizeOf53
 v175:=Tryd.zeroValue53
 t210:=Tryd.underlying96
 a210:=Tryd.isAgg96
 z210:=Tryd.sizeOf96
 v210:=Tryd.zeroValue96
 t212:=Tryd.underlying88
 a212:=Tryd.isAgg88
 z212:=Tryd.sizeOf88
 v212:=Tryd.zeroValue88
 t213:=Tryd.underlying90
 a213:=Tryd.isAgg90
 z213:=Tryd.sizeOf90
 t232:=Tryd.underlying103
 a232:=Tryd.isAgg103
 z232:=Tryd.sizeOf103
 v232:=Tryd.zeroValue103
 t233:=Tryd.underlying104
 a233:=Tryd.isAgg104
 z233:=Tryd.sizeOf104
 v233:=Tryd.zeroValue104
 g15:=by kernel_rfl
 g16:=by kernel_rfl
 g17:=by kernel_rfl
 g18:=by kernel_rfl
 g19:=by kernel_rfl
 t80:=Tryd.underlying70
 a80:=Tryd.isAgg70
 z80:=Tryd.sizeOf70
 v80:=Tryd.zeroValue70
 i0:=by kernel_rfl
 i2:=by kernel_rfl
 i3:=by kernel_rfl
 i4:=by kernel_rfl
 i5:=by kernel_rfl
 i9:=by kernel_rfl
 i20:=by kernel_rfl
 i21:=by kernel_rfl
 i37:=by kernel_rfl
 i46:=by kernel_rfl
 i51:=by kernel_rfl
 i53:=by kernel_rfl
 i75:=by kernel_rfl
 i80:=by kernel_rfl
 i85:=by kernel_rfl
 i127:=by kernel_rfl
 i143:=by kernel_rfl
 i145:=by kernel_rfl
 i167:=by kernel_rfl
 i168:=by kernel_rfl
 i171:=by kernel_rfl
 i173:=by kernel_rfl
 i175:=by kernel_rfl
 i210:=by kernel_rfl
 i212:=by kernel_rfl
 i232:=by kernel_rfl
 i233:=by kernel_rfl
 m15:=by kernel_rfl
 m16:=by kernel_rfl
 m17:=by kernel_rfl
 m18:=by kernel_rfl
 m19:=by kernel_rfl
 c0:=by kernel_rfl
 c2:=by kernel_rfl
 c3:=by kernel_rfl
 c4:=by kernel_rfl
 c5:=by kernel_rfl
 c9:=by kernel_rfl
 c20:=by kernel_rfl
 c21:=by kernel_rfl
 c37:=by kernel_rfl
 c46:=by kernel_rfl
 c51:=by kernel_rfl
 c53:=by kernel_rfl
 c75:=by kernel_rfl
 c80:=by kernel_rfl
 c85:=by kernel_rfl
 c127:=by kernel_rfl
 c143:=by kernel_rfl
 c145:=by kernel_rfl
 c167:=by kernel_rfl
 c168:=by kernel_rfl
 c171:=by kernel_rfl
 c173:=by kernel_rfl
 c175:=by kernel_rfl
 c210:=by kernel_rfl
 c212:=by kernel_rfl
 c213:=by kernel_rfl
 c232:=by kernel_rfl
 c233:=by kernel_rfl }
open Go.RowKit in
theorem Tryd.strconv_ParseInt_10_at64_ok (s : ByteArray) (hmax : s.size≤9223372036854775806) (v : Int) (h : Lib.parseIntB 64 s.data.toList=.ok v) (w : World) :
  Calls Tryd.prog 30 #[.string s,.int .i64 10,.int .i64 64] w fun e w'=>e=.returned (.tuple #[.int .i64 v,.nilIface])∧(w'=w ∨ ∃ t,w'=Lib.bytesWorld w 5 t):=Any.strconv_ParseInt_10_at64_ok Tryd.laysC174 s hmax v h w
open Go.RowKit in
theorem Tryd.strconv_ParseInt_10_at64_syntax (s : ByteArray) (hlim : s.size≤281474976710656) (h : Lib.parseIntB 64 s.data.toList=.«syntax») (ev : Value) (w : World) (hv : w.cell? ⟨2,0,none⟩=some ev) (hev : ev=.nilIface ∨ ∃ te pe,ev=.iface te pe) :
  Calls Tryd.prog 30 #[.string s,.int .i64 10,.int .i64 64] w fun e w'=>∃ N,e=.returned (.tuple #[.int .i64 (0),.iface 81 (.pointer (some ⟨N,0,none⟩))])∧w.heap.size≤N∧w'.heap[N]?=some (.cells #[.string ⟨#[80,97,114,115,101,73,110,116]⟩,.string s,ev] 96 (0,0))∧Below w.heap.size w w':=Any.strconv_ParseInt_10_at64_syntax Tryd.laysC174 s hlim h ev w hv hev
open Go.RowKit in
theorem Tryd.strconv_ParseInt_10_at64_range (s : ByteArray) (hlim : s.size≤281474976710656) (h : Lib.parseIntB 64 s.data.toList=.range) (ev : Value) (w : World) (hv : w.cell? ⟨3,0,none⟩=some ev) (hev : ev=.nilIface ∨ ∃ te pe,ev=.iface te pe) :
  Calls Tryd.prog 30 #[.string s,.int .i64 10,.int .i64 64] w fun e w'=>∃ N,e=.returned (.tuple #[.int .i64 (Lib.intSat 64 s.data.toList),.iface 81 (.pointer (some ⟨N,0,none⟩))])∧w.heap.size≤N∧w'.heap[N]?=some (.cells #[.string ⟨#[80,97,114,115,101,73,110,116]⟩,.string s,ev] 96 (0,0))∧Below w.heap.size w w':=Any.strconv_ParseInt_10_at64_range Tryd.laysC174 s hlim h ev w hv hev
def Tryd.laysPu14_ren : Go.Shelf.Ren:=⟨fun|14=>31|16=>47|17=>46|19=>61|20=>62|21=>57|22=>58|23=>59|24=>60|25=>71|27=>73|26=>72|28=>78|29=>41|30=>52|31=>53|32=>54|33=>55|35=>66|34=>65|36=>67|37=>68|38=>69|39=>76|40=>77|n=>n,fun|9=>9|3=>3|22=>45|24=>50|25=>53|4=>4|34=>80|5=>5|36=>69|37=>65|0=>0|39=>81|21=>21|44=>96|47=>79|50=>102|48=>100|2=>2|52=>74|55=>77|59=>88|60=>89|20=>20|61=>90|65=>103|66=>104|67=>70|n=>n,fun|0=>2|1=>3|2=>1|3=>4|4=>5|n=>n⟩
theorem Tryd.laysPu14 : Go.Proofs.LaysPu.n14 Tryd.prog Tryd.laysPu14_ren:={
 mixed:=by kernel_rfl
 f14:=Tryd.func31.trans (congrArg some (by kernel_rfl))
 f16:=Tryd.func47.trans (congrArg some (by kernel_rfl))
 f17:=Tryd.func46.trans (congrArg some (by kernel_rfl))
 f19:=Tryd.func61.trans (congrArg some (by kernel_rfl))
 f20:=Tryd.func62.trans (congrArg some (by kernel_rfl))
 f21:=Tryd.func57.trans (congrArg some (by kernel_rfl))
 f22:=Tryd.func58.trans (congrArg some (by kernel_rfl))
 f23:=Tryd.func59.trans (congrArg some (by kernel_rfl))
 f24:=Tryd.func60.trans (congrArg some (by kernel_rfl))
 f25:=Tryd.func71.trans (congrArg some (by kernel_rfl))
 f26:=Tryd.func72.trans (congrArg some (by kernel_rfl))
 f27:=Tryd.func73.trans (congrArg some (by kernel_rfl))
 f28:=Tryd.func78.trans (congrArg some (by kernel_rfl))
 f29:=Tryd.func41.trans (congrArg some (by kernel_rfl))
 f30:=Tryd.func52.trans (congrArg some (by kernel_rfl))
 f31:=Tryd.func53.trans (congrArg some (by kernel_rfl))
 f32:=Tryd.func54.trans (congrArg some (by kernel_rfl))
 f33:=Tryd.func55.trans (congrArg some (by kernel_rfl))
 f34:=Tryd.func65.trans (congrArg some (by kernel_rfl))
 f35:=Tryd.func66.trans (congrArg some (by kernel_rfl))
 f36:=Tryd.func67.trans (congrArg some (by kernel_rfl))
 f37:=Tryd.func68.trans (congrArg some (by kernel_rfl))
 f38:=Tryd.func69.trans (congrArg some (by kernel_rfl))
 f39:=Tryd.func76.trans (congrArg some (by kernel_rfl))
 f40:=Tryd.func77.trans (congrArg some (by kernel_rfl))
 t0:=Tryd.underlying0
 a0:=Tryd.isAgg0
 z0:=Tryd.sizeOf0
 v0:=Tryd.zeroValue0
 i0:=by kernel_rfl
 t2:=Tryd.underlying2
 a2:=Tryd.isAgg2
 z2:=Tryd.sizeOf2
 v2:=Tryd.zeroValue2
 i2:=by kernel_rfl
 t3:=Tryd.underlying3
 a3:=Tryd.isAgg3
 z3:=Tryd.sizeOf3
 v3:=Tryd.zeroValue3
 i3:=by kernel_rfl
 t4:=Tryd.underlying4
 a4:=Tryd.isAgg4
 z4:=Tryd.sizeOf4
 v4:=Tryd.zeroValue4
 i4:=by kernel_rfl
 t5:=Tryd.underlying5
 a5:=Tryd.isAgg5
 z5:=Tryd.sizeOf5
 v5:=Tryd.zeroValue5
 i5:=by kernel_rfl
 t9:=Tryd.underlying9
 a9:=Tryd.isAgg9
 z9:=Tryd.sizeOf9
 v9:=Tryd.zeroValue9
 i9:=by kernel_rfl
 t20:=Tryd.underlying20
 a20:=Tryd.isAgg20
 z20:=Tryd.sizeOf20
 v20:=Tryd.zeroValue20
 i20:=by kernel_rfl
 t21:=Tryd.underlying21
 a21:=Tryd.isAgg21
 z21:=Tryd.sizeOf21
 v21:=Tryd.zeroValue21
 i21:=by kernel_rfl
 t22:=Tryd.underlying45
 a22:=Tryd.isAgg45
 z22:=Tryd.sizeOf45
 v22:=Tryd.zeroValue45
 i22:=by kernel_rfl
 t24:=Tryd.underlying50
 a24:=Tryd.isAgg50
 z24:=Tryd.sizeOf50
 v24:=Tryd.zeroValue50
 i24:=by kernel_rfl
 t25:=Tryd.underlying53
 a25:=Tryd.isAgg53
 z25:=Tryd.sizeOf53
 v25:=Tryd.zeroValue53
 i25:=by kernel_rfl
 t34:=Tryd.underlying80
 a34:=Tryd.isAgg80
 z34:=Tryd.sizeOf80
 v34:=Tryd.zeroValue80
 i34:=by kernel_rfl
 c34:=by kernel_rfl
 t36:=Tryd.underlying69
 a36:=Tryd.isAgg69
 z36:=Tryd.sizeOf69
 v36:=Tryd.zeroValue69
 i36:=by kernel_rfl
 t37:=Tryd.underlying65
 a37:=Tryd.isAgg65
 z37:=Tryd.sizeOf65
 v37:=Tryd.zeroValue65
 i37:=by kernel_rfl
 t39:=Tryd.underlying81
 a39:=Tryd.isAgg81
 z39:=Tryd.sizeOf81
 v39:=Tryd.zeroValue81
 i39:=by kernel_rfl
 t44:=Tryd.underlying96
 a44:=Tryd.isAgg96
 z44:=Tryd.sizeOf96
 v44:=Tryd.zeroValue96
 i44:=by kernel_rfl
 t47:=Tryd.underlying79
 a47:=Tryd.isAgg79
 z47:=Tryd.sizeOf79
 v47:=Tryd.zeroValue79
 i47:=by kernel_rfl
 t48:=Tryd.underlying100
 a48:=Tryd.isAgg100
 z48:=Tryd.sizeOf100
 v48:=Tryd.zeroValue100
 i48:=by kernel_rfl
 t50:=Tryd.underlying102
 a50:=Tryd.isAgg102
 z50:=Tryd.sizeOf102
 v50:=Tryd.zeroValue102
 i50:=by kernel_rfl
 t52:=Tryd.underlying74
 a52:=Tryd.isAgg74
 z52:=Tryd.sizeOf74
 v52:=Tryd.zeroValue74
 i52:=by kernel_rfl
 t55:=Tryd.underlying77
 a55:=Tryd.isAgg77
 z55:=Tryd.sizeOf77
 v55:=Tryd.zeroValue77
 i55:=by kernel_rfl
 t59:=Tryd.underlying88
 a59:=Tryd.isAgg88
 z59:=Tryd.sizeOf88
 v59:=Tryd.zeroValue88
 i59:=by kernel_rfl
 t60:=Tryd.underlying89
 a60:=Tryd.isAgg89
 z60:=Tryd.sizeOf89
 v60:=Tryd.zeroValue89
 i60:=by kernel_rfl
 t61:=Tryd.underlying90
 a61:=Tryd.isAgg90
 z61:=Tryd.sizeOf90
 t65:=Tryd.underlying103
 a65:=Tryd.isAgg103
 z65:=Tryd.sizeOf103
 v65:=Tryd.zeroValue103
 i65:=by kernel_rfl
 t66:=Tryd.underlying104
 a66:=Tryd.isAgg104
 z66:=Tryd.sizeOf104
 v66:=Tryd.zeroValue104
 i66:=by kernel_rfl
 t67:=Tryd.underlying70
 a67:=Tryd.isAgg70
 z67:=Tryd.sizeOf70
 v67:=Tryd.zeroValue70
 i67:=by kernel_rfl
 g0:=by kernel_rfl
 m0:=by kernel_rfl
 g1:=by kernel_rfl
 m1:=by kernel_rfl
 g2:=by kernel_rfl
 m2:=by kernel_rfl
 g3:=by kernel_rfl
 m3:=by kernel_rfl
 g4:=by kernel_rfl
 m4:=by kernel_rfl }
open Go.RowKit in
theorem Tryd.strconv_ParseUint_10_at64_ok (s : ByteArray) (hmax : s.size≤9223372036854775806) (u : Nat) (h : Lib.parseUintB 64 s.data.toList=.ok u) (w : World) :
  Calls Tryd.prog 31 #[.string s,.int .i64 10,.int .i64 64] w fun e w'=>e=.returned (.tuple #[.int .u64 u,.nilIface])∧(w'=w ∨ w'=Lib.bytesWorld w 5 s):=Any.strconv_ParseUint_10_at64_ok Tryd.laysPu14 s hmax u h w
open Go.RowKit in
theorem Tryd.strconv_ParseUint_10_at64_syntax (s : ByteArray) (hlim : s.size≤281474976710656) (h : Lib.parseUintB 64 s.data.toList=.«syntax») (ev : Value) (w : World) (hv : w.cell? ⟨2,0,none⟩=some ev) (hev : ev=.nilIface ∨ ∃ te pe,ev=.iface te pe) :
  Calls Tryd.prog 31 #[.string s,.int .i64 10,.int .i64 64] w fun e w'=>∃ N,e=.returned (.tuple #[.int .u64 0,.iface 81 (.pointer (some ⟨N,0,none⟩))])∧w.heap.size≤N∧w'.heap[N]?=some (.cells #[.string ⟨#[80,97,114,115,101,85,105,110,116]⟩,.string s,ev] 96 (0,0))∧Below w.heap.size w w':=Any.strconv_ParseUint_10_at64_syntax Tryd.laysPu14 s hlim h ev w hv hev
open Go.RowKit in
theorem Tryd.strconv_ParseUint_10_at64_range (s : ByteArray) (hlim : s.size≤281474976710656) (h : Lib.parseUintB 64 s.data.toList=.range) (ev : Value) (w : World) (hv : w.cell? ⟨3,0,none⟩=some ev) (hev : ev=.nilIface ∨ ∃ te pe,ev=.iface te pe) :
  Calls Tryd.prog 31 #[.string s,.int .i64 10,.int .i64 64] w fun e w'=>∃ N,e=.returned (.tuple #[.int .u64 18446744073709551615,.iface 81 (.pointer (some ⟨N,0,none⟩))])∧w.heap.size≤N∧w'.heap[N]?=some (.cells #[.string ⟨#[80,97,114,115,101,85,105,110,116]⟩,.string s,ev] 96 (0,0))∧Below w.heap.size w w':=Any.strconv_ParseUint_10_at64_range Tryd.laysPu14 s hlim h ev w hv hev
end Go.Proofs

