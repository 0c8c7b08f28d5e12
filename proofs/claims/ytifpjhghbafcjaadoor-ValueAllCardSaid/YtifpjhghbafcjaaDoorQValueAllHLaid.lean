/- Texts of ValueAll. Merged: HLaid. -/
import Derived.Test.YtifpjhghbafcjaaDoorRows
import Derived.Test.YtifpjhghbafcjaaDoorQValueAllHText
import Derived.ProofKit
import Derived.LaidMore
import Derived.OpenShut
import Derived.Stop.Joined
import Derived.Stop.LaidErr
import Derived.Lib.LaidTab
/- What a row's listed variables give the walks; the door's own heap meets the condition. -/
namespace Go.Proofs.YtifpjhghbafcjaaDoor.P
open Go.RowKit Go.ChangeShapes Go.WideShapes Go.ChangeAt
def laid3 : List (String × DataW Unit):=[("math/bits.deBruijn32tab",Rows.laid_math_bits_deBruijn32tab),("math/bits.deBruijn64tab",Rows.laid_math_bits_deBruijn64tab),("internal/strconv.uint64pow10",Rows.laid_internal_strconv_uint64pow10)]
theorem gPow : Tryd.prog.globalNamed "internal/strconv.uint64pow10"=some 1:=by kernel_rfl
theorem tPow : (Tryd.prog.globals[1]?).map (·.type)=some 88:=by kernel_rfl
theorem cPow : Tryd.prog.cellsOf 88=20:=by kernel_rfl
theorem cU64 : Tryd.prog.cellsOf 45=1:=by kernel_rfl
theorem powTab : (Rows.laid_internal_strconv_uint64pow10 : DataW Unit)=Lib.tabData .u64 Lib.pow10Tab:=by rfl
end Go.Proofs.YtifpjhghbafcjaaDoor.P

