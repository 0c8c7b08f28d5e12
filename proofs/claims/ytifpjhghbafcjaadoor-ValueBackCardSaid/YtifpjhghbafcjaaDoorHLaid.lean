/- What a row's listed variables give the walks; the door's own heap meets the condition. -/
import Derived.Test.YtifpjhghbafcjaaDoorRows
import Derived.Test.YtifpjhghbafcjaaDoorHText
import Derived.ProofKit
import Derived.LaidMore
import Derived.OpenShut
import Derived.Stop.Joined
import Derived.Stop.LaidErr
import Derived.Lib.LaidTab
namespace Go.Proofs.YtifpjhghbafcjaaDoor.P
open Go.RowKit Go.ChangeShapes Go.WideShapes Go.ChangeAt
def laid3 : List (String × DataW Unit) := [("math/bits.deBruijn32tab", Rows.laid_math_bits_deBruijn32tab), ("math/bits.deBruijn64tab", Rows.laid_math_bits_deBruijn64tab), ("internal/strconv.uint64pow10", Rows.laid_internal_strconv_uint64pow10)]
theorem gPow : Tryd.prog.globalNamed "internal/strconv.uint64pow10" = some 1 := by kernel_rfl
theorem tPow : (Tryd.prog.globals[1]?).map (·.type) = some 88 := by kernel_rfl
theorem cPow : Tryd.prog.cellsOf 88 = 20 := by kernel_rfl
theorem cU64 : Tryd.prog.cellsOf 45 = 1 := by kernel_rfl
theorem powTab : (Rows.laid_internal_strconv_uint64pow10 : DataW Unit) = Lib.tabData .u64 Lib.pow10Tab := by rfl
theorem tabs_of_laid {W : World} (h : laidMetH Tryd.prog laid3 W) : Tabs W := by
  rw [MakeChecks.laidMetH_plain _ _ _ (by kernel_rfl)] at h
  have h2 : laidMet Tryd.prog [("internal/strconv.uint64pow10", Rows.laid_internal_strconv_uint64pow10)] W := h.tail.tail
  rw [powTab] at h2
  exact Lib.tabIs_of_head gPow tPow Tryd.underlying88 Tryd.underlying45 cU64 cPow h2
theorem door3_met (os : Os) (args : Array Value) : laidMetH Tryd.prog laid3 ((World.doorLaid Tryd.prog 62 os).forCall (fun _ _ => 0) ⟨#[], args, []⟩).memory :=
  laidMetH_of_parts3 (fuel := 8) (laidMet_of_run' 8 (by kernel_rfl) (by kernel_rfl)) (by kernel_rfl) (by kernel_rfl)
end Go.Proofs.YtifpjhghbafcjaaDoor.P
