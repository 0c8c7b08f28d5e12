-- Written by wip/tools/myprint.py over the kit's print (a program's print; Lean checks it).
import Derived.Test.YtifpjhghbafcjaaDoorPx9a
import Derived.Test.YtifpjhghbafcjaaDoorPx9b
import Derived.Test.YtifpjhghbafcjaaDoorPx0
import Derived.Test.YtifpjhghbafcjaaDoorPx1
import Derived.Test.YtifpjhghbafcjaaDoorPx4
import Derived.Test.YtifpjhghbafcjaaDoorPx8
namespace Go.Proofs.YtifpjhghbafcjaaDoor.P
open Go.RowKit Go.Proofs.YtifpjhghbafcjaaDoorW.PrintWords Go.Proofs.YtifpjhghbafcjaaDoorW.PrintLast Go.Proofs.YtifpjhghbafcjaaDoorW.PrintMore
attribute [local go_sem] max2_int min2_int max_two min_two max_three min_three max_four min_four   -- for this text's walks alone
set_option linter.unusedVariables false
set_option linter.unusedSimpArgs false
attribute [local go_sem high] eqA23
theorem thresherlaw03_ValueSums.calls (k : Nat) (a0 : Int) (a1_0 : Int) (a1_1 : ByteArray) (a1_2 : Int) (a1_3 : ByteArray) (a1_4 : Int) (a1_5 : ByteArray) (r : Bool) (w : World) (h : thresherlaw03_ValueSums.f k a0 a1_0 a1_1 a1_2 a1_3 a1_4 a1_5=some r) (htab_ : Tabs w) :
  Calls Tryd.prog 6 #[.int .u8 a0,.agg #[.int .i64 a1_0,.string a1_1,.int .i64 a1_2,.string a1_3,.int .i64 a1_4,.string a1_5]] w fun e w'=>e=.returned (.bool r)∧Below w.heap.size w w':=
  thresherlaw03_ValueSums.calls_part.2 ⟨thresherlaw03_ValueSums.calls_rest0⟩ k a0 a1_0 a1_1 a1_2 a1_3 a1_4 a1_5 r w h htab_
end Go.Proofs.YtifpjhghbafcjaaDoor.P
