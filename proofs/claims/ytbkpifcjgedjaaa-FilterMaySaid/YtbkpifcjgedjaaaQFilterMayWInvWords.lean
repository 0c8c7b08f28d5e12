/- Texts of FilterMay. Merged: WInvWords. -/
import Derived.Test.YtbkpifcjgedjaaaQFilterMayWInv
import Derived.Test.YtbkpifcjgedjaaaQFilterMayWFootNe
namespace Go.Proofs.YtbkpifcjgedjaaaW.PrintWords
open Go.RowKit
end Go.Proofs.YtbkpifcjgedjaaaW.PrintWords
namespace Go.Proofs.YtbkpifcjgedjaaaW.PrintLast
section
variable {ops : Array Oper} {a : Act} {o og : Oper} {g : Nat} {t : Tmp} {u : Bool}
end
end Go.Proofs.YtbkpifcjgedjaaaW.PrintLast

