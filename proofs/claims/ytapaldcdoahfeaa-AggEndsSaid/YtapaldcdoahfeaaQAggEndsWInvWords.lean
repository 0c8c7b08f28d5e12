/- Texts of AggEnds. Merged: WInvWords. -/
import Derived.Test.YtapaldcdoahfeaaQAggEndsWInv
import Derived.Test.YtapaldcdoahfeaaQAggEndsWFootNe
namespace Go.Proofs.YtapaldcdoahfeaaW.PrintWords
open Go.RowKit
end Go.Proofs.YtapaldcdoahfeaaW.PrintWords
namespace Go.Proofs.YtapaldcdoahfeaaW.PrintLast
section
variable {ops : Array Oper} {a : Act} {o og : Oper} {g : Nat} {t : Tmp} {u : Bool}
end
end Go.Proofs.YtapaldcdoahfeaaW.PrintLast

