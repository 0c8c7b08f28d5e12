/- Texts of IndexGrows. Merged: WInvWords. -/
import Derived.Test.YtfccebnoflhkcaaQIndexGrowsWInv
import Derived.Test.YtfccebnoflhkcaaQIndexGrowsWFootNe
namespace Go.Proofs.YtfccebnoflhkcaaW.PrintWords
open Go.RowKit
end Go.Proofs.YtfccebnoflhkcaaW.PrintWords
namespace Go.Proofs.YtfccebnoflhkcaaW.PrintLast
section
variable {ops : Array Oper} {a : Act} {o og : Oper} {g : Nat} {t : Tmp} {u : Bool}
end
end Go.Proofs.YtfccebnoflhkcaaW.PrintLast

