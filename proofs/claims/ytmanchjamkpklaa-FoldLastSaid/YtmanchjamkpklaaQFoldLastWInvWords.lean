/- Texts of FoldLast. Merged: WInvWords. -/
import Derived.Test.YtmanchjamkpklaaQFoldLastWInv
import Derived.Test.YtmanchjamkpklaaQFoldLastWFootNe
namespace Go.Proofs.YtmanchjamkpklaaW.PrintWords
open Go.RowKit
end Go.Proofs.YtmanchjamkpklaaW.PrintWords
namespace Go.Proofs.YtmanchjamkpklaaW.PrintLast
section
variable {ops : Array Oper} {a : Act} {o og : Oper} {g : Nat} {t : Tmp} {u : Bool}
end
end Go.Proofs.YtmanchjamkpklaaW.PrintLast

