/- Texts of OrderPlaces. Merged: WInvWords. -/
import Derived.Test.YtojbeofipedolaaQOrderPlacesWInv
import Derived.Test.YtojbeofipedolaaQOrderPlacesWFootNe
namespace Go.Proofs.YtojbeofipedolaaW.PrintWords
open Go.RowKit
end Go.Proofs.YtojbeofipedolaaW.PrintWords
namespace Go.Proofs.YtojbeofipedolaaW.PrintLast
section
variable {ops : Array Oper} {a : Act} {o og : Oper} {g : Nat} {t : Tmp} {u : Bool}
end
end Go.Proofs.YtojbeofipedolaaW.PrintLast

