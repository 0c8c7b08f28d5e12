/- Texts of SchemaAll. Merged: WInvWords. -/
import Derived.Test.YtkodpbellndelaaQSchemaAllWInv
import Derived.Test.YtkodpbellndelaaQSchemaAllWFootNe
namespace Go.Proofs.YtkodpbellndelaaW.PrintWords
open Go.RowKit
end Go.Proofs.YtkodpbellndelaaW.PrintWords
namespace Go.Proofs.YtkodpbellndelaaW.PrintLast
section
variable {ops : Array Oper} {a : Act} {o og : Oper} {g : Nat} {t : Tmp} {u : Bool}
end
end Go.Proofs.YtkodpbellndelaaW.PrintLast

