/- Texts of GrainBack. Merged: WInvWords. -/
import Derived.Test.YthoelihgpkffiaaQGrainBackWInv
import Derived.Test.YthoelihgpkffiaaQGrainBackWFootNe
namespace Go.Proofs.YthoelihgpkffiaaW.PrintWords
open Go.RowKit
end Go.Proofs.YthoelihgpkffiaaW.PrintWords
namespace Go.Proofs.YthoelihgpkffiaaW.PrintLast
section
variable {ops : Array Oper} {a : Act} {o og : Oper} {g : Nat} {t : Tmp} {u : Bool}
end
end Go.Proofs.YthoelihgpkffiaaW.PrintLast

