/- Texts of MergeFirst. Merged: WInvWords. -/
import Derived.Test.YtfiandejapgkoaaQMergeFirstWInv
import Derived.Test.YtfiandejapgkoaaQMergeFirstWFootNe
namespace Go.Proofs.YtfiandejapgkoaaW.PrintWords
open Go.RowKit
end Go.Proofs.YtfiandejapgkoaaW.PrintWords
namespace Go.Proofs.YtfiandejapgkoaaW.PrintLast
section
variable {ops : Array Oper} {a : Act} {o og : Oper} {g : Nat} {t : Tmp} {u : Bool}
end
end Go.Proofs.YtfiandejapgkoaaW.PrintLast

