/- Texts of ValueAll. Merged: WInvWords. -/
import Derived.Test.YtifpjhghbafcjaaDoorQValueAllWInv
import Derived.Test.YtifpjhghbafcjaaDoorQValueAllWFootNe
namespace Go.Proofs.YtifpjhghbafcjaaDoorW.PrintWords
open Go.RowKit
end Go.Proofs.YtifpjhghbafcjaaDoorW.PrintWords
namespace Go.Proofs.YtifpjhghbafcjaaDoorW.PrintLast
section
variable {ops : Array Oper} {a : Act} {o og : Oper} {g : Nat} {t : Tmp} {u : Bool}
end
end Go.Proofs.YtifpjhghbafcjaaDoorW.PrintLast

