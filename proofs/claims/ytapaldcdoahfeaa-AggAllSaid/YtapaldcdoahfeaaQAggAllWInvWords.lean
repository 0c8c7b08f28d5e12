/- Texts of AggAll. Merged: WInvWords. -/
import Derived.Test.YtapaldcdoahfeaaQAggAllWInv
import Derived.Test.YtapaldcdoahfeaaQAggAllWFootNe
-- PRINTED BY print.sh 35421559b90ae4d0a3588c463048766b98c2df88dd9212a6774a882060cdf62d: not written by this session
namespace Go.Proofs.YtapaldcdoahfeaaW.PrintWords
open Go.RowKit
end Go.Proofs.YtapaldcdoahfeaaW.PrintWords
namespace Go.Proofs.YtapaldcdoahfeaaW.PrintLast
section
variable {ops : Array Oper} {a : Act} {o og : Oper} {g : Nat} {t : Tmp} {u : Bool}
end
end Go.Proofs.YtapaldcdoahfeaaW.PrintLast

