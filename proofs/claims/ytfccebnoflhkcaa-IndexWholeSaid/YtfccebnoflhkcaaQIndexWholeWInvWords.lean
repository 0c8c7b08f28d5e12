/- Texts of IndexWhole. Merged: WInvWords. -/
import Derived.Test.YtfccebnoflhkcaaQIndexWholeWInv
import Derived.Test.YtfccebnoflhkcaaQIndexWholeWFootNe
-- PRINTED BY print.sh 35421559b90ae4d0a3588c463048766b98c2df88dd9212a6774a882060cdf62d: not written by this session
namespace Go.Proofs.YtfccebnoflhkcaaW.PrintWords
open Go.RowKit
end Go.Proofs.YtfccebnoflhkcaaW.PrintWords
namespace Go.Proofs.YtfccebnoflhkcaaW.PrintLast
section
variable {ops : Array Oper} {a : Act} {o og : Oper} {g : Nat} {t : Tmp} {u : Bool}
end
end Go.Proofs.YtfccebnoflhkcaaW.PrintLast

