/- Texts of FilterMay. Merged: WFour. -/
import Derived.Test.YtbkpifcjgedjaaaQFilterMayWTab
namespace Go.Proofs.YtbkpifcjgedjaaaW.PrintLast
section
variable {P : Program} {ops : Array Oper} {Q : Exit→Act→World→Prop} {md : Region.Mode} {S : World→Prop} {ds : List Nat} {T : Bool × List (List Nat × List Nat)}
end
end Go.Proofs.YtbkpifcjgedjaaaW.PrintLast

