/- Texts of OrderAll. Merged: HKit. -/
import Derived.Test.YtojbeofipedolaaQOrderAllWMore
import Derived.WalkSpells
/- Words that the printed texts of this seat lean on besides the kit's. -/
namespace Go.Proofs.YtojbeofipedolaaW.PrintWords
open Go.RowKit
theorem cells_rd (k : IntKind) (l : List Int) (J : Int) (h0 : 0≤J) (h1 : J < (l.length : Int)) : ((l.map (Value.int k)).toArray)[J.toNat]?=some (.int k (rd l J)):=by
 have h : J.toNat < l.length:=by omega
 simp [rd,h,List.getD]
namespace Kd
end Kd
end Go.Proofs.YtojbeofipedolaaW.PrintWords

