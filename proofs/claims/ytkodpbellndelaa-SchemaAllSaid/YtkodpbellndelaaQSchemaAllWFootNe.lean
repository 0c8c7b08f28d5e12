/- Texts of SchemaAll. Merged: WFootNe. -/
import Derived.Test.YtkodpbellndelaaQSchemaAllWN
namespace Go.Proofs.YtkodpbellndelaaW.PrintWords
open Go.RowKit
namespace Kd
section
variable {α : Type} {d : Kd α} {W : World} {g n : Nat} {S ok : Nat→Prop} {A : Option Addr} {ad : Addr} {xs : List α}
end
end Kd
end Go.Proofs.YtkodpbellndelaaW.PrintWords

