-- Written by wip/tools/myprint.py: the plain statement of SchemaOrders.
import Derived.Test.YtkodpbellndelaaPx9
import Derived.Test.YtkodpbellndelaaO
namespace Go.Proofs.Ytkodpbellndelaa.P
open Go.RowKit Go.Proofs.YtkodpbellndelaaW.PrintWords
def thresherlaw04_SchemaOrders.PureG : Prop := ∀ (x0 : S24) (x1 : List (S34)) (x2 : List (S34)), gd24 x0 → (x1.length ≤ maxLen ∧ ∀ a ∈ x1, gd34 a) → (x2.length ≤ maxLen ∧ ∀ a ∈ x2, gd34 a) → ∃ k, thresherlaw04_SchemaOrders.f k x0.f0.f0 x0.f0.f1 x0.f0.f2 x0.f0.f3 x0.f0.f4 x0.f0.f5 x0.f0.f6 x0.f0.f7 x0.f1 x0.f2 x0.f3 x0.f4 x1 x2 = some true
end Go.Proofs.Ytkodpbellndelaa.P
