-- Written by wip/tools/myprint.py: the plain statement of PickAfters.
import Derived.Test.YtcpdmbeilfpiiaaPx9
import Derived.Test.YtcpdmbeilfpiiaaO
namespace Go.Proofs.Ytcpdmbeilfpiiaa.P
open Go.RowKit Go.Proofs.YtcpdmbeilfpiiaaW.PrintWords
def thresherlaw15_PickAfters.PureG : Prop := ∀ (x0 : List Int) (x1 : S34) (x2 : Int), (x0.length ≤ maxLen ∧ ∀ a ∈ x0, (Lit.int .i64 a).wf = true) → gd34 x1 → (Lit.int .i64 x2).wf = true → ∃ k, thresherlaw15_PickAfters.f k x0 x1.f0 x1.f1 x2 = some true
end Go.Proofs.Ytcpdmbeilfpiiaa.P
