-- Written by wip/tools/myprint.py: the plain statement of PickAll.
import Derived.Test.YtcpdmbeilfpiiaaPx7
import Derived.Test.YtcpdmbeilfpiiaaO
namespace Go.Proofs.Ytcpdmbeilfpiiaa.P
open Go.RowKit Go.Proofs.YtcpdmbeilfpiiaaW.PrintWords
def thresherlaw15_PickAll.PureG : Prop := ∀ (x0 : List Int) (x1 : S30), (x0.length ≤ maxLen ∧ ∀ a ∈ x0, (Lit.int .i64 a).wf = true) → gd30 x1 → ∃ k, thresherlaw15_PickAll.f k x0 x1.f0 x1.f1 x1.f2 = some true
end Go.Proofs.Ytcpdmbeilfpiiaa.P
