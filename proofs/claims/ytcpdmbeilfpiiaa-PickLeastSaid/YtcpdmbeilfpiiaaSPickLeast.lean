-- Written by wip/tools/myprint.py: the plain statement of PickLeast.
import Derived.Test.YtcpdmbeilfpiiaaPx2
import Derived.Test.YtcpdmbeilfpiiaaO
namespace Go.Proofs.Ytcpdmbeilfpiiaa.P
open Go.RowKit Go.Proofs.YtcpdmbeilfpiiaaW.PrintWords
def thresherlaw15_PickLeast.PureG : Prop := ∀ (x0 : List Int), (x0.length ≤ maxLen ∧ ∀ a ∈ x0, (Lit.int .i64 a).wf = true) → ∃ k, thresherlaw15_PickLeast.f k x0 = some true
end Go.Proofs.Ytcpdmbeilfpiiaa.P
