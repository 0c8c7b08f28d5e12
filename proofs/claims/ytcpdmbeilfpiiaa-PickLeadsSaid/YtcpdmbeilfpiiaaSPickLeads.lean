-- Written by wip/tools/myprint.py: the plain statement of PickLeads.
import Derived.Test.YtcpdmbeilfpiiaaPx8
import Derived.Test.YtcpdmbeilfpiiaaO
namespace Go.Proofs.Ytcpdmbeilfpiiaa.P
open Go.RowKit Go.Proofs.YtcpdmbeilfpiiaaW.PrintWords
def thresherlaw15_PickLeads.PureG : Prop := ∀ (x0 : List Int), (x0.length ≤ maxLen ∧ ∀ a ∈ x0, (Lit.int .i64 a).wf = true) → ∃ k, thresherlaw15_PickLeads.f k x0 = some true
end Go.Proofs.Ytcpdmbeilfpiiaa.P
