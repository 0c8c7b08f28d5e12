-- Written by wip/tools/myprint.py: the plain statement of GrainAll.
import Derived.Test.YthoelihgpkffiaaPx12
import Derived.Test.YthoelihgpkffiaaO
namespace Go.Proofs.Ythoelihgpkffiaa.P
open Go.RowKit Go.Proofs.YthoelihgpkffiaaW.PrintWords
def thresherlaw10_GrainAll.PureG : Prop := ∀ (x0 : S24) (x1 : List (List (S45))) (x2 : Int), gd24 x0 → (x1.length ≤ maxLen ∧ ∀ a ∈ x1, (a.length ≤ maxLen ∧ ∀ aa ∈ a, gd45 aa)) → (Lit.int .i64 x2).wf = true → ∃ k, thresherlaw10_GrainAll.f k x0.f0.f0 x0.f0.f1 x0.f0.f2 x0.f0.f3 x0.f0.f4 x0.f0.f5 x0.f0.f6 x0.f0.f7 x0.f1 x0.f2 x0.f3 x0.f4 x1 x2 = some true
end Go.Proofs.Ythoelihgpkffiaa.P
