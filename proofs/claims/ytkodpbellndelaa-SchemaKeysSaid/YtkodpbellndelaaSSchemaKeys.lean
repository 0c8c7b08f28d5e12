-- Written by wip/tools/myprint.py: the plain statement of SchemaKeys.
import Derived.Test.YtkodpbellndelaaPx11
import Derived.Test.YtkodpbellndelaaO
namespace Go.Proofs.Ytkodpbellndelaa.P
open Go.RowKit Go.Proofs.YtkodpbellndelaaW.PrintWords
def thresherlaw04_SchemaKeys.PureG : Prop := ∀ (x0 : S24) (x1 : S52) (x2 : Int), gd24 x0 → gd52 x1 → (Lit.int .u8 x2).wf = true → ∃ k, thresherlaw04_SchemaKeys.f k x0.f0.f0 x0.f0.f1 x0.f0.f2 x0.f0.f3 x0.f0.f4 x0.f0.f5 x0.f0.f6 x0.f0.f7 x0.f1 x0.f2 x0.f3 x0.f4 x1.f0 x1.f1 x2 = some true
end Go.Proofs.Ytkodpbellndelaa.P
