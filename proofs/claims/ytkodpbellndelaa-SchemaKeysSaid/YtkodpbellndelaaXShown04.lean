/- The document's example of a schema. -/
import Derived.Test.YtkodpbellndelaaPx2
import Derived.Test.YtkodpbellndelaaXBase
namespace Go.Proofs.Ytkodpbellndelaa.P
open Go.RowKit Go.Proofs.YtkodpbellndelaaW.PrintWords Go.Proofs.YtkodpbellndelaaW.PrintLast Go.Proofs.YtkodpbellndelaaW.PrintMore
theorem shown04_ev : Ev (fun k => thresherlaw04_shown.f k) true := Ev.of thresherlaw04_shown.mono (k := 12) (by kernel_rfl)
end Go.Proofs.Ytkodpbellndelaa.P
