/- The order of any two rows is as the document says: the plain law. -/
import Derived.Test.YtkodpbellndelaaSSchemaOrders
import Derived.Test.YtkodpbellndelaaXShape
import Derived.Test.YtkodpbellndelaaXShort
import Derived.Test.YtkodpbellndelaaXVCmp
import Derived.Test.YtkodpbellndelaaXRCmp
import Derived.Test.YtkodpbellndelaaXShown04
namespace Go.Proofs.Ytkodpbellndelaa.Pure
open Go.RowKit Go.Proofs.Ytkodpbellndelaa.P Go.Proofs.YtkodpbellndelaaW.PrintWords Go.Proofs.YtkodpbellndelaaW.PrintLast
set_option linter.unusedVariables false
theorem SchemaOrders : thresherlaw04_SchemaOrders.PureG := by
  intro x a b hx ⟨_, ha⟩ ⟨_, hb⟩
  obtain ⟨T, K, M, G, hmade, hS⟩ := shape_ev hx
  obtain ⟨p, hp, gp, lp⟩ := short_ev a (GR_of ha)
  obtain ⟨q, hq, gq, lq⟩ := short_ev b (GR_of hb)
  have n8 := hS.n8
  apply Ev.rounds
  simp only [thresherlaw04_SchemaOrders.f, thresherlaw04_made.f]
  refine Ev.bind shown04_ev (Ev.bind (Ev.bind hmade (Ev.now _)) (Ev.bind hp (Ev.bind hq (Ev.pos rfl ?_))))
  exact Ev.bind (scmp_ev T K M G p q (by omega)) (Ev.bind (rowcmp_ev T K M G p q gp gq (by omega)) ((Ev.now _).eq (by simp)))
end Go.Proofs.Ytkodpbellndelaa.Pure
