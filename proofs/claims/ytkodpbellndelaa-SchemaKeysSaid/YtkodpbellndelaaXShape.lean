/- A schema of a shape. -/
import Derived.Test.YtkodpbellndelaaO
import Derived.Test.YtkodpbellndelaaXMade
namespace Go.Proofs.Ytkodpbellndelaa.P
open Go.RowKit Go.Proofs.YtkodpbellndelaaW.PrintWords Go.Proofs.YtkodpbellndelaaW.PrintLast Go.Proofs.YtkodpbellndelaaW.PrintMore
theorem u8_of {x : Int} (h : (Lit.int .u8 x).wf = true) : U8 x := wf_u8 h
theorem shape_ev {x : S24} (h : gd24 x) : ∃ T K M G, Ev (fun k => thresherref04_Made.f k x.f0.f0 x.f0.f1 x.f0.f2 x.f0.f3 x.f0.f4 x.f0.f5 x.f0.f6 x.f0.f7 x.f1 x.f2 x.f3 x.f4) (T, K, M, G) ∧ Sch T K M G := by
  obtain ⟨⟨h0, h1, h2, h3, h4, h5, h6, h7⟩, ha, hb, hc, hd⟩ := h
  exact made_ev _ _ _ _ _ _ _ _ _ _ _ _ (u8_of h0) (u8_of h1) (u8_of h2) (u8_of h3) (u8_of h4) (u8_of h5) (u8_of h6) (u8_of h7) (u8_of ha) (u8_of hb) (u8_of hc) (u8_of hd)
end Go.Proofs.Ytkodpbellndelaa.P
