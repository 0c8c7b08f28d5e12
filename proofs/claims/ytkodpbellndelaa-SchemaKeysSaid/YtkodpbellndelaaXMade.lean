/- A schema made of any numbers. -/
import Derived.Test.YtkodpbellndelaaPx2
import Derived.Test.YtkodpbellndelaaXBase
namespace Go.Proofs.Ytkodpbellndelaa.P
open Go.RowKit Go.Proofs.YtkodpbellndelaaW.PrintWords Go.Proofs.YtkodpbellndelaaW.PrintLast Go.Proofs.YtkodpbellndelaaW.PrintMore
set_option linter.unusedVariables false
set_option linter.unusedSimpArgs false

def U8 (x : Int) : Prop := 0 ≤ x ∧ x ≤ 255
theorem made_one {x : Int} {m : Int} (h : U8 x) (hm : 0 < m) (hm2 : m ≤ 1000) : wrap64 (1 + Int.tmod (wrap64 x) m) = 1 + x % m ∧ 1 ≤ 1 + x % m ∧ 1 + x % m ≤ m := by
  obtain ⟨h0, h1⟩ := h
  have e1 : wrap64 x = x := w64 (by omega) (by omega)
  have h2 := Int.emod_nonneg x (show m ≠ 0 by omega)
  have h3 := Int.emod_lt_of_pos x hm
  rw [e1, Int.tmod_eq_emod_of_nonneg h0]
  exact ⟨w64 (by omega) (by omega), by omega, by omega⟩
theorem made_loop (x0 x1 x2 x3 x4 x5 x6 x7 K M G : Int) (hx : ∀ x ∈ [x0, x1, x2, x3, x4, x5, x6, x7], U8 x) (n : Nat) (hn : n ≤ 8) : ∀ (d i : Nat) (T : List Int), i + d = n → T.length = i → (∀ t ∈ T, 1 ≤ t ∧ t ≤ 3) → ∃ T', Ev (fun k => thresherref04_Made.l0 k n i x0 x1 x2 x3 x4 x5 x6 x7 T K M G) (T', K, M, G) ∧ T'.length = n ∧ ∀ t ∈ T', 1 ≤ t ∧ t ≤ 3
  | 0, i, T, hi, hT, ht => by
    refine ⟨T, Ev.succ ?_, by omega, ht⟩
    simp only [thresherref04_Made.l0]
    exact Ev.neg (by omega) (Ev.now _)
  | d + 1, i, T, hi, hT, ht => by
    have hr : U8 (rd [x0, x1, x2, x3, x4, x5, x6, x7] i) := by
      rw [rd_lt _ i (by simp; omega)]
      exact hx _ (List.getElem_mem _)
    obtain ⟨e, l1, l2⟩ := made_one (m := 3) hr (by omega) (by omega)
    obtain ⟨T', h1, h2, h3⟩ := made_loop x0 x1 x2 x3 x4 x5 x6 x7 K M G hx n hn d (i + 1) (T ++ [1 + rd [x0, x1, x2, x3, x4, x5, x6, x7] i % 3]) (by omega) (by simp; omega) (by
      intro t h
      rcases List.mem_append.mp h with h | h
      · exact ht t h
      · rw [List.mem_singleton.mp h]; exact ⟨l1, l2⟩)
    refine ⟨T', Ev.succ ?_, h2, h3⟩
    simp only [thresherref04_Made.l0]
    rw [e]
    clear e
    simp (disch := omega) only [w64]
    exact Ev.pos (by omega) (Ev.pos (by omega) (Ev.pos (by omega) (Ev.pos (by omega) h1)))
theorem made_ev (x0 x1 x2 x3 x4 x5 x6 x7 a b c d : Int) (h0 : U8 x0) (h1 : U8 x1) (h2 : U8 x2) (h3 : U8 x3) (h4 : U8 x4) (h5 : U8 x5) (h6 : U8 x6) (h7 : U8 x7) (ha : U8 a) (hb : U8 b) (hc : U8 c) (hd : U8 d) : ∃ T K M G, Ev (fun k => thresherref04_Made.f k x0 x1 x2 x3 x4 x5 x6 x7 a b c d) (T, K, M, G) ∧ Sch T K M G := by
  obtain ⟨ea, a1, a2⟩ := made_one (m := 8) ha (by omega) (by omega)
  obtain ⟨n, hn⟩ : ∃ n : Nat, 1 + a % 8 = n := ⟨(1 + a % 8).toNat, by omega⟩
  obtain ⟨eb, b1, b2⟩ := made_one (m := 1 + a % 8) hb (by omega) (by omega)
  obtain ⟨ec, c1, c2⟩ := made_one (m := 3) hc (by omega) (by omega)
  obtain ⟨ed, d1, d2⟩ := made_one (m := 8) hd (by omega) (by omega)
  simp only [thresherref04_Made.f, ea, eb, ec, ed]
  clear ea eb ec ed
  rw [hn] at b1 b2 a1 a2 ⊢
  obtain ⟨T, e, l, t⟩ := made_loop x0 x1 x2 x3 x4 x5 x6 x7 (1 + b % n) (1 + c % 3) (1 + d % 8) (by
    intro x hx
    simp only [List.mem_cons, List.not_mem_nil, or_false] at hx
    rcases hx with rfl | rfl | rfl | rfl | rfl | rfl | rfl | rfl <;> assumption) n (by omega) n 0 [] (by omega) rfl (by simp)
  exact ⟨T, _, _, _, Ev.neg (by omega) e, ⟨by omega, by omega, t, b1, by omega, c1, c2, d1, d2⟩⟩
end Go.Proofs.Ytkodpbellndelaa.P
