/- A short row. -/
import Derived.Test.YtkodpbellndelaaPx5
import Derived.Test.YtkodpbellndelaaO
import Derived.Test.YtkodpbellndelaaXRCmp
namespace Go.Proofs.Ytkodpbellndelaa.P
open Go.RowKit Go.Proofs.YtkodpbellndelaaW.PrintWords Go.Proofs.YtkodpbellndelaaW.PrintLast Go.Proofs.YtkodpbellndelaaW.PrintMore
set_option linter.unusedVariables false
set_option linter.unusedSimpArgs false

theorem GR_of {r : List XV} (h : ∀ a ∈ r, gd34 a) : GR r := by
  intro v hv
  obtain ⟨h1, h2⟩ := h v hv
  unfold maxLen at h2
  exact ⟨wf_i64 h1, by omega⟩
theorem short_loop (r : List XV) (hr : GR r) : ∀ (d i : Nat) (acc : List XV), i + d = min r.length 70 → acc.length = i → GR acc → ∃ out, Ev (fun k => thresherlaw04_short.l0 k r acc i) out ∧ GR out ∧ out.length ≤ 70
  | 0, i, acc, hi, ha, hg => by
    refine ⟨acc, Ev.succ ?_, hg, by omega⟩
    have hj : Ev (fun k => thresherlaw04_short.j1 k r acc i false) acc := by
      refine Ev.succ ?_
      simp only [thresherlaw04_short.j1]
      exact Ev.neg (by simp) (Ev.now _)
    simp only [thresherlaw04_short.l0]
    by_cases h : (i : Int) < r.length
    · refine Ev.pos h ?_
      rw [decide_eq_false (by omega : ¬ (i : Int) < 70)]
      exact hj
    · exact Ev.neg h hj
  | d + 1, i, acc, hi, ha, hg => by
    have h : i < r.length := by omega
    have hv := hr _ (List.getElem_mem h)
    by_cases c : ((r[i].f1).size : Int) > 70
    · obtain ⟨out, h1, h2, h3⟩ := short_loop r hr d (i + 1) (acc ++ [⟨r[i].f0, r[i].f1.extract 0 70⟩]) (by omega) (by simp; omega) (by
        intro v hm
        rcases List.mem_append.mp hm with hm | hm
        · exact hg v hm
        · rw [List.mem_singleton.mp hm]
          exact ⟨hv.1, by simp only [ByteArray.size_extract]; omega⟩)
      refine ⟨out, Ev.succ ?_, h2, h3⟩
      simp only [thresherlaw04_short.l0]
      refine Ev.pos (by omega) (Ev.succ ?_)
      simp only [thresherlaw04_short.j1]
      rw [rdV_lt r i h]
      refine Ev.pos (decide_eq_true (by omega)) (Ev.pos (by omega) (Ev.pos (by omega) (Ev.pos c (Ev.pos (by omega) (Ev.pos (by omega) (Ev.succ ?_))))))
      simp only [thresherlaw04_short.j2]
      simp (disch := omega) only [w64]
      exact Ev.pos (by omega) h1
    · obtain ⟨out, h1, h2, h3⟩ := short_loop r hr d (i + 1) (acc ++ [⟨r[i].f0, r[i].f1⟩]) (by omega) (by simp; omega) (by
        intro v hm
        rcases List.mem_append.mp hm with hm | hm
        · exact hg v hm
        · rw [List.mem_singleton.mp hm]
          exact hv)
      refine ⟨out, Ev.succ ?_, h2, h3⟩
      simp only [thresherlaw04_short.l0]
      refine Ev.pos (by omega) (Ev.succ ?_)
      simp only [thresherlaw04_short.j1]
      rw [rdV_lt r i h]
      refine Ev.pos (decide_eq_true (by omega)) (Ev.pos (by omega) (Ev.pos (by omega) (Ev.neg c (Ev.succ ?_))))
      simp only [thresherlaw04_short.j2]
      simp (disch := omega) only [w64]
      exact Ev.pos (by omega) h1
theorem short_ev (r : List XV) (hr : GR r) : ∃ out, Ev (fun k => thresherlaw04_short.f k r) out ∧ GR out ∧ out.length ≤ 70 := by
  simp only [thresherlaw04_short.f]
  exact short_loop r hr (min r.length 70) 0 [] (by omega) rfl (by intro v h; simp at h)
end Go.Proofs.Ytkodpbellndelaa.P
