/- A row made to fit. -/
import Derived.Test.YtkodpbellndelaaPx3
import Derived.Test.YtkodpbellndelaaXBase
namespace Go.Proofs.Ytkodpbellndelaa.P
open Go.RowKit Go.Proofs.YtkodpbellndelaaW.PrintWords Go.Proofs.YtkodpbellndelaaW.PrintLast Go.Proofs.YtkodpbellndelaaW.PrintMore
set_option linter.unusedVariables false
set_option linter.unusedSimpArgs false

theorem fit_turn (T : List Int) (K M G : Int) (r : List XV) (i : Nat) (acc : List XV) (v0 : Int) (v1 : ByteArray) (hi : i < T.length) (hT : T.length ≤ 1000000) (ha : acc.length = i) {R : List XV} (h : Ev (fun k => thresherref04_Fit.l0 k r (acc ++ [fit1 (rd T i) ⟨v0, v1⟩]) ((i + 1 : Nat) : Int) T K M G) R) : Ev (fun k => thresherref04_Fit.j1 k r acc i T K M G v0 v1) R := by
  refine Ev.succ ?_
  simp only [thresherref04_Fit.j1]
  simp (disch := omega) only [w64]
  refine Ev.pos (by omega) (Ev.pos (by omega) ?_)
  unfold fit1 at h
  by_cases e : rd T i = 3
  · rw [if_pos e] at h
    refine Ev.pos e ?_
    by_cases s : (v1.size : Int) > 60
    · simp only [if_pos s] at h
      exact Ev.pos s (Ev.pos (by omega) (Ev.pos (by omega) (Ev.pos (by omega) h)))
    · simp only [if_neg s] at h
      exact Ev.neg s (Ev.pos (by omega) h)
  · rw [if_neg e] at h
    exact Ev.neg e (Ev.pos (by omega) h)
theorem fit_loop (T : List Int) (K M G : Int) (r : List XV) (hT : T.length ≤ 1000000) : ∀ (d i : Nat) (acc : List XV), i + d = T.length → acc.length = i → Ev (fun k => thresherref04_Fit.l0 k r acc i T K M G) (acc ++ (List.range' i d).map fun (j : Nat) => fit1 (rd T j) (rdV r j))
  | 0, i, acc, hi, ha => by
    refine Ev.succ ?_
    simp only [thresherref04_Fit.l0]
    exact Ev.neg (by omega) ((Ev.now _).eq (by simp))
  | d + 1, i, acc, hi, ha => by
    refine Ev.succ ?_
    simp only [thresherref04_Fit.l0]
    refine Ev.pos (by omega) ?_
    have hl : (acc ++ [fit1 (rd T i) (rdV r i)]).length = i + 1 := by simp; omega
    have h := (fit_loop T K M G r hT d (i + 1) (acc ++ [fit1 (rd T i) (rdV r i)]) (by omega) hl).eq (r' := acc ++ (List.range' i (d + 1)).map fun (j : Nat) => fit1 (rd T j) (rdV r j)) (by rw [List.append_assoc, List.range'_succ]; rfl)
    by_cases e : i < r.length
    · exact Ev.pos (by omega) (Ev.pos (by omega) (fit_turn T K M G r i acc _ _ (by omega) hT ha h))
    · refine Ev.neg (by omega) (fit_turn T K M G r i acc _ _ (by omega) hT ha ?_)
      have e2 : rdV r i = ⟨0, ⟨#[]⟩⟩ := rdV_ge r i (by omega)
      rw [e2] at h
      exact h
theorem fit_ev (T : List Int) (K M G : Int) (r : List XV) (hT : T.length ≤ 1000000) : Ev (fun k => thresherref04_Fit.f k T K M G r) (fitRow T r) := by
  simp only [thresherref04_Fit.f]
  exact fit_loop T K M G r hT T.length 0 [] (by omega) rfl
end Go.Proofs.Ytkodpbellndelaa.P
