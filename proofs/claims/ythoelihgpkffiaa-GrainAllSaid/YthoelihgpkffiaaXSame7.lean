/- Are two rows of values the same? -/
import Derived.Test.YthoelihgpkffiaaPx9
import Derived.Test.YthoelihgpkffiaaXBase
namespace Go.Proofs.Ythoelihgpkffiaa.P
open Go.RowKit Go.Proofs.YthoelihgpkffiaaW.PrintWords Go.Proofs.YthoelihgpkffiaaW.PrintLast Go.Proofs.YthoelihgpkffiaaW.PrintMore
set_option linter.unusedVariables false
set_option linter.unusedSimpArgs false

theorem same7_loop (a b : List XV) (hl : a.length = b.length) (hb : a.length ≤ 1000000000) : ∀ (d i : Nat), i + d = a.length → Ev (fun k => thresherref07_Same.l0 k a b i) (decide (a.drop i = b.drop i))
  | 0, i, hi => by
    refine Ev.succ ?_
    simp only [thresherref07_Same.l0]
    refine Ev.neg (by omega) ((Ev.now _).eq ?_)
    rw [List.drop_of_length_le (by omega), List.drop_of_length_le (by omega)]
    simp
  | d + 1, i, hi => by
    have h1 : i < a.length := by omega
    have h2 : i < b.length := by omega
    refine Ev.succ ?_
    simp only [thresherref07_Same.l0]
    simp (disch := omega) only [w64]
    rw [rdV_lt a i h1, rdV_lt b i h2]
    rw [List.drop_eq_getElem_cons h1, List.drop_eq_getElem_cons h2]
    refine Ev.pos (by omega) (Ev.pos (by omega) (Ev.pos (by omega) ?_))
    by_cases e : a[i] = b[i]
    · refine Ev.neg (fun h => XV.same.mp h e) ((same7_loop a b hl hb d (i + 1) (by omega)).eq ?_)
      rw [e]
      exact decide_eq_decide.mpr ⟨fun h => by rw [h], fun h => (List.cons.inj h).2⟩
    · refine Ev.pos (XV.same.mpr e) ((Ev.now _).eq ?_)
      symm
      rw [decide_eq_false_iff_not]
      intro h
      exact e (List.cons.inj h).1
theorem same7_ev (a b : List XV) (hb : a.length ≤ 1000000000) : Ev (fun k => thresherref07_Same.f k a b) (decide (a = b)) := by
  simp only [thresherref07_Same.f]
  by_cases hl : a.length = b.length
  · refine Ev.pos (by omega) ?_
    have := same7_loop a b hl hb a.length 0 (by omega)
    simpa using this
  · refine Ev.neg (by omega) ((Ev.now _).eq ?_)
    symm
    rw [decide_eq_false_iff_not]
    rintro rfl
    exact hl rfl
end Go.Proofs.Ythoelihgpkffiaa.P
