/- Are two rows the same, and two lists of rows? -/
import Derived.Test.YthoelihgpkffiaaPx10
import Derived.Test.YthoelihgpkffiaaPx10
import Derived.Test.YthoelihgpkffiaaXBase
namespace Go.Proofs.Ythoelihgpkffiaa.P
open Go.RowKit Go.Proofs.YthoelihgpkffiaaW.PrintWords Go.Proofs.YthoelihgpkffiaaW.PrintLast Go.Proofs.YthoelihgpkffiaaW.PrintMore
set_option linter.unusedVariables false
set_option linter.unusedSimpArgs false

theorem one_loop (a b : List XV) (hl : a.length = b.length) (hb : a.length ≤ 1000000000) : ∀ (d i : Nat), i + d = a.length → Ev (fun k => thresherref04_One.l0 k a b i) (decide (a.drop i = b.drop i))
  | 0, i, hi => by
    refine Ev.succ ?_
    simp only [thresherref04_One.l0]
    refine Ev.neg (by omega) ((Ev.now _).eq ?_)
    rw [List.drop_of_length_le (by omega), List.drop_of_length_le (by omega)]
    simp
  | d + 1, i, hi => by
    have h1 : i < a.length := by omega
    have h2 : i < b.length := by omega
    refine Ev.succ ?_
    simp only [thresherref04_One.l0]
    simp (disch := omega) only [w64]
    rw [rdV_lt a i h1, rdV_lt b i h2]
    rw [List.drop_eq_getElem_cons h1, List.drop_eq_getElem_cons h2]
    refine Ev.pos (by omega) (Ev.pos (by omega) (Ev.pos (by omega) ?_))
    by_cases e : a[i] = b[i]
    · refine Ev.neg (fun h => XV.same.mp h e) ((one_loop a b hl hb d (i + 1) (by omega)).eq ?_)
      rw [e]
      exact decide_eq_decide.mpr ⟨fun h => by rw [h], fun h => (List.cons.inj h).2⟩
    · refine Ev.pos (XV.same.mpr e) ((Ev.now _).eq ?_)
      symm
      rw [decide_eq_false_iff_not]
      intro h
      exact e (List.cons.inj h).1
theorem one_ev (a b : List XV) (hb : a.length ≤ 1000000000) : Ev (fun k => thresherref04_One.f k a b) (decide (a = b)) := by
  simp only [thresherref04_One.f]
  by_cases hl : a.length = b.length
  · refine Ev.pos (by omega) ?_
    have := one_loop a b hl hb a.length 0 (by omega)
    simpa using this
  · refine Ev.neg (by omega) ((Ev.now _).eq ?_)
    symm
    rw [decide_eq_false_iff_not]
    rintro rfl
    exact hl rfl

theorem rows_loop (a b : List (List XV)) (hl : a.length = b.length) (hb : a.length ≤ 1000000000) (hr : ∀ r ∈ a, r.length ≤ 1000000000) : ∀ (d i : Nat), i + d = a.length → Ev (fun k => thresherref04_Rows.l0 k a b i) (decide (a.drop i = b.drop i))
  | 0, i, hi => by
    refine Ev.succ ?_
    simp only [thresherref04_Rows.l0]
    refine Ev.neg (by omega) ((Ev.now _).eq ?_)
    rw [List.drop_of_length_le (by omega), List.drop_of_length_le (by omega)]
    simp
  | d + 1, i, hi => by
    have h1 : i < a.length := by omega
    have h2 : i < b.length := by omega
    refine Ev.succ ?_
    simp only [thresherref04_Rows.l0]
    simp (disch := omega) only [w64]
    rw [rdR_lt a i h1, rdR_lt b i h2]
    rw [List.drop_eq_getElem_cons h1, List.drop_eq_getElem_cons h2]
    refine Ev.pos (by omega) (Ev.pos (by omega) (Ev.pos (by omega) (Ev.bind (one_ev _ _ (hr _ (List.getElem_mem h1))) ?_)))
    by_cases e : a[i] = b[i]
    · refine Ev.pos (decide_eq_true e) ((rows_loop a b hl hb hr d (i + 1) (by omega)).eq ?_)
      rw [e]
      exact decide_eq_decide.mpr ⟨fun h => by rw [h], fun h => (List.cons.inj h).2⟩
    · refine Ev.neg (by simpa using e) ((Ev.now _).eq ?_)
      symm
      rw [decide_eq_false_iff_not]
      intro h
      exact e (List.cons.inj h).1
theorem rows_ev (a b : List (List XV)) (hb : a.length ≤ 1000000000) (hr : ∀ r ∈ a, r.length ≤ 1000000000) : Ev (fun k => thresherref04_Rows.f k a b) (decide (a = b)) := by
  simp only [thresherref04_Rows.f]
  by_cases hl : a.length = b.length
  · refine Ev.pos (by omega) ?_
    have := rows_loop a b hl hb hr a.length 0 (by omega)
    simpa using this
  · refine Ev.neg (by omega) ((Ev.now _).eq ?_)
    symm
    rw [decide_eq_false_iff_not]
    rintro rfl
    exact hl rfl
end Go.Proofs.Ythoelihgpkffiaa.P
