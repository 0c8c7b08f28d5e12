/- A column of rows. -/
import Derived.Test.YthoelihgpkffiaaPx9
import Derived.Test.YthoelihgpkffiaaPx11
import Derived.Test.YthoelihgpkffiaaXBase
namespace Go.Proofs.Ythoelihgpkffiaa.P
open Go.RowKit Go.Proofs.YthoelihgpkffiaaW.PrintWords Go.Proofs.YthoelihgpkffiaaW.PrintLast Go.Proofs.YthoelihgpkffiaaW.PrintMore
set_option linter.unusedVariables false
set_option linter.unusedSimpArgs false

def colF (at_ : Int) : List (List XV) → List XV → List XV
  | [], acc => acc
  | r :: rest, acc => if 0 ≤ at_ ∧ at_ < r.length then colF at_ rest (acc ++ [rdV r at_]) else []
theorem col_loop (l : List (List XV)) (at_ : Int) (hl : l.length ≤ 1000000) : ∀ (d i : Nat) (acc : List XV), i + d = l.length → acc.length = i → Ev (fun k => grain_Column.l0 k at_ acc l l.length i) (colF at_ (l.drop i) acc)
  | 0, i, acc, hi, ha => by
    refine Ev.succ ?_
    simp only [grain_Column.l0]
    rw [List.drop_of_length_le (by omega)]
    exact Ev.neg (by omega) (Ev.now _)
  | d + 1, i, acc, hi, ha => by
    have h : i < l.length := by omega
    refine Ev.succ ?_
    simp only [grain_Column.l0]
    rw [rdR_lt l i h, List.drop_eq_getElem_cons h]
    simp (disch := omega) only [w64]
    unfold colF
    refine Ev.pos (by omega) (Ev.pos (by omega) (Ev.pos (by omega) ?_))
    by_cases h0 : at_ < 0
    · rw [if_neg (by omega)]
      exact Ev.pos h0 (Ev.now _)
    · refine Ev.neg h0 ?_
      by_cases h1 : at_ ≥ (l[i].length : Int)
      · rw [if_neg (by omega)]
        exact Ev.pos h1 (Ev.now _)
      · rw [if_pos (by omega)]
        exact Ev.neg h1 (Ev.pos (by omega) (Ev.pos (by omega) (Ev.pos (by omega) (col_loop l at_ hl d (i + 1) (acc ++ [rdV l[i] at_]) (by omega) (by simp; omega)))))
theorem col_ev (l : List (List XV)) (at_ : Int) (hl : l.length ≤ 1000000) : Ev (fun k => grain_Column.f k l at_) (colF at_ l []) := by
  simp only [grain_Column.f]
  exact col_loop l at_ hl l.length 0 [] (by omega) rfl
theorem refcol_loop (l : List (List XV)) (at_ : Int) (hl : l.length ≤ 1000000) : ∀ (d i : Nat) (acc : List XV), i + d = l.length → acc.length = i → Ev (fun k => thresherref10_Column.l0 k l at_ acc i) (colF at_ (l.drop i) acc)
  | 0, i, acc, hi, ha => by
    refine Ev.succ ?_
    simp only [thresherref10_Column.l0]
    rw [List.drop_of_length_le (by omega)]
    exact Ev.neg (by omega) (Ev.now _)
  | d + 1, i, acc, hi, ha => by
    have h : i < l.length := by omega
    refine Ev.succ ?_
    simp only [thresherref10_Column.l0]
    rw [rdR_lt l i h, List.drop_eq_getElem_cons h]
    simp (disch := omega) only [w64]
    unfold colF
    refine Ev.pos (by omega) ?_
    by_cases h0 : at_ < 0
    · rw [if_neg (by omega)]
      exact Ev.pos h0 (Ev.now _)
    · refine Ev.neg h0 (Ev.pos (by omega) ?_)
      by_cases h1 : at_ ≥ (l[i].length : Int)
      · rw [if_neg (by omega)]
        exact Ev.pos h1 (Ev.now _)
      · rw [if_pos (by omega)]
        exact Ev.neg h1 (Ev.pos (by omega) (Ev.pos (by omega) (Ev.pos (by omega) (refcol_loop l at_ hl d (i + 1) (acc ++ [rdV l[i] at_]) (by omega) (by simp; omega)))))
theorem refcol_ev (l : List (List XV)) (at_ : Int) (hl : l.length ≤ 1000000) : Ev (fun k => thresherref10_Column.f k l at_) (colF at_ l []) := by
  simp only [thresherref10_Column.f]
  exact refcol_loop l at_ hl l.length 0 [] (by omega) rfl
theorem colF_length (at_ : Int) : ∀ (l : List (List XV)) (acc : List XV), (colF at_ l acc).length ≤ acc.length + l.length
  | [], acc => by simp [colF]
  | r :: rest, acc => by
    unfold colF
    split
    · have := colF_length at_ rest (acc ++ [rdV r at_])
      simp at this ⊢
      omega
    · simp
end Go.Proofs.Ythoelihgpkffiaa.P
