/- Rows made to fit. -/
import Derived.Test.YthoelihgpkffiaaPx6
import Derived.Test.YthoelihgpkffiaaXFit
namespace Go.Proofs.Ythoelihgpkffiaa.P
open Go.RowKit Go.Proofs.YthoelihgpkffiaaW.PrintWords Go.Proofs.YthoelihgpkffiaaW.PrintLast Go.Proofs.YthoelihgpkffiaaW.PrintMore
set_option linter.unusedVariables false
set_option linter.unusedSimpArgs false

theorem fits_loop (T : List Int) (K M G : Int) (l : List (List XV)) (n : Nat) (hn : n ≤ 1000000) (hT : T.length ≤ 1000000) : ∀ (d i : Nat) (acc : List (List XV)), i + d = min l.length n → acc.length = i → Ev (fun k => thresherref04_Fits.l0 k l n acc i T K M G) (acc ++ ((l.take n).drop i).map (fitRow T))
  | 0, i, acc, hi, ha => by
    refine Ev.succ ?_
    simp only [thresherref04_Fits.l0]
    have e : (l.take n).drop i = [] := List.drop_of_length_le (by simp; omega)
    rw [e]
    by_cases h : (i : Int) < l.length
    · exact Ev.pos h (Ev.neg (by omega) ((Ev.now _).eq (by simp)))
    · exact Ev.neg h ((Ev.now _).eq (by simp))
  | d + 1, i, acc, hi, ha => by
    have h1 : i < l.length := by omega
    have h2 : i < n := by omega
    refine Ev.succ ?_
    simp only [thresherref04_Fits.l0]
    have e : (l.take n).drop i = l[i] :: (l.take n).drop (i + 1) := by
      rw [List.drop_eq_getElem_cons (by simp; omega)]
      simp
    rw [rdR_lt l i h1, e]
    simp (disch := omega) only [w64]
    refine Ev.pos (by omega) (Ev.pos (by omega) (Ev.pos (by omega) (Ev.bind (fit_ev T K M G _ hT) (Ev.pos (by omega) ?_))))
    refine (fits_loop T K M G l n hn hT d (i + 1) (acc ++ [fitRow T l[i]]) (by omega) (by simp; omega)).eq ?_
    simp
theorem fits_ev (T : List Int) (K M G : Int) (l : List (List XV)) (n : Nat) (hn : n ≤ 1000000) (hT : T.length ≤ 1000000) : Ev (fun k => thresherref04_Fits.f k T K M G l n) ((l.take n).map (fitRow T)) := by
  simp only [thresherref04_Fits.f]
  exact fits_loop T K M G l n hn hT (min l.length n) 0 [] (by omega) rfl
end Go.Proofs.Ythoelihgpkffiaa.P
