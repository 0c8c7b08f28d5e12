/- Which parts may be merged, which are picked, and how many rows parts have then, is as the document says: the plain law. -/
import Derived.Test.YtcpdmbeilfpiiaaSPickAll
import Derived.Test.YtcpdmbeilfpiiaaHPickFns
namespace Go.Proofs.Ytcpdmbeilfpiiaa.Pure
open Go.RowKit Go.Proofs.Ytcpdmbeilfpiiaa.P Go.Proofs.YtcpdmbeilfpiiaaW.PrintWords Go.Proofs.YtcpdmbeilfpiiaaW.PrintLast
theorem shown_true : thresherlaw15_shown.f = some true := by decide
theorem few_ok (l : List Int) : ∃ f, thresherlaw15_few.f l = some f ∧ f.length ≤ 60 := by
  unfold thresherlaw15_few.f
  by_cases h : (l.length : Int) > 60
  · rw [if_pos h, if_pos (by omega)]
    exact ⟨_, rfl, by rw [List.length_take]; omega⟩
  · rw [if_neg h]
    exact ⟨_, rfl, by omega⟩
theorem after_len (l : List Int) (a b v : Int) (hl : l.length ≤ 60) : (after l a b v).length ≤ 200 := by
  unfold after
  split
  · simp only [List.length_append, List.length_take, List.length_drop, List.length_singleton]; omega
  · omega
theorem PickAll : thresherlaw15_PickAll.PureG := by
  intro l n hl hn
  obtain ⟨f, hf, hlen⟩ := few_ok l
  have w2 := (wf_i64 hn.2.2).2
  apply Ev.rounds
  simp only [thresherlaw15_PickAll.f]
  refine Ev.bindc shown_true (Ev.bindc hf (Ev.bindc (pick_f f (by omega)) (Ev.bind (refpick_ev f (by omega)) (Ev.bind (after_ev f _ _ _ (by omega)) (Ev.bindc (refafter_f f _ _ _ (by omega)) (Ev.bind (same_ev _ _ (by have := after_len f n.f0 n.f1 n.f2 hlen; omega)) ?_))))))
  refine Ev.pos rfl (Ev.pos rfl (Ev.pos rfl (Ev.pos (by simp) (Ev.bindc (may_f _ _ _ w2) (Ev.bindc (refmay_f _ _ _ w2) ((Ev.now _).eq (by simp)))))))
end Go.Proofs.Ytcpdmbeilfpiiaa.Pure
