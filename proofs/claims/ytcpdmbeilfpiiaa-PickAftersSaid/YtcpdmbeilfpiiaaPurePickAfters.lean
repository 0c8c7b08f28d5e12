/- Behind a merge there are fewer parts, the others as they were; and what is handed in stays: the plain law. -/
import Derived.Test.YtcpdmbeilfpiiaaSPickAfters
import Derived.Test.YtcpdmbeilfpiiaaHPickFns
namespace Go.Proofs.Ytcpdmbeilfpiiaa.Pure
open Go.RowKit Go.Proofs.Ytcpdmbeilfpiiaa.P Go.Proofs.YtcpdmbeilfpiiaaW.PrintWords Go.Proofs.YtcpdmbeilfpiiaaW.PrintLast
theorem shown_true : thresherlaw15_shown.f = some true := by decide
theorem few_ok (l : List Int) : ∃ f, thresherlaw15_few.f l = some f ∧ f.length ≤ 60 := by
  unfold thresherlaw15_few.f
  by_cases h : (l.length : Int) > 60
  · rw [if_pos h, if_pos (by omega)]
    exact ⟨_, rfl, by rw [List.length_take]; omega⟩
  · rw [if_neg h]
    exact ⟨_, rfl, by omega⟩
theorem after_no (l : List Int) (a b v : Int) (h : mayB l.length a b = false) : after l a b v = l := by unfold after; rw [h]; simp
theorem after_yes (l : List Int) (a b v : Int) (h : mayB l.length a b = true) : after l a b v = l.take a.toNat ++ [v] ++ l.drop b.toNat := by unfold after; rw [if_pos h]

theorem main_ok (f : List Int) (v : Int) (a b : Int) (ha : 0 ≤ a) (hab : a + 2 ≤ b) (hb : b ≤ f.length) (t : List Int) (ht : t = after f a b v) :
    t.length = f.length - (b - a).toNat + 1 ∧ rd t a = v ∧ t.take a.toNat = f.take a.toNat ∧ t.drop (a + 1).toNat = f.drop b.toNat := by
  have hm : mayB f.length a b = true := by unfold mayB; simp; omega
  rw [after_yes f a b v hm] at ht
  subst ht
  obtain ⟨p, rfl⟩ : ∃ p : Nat, a = p := ⟨a.toNat, by omega⟩
  obtain ⟨q, rfl⟩ : ∃ q : Nat, b = q := ⟨b.toNat, by omega⟩
  simp only [Int.toNat_natCast]
  have hp : (f.take p).length = p := by rw [List.length_take]; omega
  have e1 : ((p : Int) + 1).toNat = p + 1 := by omega
  refine ⟨?_, ?_, ?_, ?_⟩
  · simp only [List.length_append, hp, List.length_drop, List.length_singleton]; omega
  · unfold rd
    simp only [Int.toNat_natCast, List.append_assoc]
    rw [List.getD_eq_getElem?_getD, List.getElem?_append_right (by omega), hp]
    simp
  · rw [List.append_assoc]
    exact List.take_left' hp
  · rw [e1]
    exact List.drop_left' (by simp [hp])

theorem PickAfters : thresherlaw15_PickAfters.PureG := by
  intro l n v hl hn hv
  obtain ⟨f, hf, hlen⟩ := few_ok l
  have w0 := wf_u8 hn.1
  have w1 := wf_u8 hn.2
  apply Ev.rounds
  simp only [thresherlaw15_PickAfters.f]
  refine Ev.bindc shown_true (Ev.bindc hf (Ev.bindc rfl (Ev.pos (by simp; omega) (Ev.bindc rfl ?_))))
  by_cases h2 : f.length < 2
  · refine Ev.pos (by omega) (Ev.bind (after_ev f 0 2 v (by omega)) ?_)
    rw [after_no f 0 2 v (by unfold mayB; simp; omega)]
    exact Ev.bind (same_ev f f (by omega)) (Ev.pos rfl ((Ev.now _).eq (by simp)))
  · refine Ev.neg (by omega) ?_
    have p1 : wrap64 ((f.length : Int) - 1) = (f.length : Int) - 1 := w64 (by omega) (by omega)
    have p2 : wrap64 n.f0 = n.f0 := w64 (by omega) (by omega)
    have p3 : wrap64 n.f1 = n.f1 := w64 (by omega) (by omega)
    rw [p1, p2, p3]
    clear p1 p2 p3
    obtain ⟨a, ha⟩ : ∃ a, Int.tmod n.f0 ((f.length : Int) - 1) = a := ⟨_, rfl⟩
    rw [ha]
    have ha0 : 0 ≤ a ∧ a < (f.length : Int) - 1 := by
      rw [Int.tmod_eq_emod_of_nonneg (by omega)] at ha
      have := Int.emod_nonneg n.f0 (show (f.length : Int) - 1 ≠ 0 by omega)
      have := Int.emod_lt_of_pos n.f0 (show 0 < (f.length : Int) - 1 by omega)
      omega
    have p4 : wrap64 (wrap64 ((f.length : Int) - a) - 1) = (f.length : Int) - a - 1 := by simp (disch := omega) only [w64]
    rw [p4]
    clear p4
    obtain ⟨m, hm⟩ : ∃ m, Int.tmod n.f1 ((f.length : Int) - a - 1) = m := ⟨_, rfl⟩
    rw [hm]
    have hm0 : 0 ≤ m ∧ m < (f.length : Int) - a - 1 := by
      rw [Int.tmod_eq_emod_of_nonneg (by omega)] at hm
      have := Int.emod_nonneg n.f1 (show (f.length : Int) - a - 1 ≠ 0 by omega)
      have := Int.emod_lt_of_pos n.f1 (show 0 < (f.length : Int) - a - 1 by omega)
      omega
    have p5 : wrap64 (wrap64 (a + 2) + m) = a + 2 + m := by simp (disch := omega) only [w64]
    rw [p5]
    clear p5 ha hm
    obtain ⟨b, hb⟩ : ∃ b, a + 2 + m = b := ⟨_, rfl⟩
    rw [hb]
    refine Ev.neg (by omega) (Ev.neg (by omega) (Ev.bind (after_ev f a b v (by omega)) ?_))
    obtain ⟨t, ht⟩ : ∃ t, after f a b v = t := ⟨_, rfl⟩
    rw [ht]
    obtain ⟨q1, q2, q3, q4⟩ := main_ok f v a b (by omega) (by omega) (by omega) t ht.symm
    have p6 : wrap64 (wrap64 ((f.length : Int) - wrap64 (b - a)) + 1) = (f.length : Int) - (b - a) + 1 := by simp (disch := omega) only [w64]
    rw [p6, q2]
    clear p6
    refine Ev.pos (by omega) (Ev.pos (by omega) (Ev.pos (by omega) ?_))
    refine Ev.succ ?_
    simp only [thresherlaw15_PickAfters.j0]
    have p7 : wrap64 (a + 1) = a + 1 := w64 (by omega) (by omega)
    rw [p7, q3, q4]
    clear p7
    refine Ev.neg (by simp) (Ev.pos (by omega) (Ev.pos (by omega) (Ev.pos (by omega) (Ev.bind (same_ev _ _ (by rw [List.length_take]; omega)) (Ev.pos (by omega) (Ev.pos (by omega) (Ev.pos (by omega) (Ev.pos (by omega) (Ev.bind (same_ev _ _ (by rw [List.length_drop]; omega)) (Ev.pos (by omega) (Ev.bind (same_ev _ _ (by omega)) ?_)))))))))))
    exact Ev.pos trivial (Ev.pos (by simp) (Ev.pos (by simp) ((Ev.now _).eq (by simp))))
end Go.Proofs.Ytcpdmbeilfpiiaa.Pure
