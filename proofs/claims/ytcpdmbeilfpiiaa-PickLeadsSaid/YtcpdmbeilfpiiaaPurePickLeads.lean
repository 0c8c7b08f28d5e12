/- What is picked may be merged, as long as there are two; and from n parts at most n - 1 picks lead to one: the plain law. -/
import Derived.Test.YtcpdmbeilfpiiaaSPickLeads
import Derived.Test.YtcpdmbeilfpiiaaHPickFns
namespace Go.Proofs.Ytcpdmbeilfpiiaa.Pure
open Go.RowKit Go.Proofs.Ytcpdmbeilfpiiaa.P Go.Proofs.YtcpdmbeilfpiiaaW.PrintWords Go.Proofs.YtcpdmbeilfpiiaaW.PrintLast
theorem shown_true : thresherlaw15_shown.f = some true := by decide
theorem few_ok (l : List Int) : ∃ f, thresherlaw15_few.f l = some f ∧ f.length ≤ 60 := by
  unfold thresherlaw15_few.f
  by_cases h : (l.length : Int) > 60
  · rw [if_pos h, if_pos (by omega)]
    exact ⟨_, rfl, by rw [List.length_take]; omega⟩
  · rw [if_neg h]
    exact ⟨_, rfl, by omega⟩

/-- The sum of a stretch, whatever it is; then the merge. -/
theorem l1_ok (now : List Int) (hn : now.length ≤ 60) (n : Int) (st i : Int) (a b : Nat) (hb : b ≤ now.length)
    (hG : ∀ v, Ev (fun k => thresherlaw15_PickLeads.l0 k true (after now a b v) n (wrap64 (st + 1)) (wrap64 (i + 1))) true) (hab : a + 2 ≤ b) :
    ∀ (d : Nat) (s : Int) (c : Nat), c + d = b → Ev (fun k => thresherlaw15_PickLeads.l1 k true now n st i a b s c) true
  | 0, s, c, hc => by
    have hm : mayB now.length a b = true := by unfold mayB; simp; omega
    have e : after now a b s = now.take a ++ [s] ++ now.drop b := by unfold after; rw [if_pos hm]; simp
    have hl : (after now a b s).length = now.length - (b - a) + 1 := by
      rw [e]
      simp only [List.length_append, List.length_take, List.length_drop, List.length_singleton]; omega
    refine Ev.succ ?_
    simp only [thresherlaw15_PickLeads.l1]
    refine Ev.neg (by omega) (Ev.bind (after_ev now a b s (by omega)) ?_)
    have q : wrap64 (wrap64 ((now.length : Int) - wrap64 ((b : Int) - a)) + 1) = (now.length : Int) - (b - a) + 1 := by simp (disch := omega) only [w64]
    rw [q]
    clear q
    exact Ev.pos (by rw [hl]; omega) (hG s)
  | d + 1, s, c, hc => by
    refine Ev.succ ?_
    simp only [thresherlaw15_PickLeads.l1]
    refine Ev.pos (by omega) (Ev.pos (by omega) (Ev.pos (by omega) ?_))
    have q : wrap64 ((c : Int) + 1) = ((c + 1 : Nat) : Int) := by rw [w64 (by omega) (by omega)]; omega
    rw [q]
    clear q
    exact l1_ok now hn n st i a b hb hG hab d _ (c + 1) (by omega)

theorem done_ok (now : List Int) (n : Nat) (st : Nat) (hl : now.length = min n 1) (hst : st + now.length ≤ n) (hn : n ≤ 60) :
    (if (now.length : Int) = mn (n : Int) 1 then some (decide ((st : Int) ≤ mx (wrap64 ((n : Int) - 1)) 0)) else some false) = some true := by
  have e1 : mn (n : Int) 1 = (min n 1 : Nat) := by unfold mn; split <;> omega
  rw [e1, if_pos (by omega), w64 (by omega) (by omega)]
  congr 1
  rw [decide_eq_true_iff]
  unfold mx
  split <;> omega

theorem l0_ok (n : Nat) (hn : n ≤ 60) : ∀ (m i : Nat) (now : List Int) (st : Nat), i + m = 60 → now.length ≤ m + 1 → now.length ≤ 60 → st + now.length ≤ n → (n ≠ 0 → now.length ≠ 0) → (now.length ≤ 1 → now.length = min n 1) →
    Ev (fun k => thresherlaw15_PickLeads.l0 k true now n st i) true
  | 0, i, now, st, hi, h1, h60, hst, hz, ho => by
    refine Ev.succ ?_
    simp only [thresherlaw15_PickLeads.l0]
    refine Ev.neg (by omega) (Ev.pos trivial ?_)
    exact Ev.const (done_ok now n st (ho (by omega)) hst hn)
  | m + 1, i, now, st, hi, h1, h60, hst, hz, ho => by
    refine Ev.succ ?_
    simp only [thresherlaw15_PickLeads.l0]
    refine Ev.pos (by omega) (Ev.bindc (pick_f now (by omega)) (Ev.bindc (may_f _ _ _ (by omega)) ?_))
    by_cases h2 : now.length < 2
    · have e : pick2 now = (0, 0) := by unfold pick2; rw [if_pos h2]
      rw [e]
      have e2 : mayB now.length ((0 : Nat) : Int) ((0 : Nat) : Int) = false := by unfold mayB; simp
      have e3 : decide ((now.length : Int) ≥ 2) = false := by simp; omega
      simp only []
      rw [e2, e3]
      refine Ev.neg (by simp) (Ev.neg (by simp) (Ev.pos rfl ?_))
      refine Ev.succ ?_
      simp only [thresherlaw15_PickLeads.j1]
      refine Ev.neg (by simp) (Ev.neg (by simp) (Ev.pos trivial ?_))
      exact Ev.const (done_ok now n st (ho (by omega)) hst hn)
    · obtain ⟨a, sm, e1, ha, hs, hmin, hfst⟩ := scan_all now (by omega)
      have hle := ext_le now (now.length - (a + 2)) (a + 2) sm
      have hge := ext_ge now (now.length - (a + 2)) (a + 2) sm
      have e : pick2 now = (a, ext now (now.length - (a + 2)) (a + 2) sm) := by unfold pick2; rw [if_neg h2, e1]
      rw [e]
      obtain ⟨b, hb⟩ : ∃ b, b = ext now (now.length - (a + 2)) (a + 2) sm := ⟨_, rfl⟩
      rw [← hb] at hle hge ⊢
      simp only []
      have e2 : mayB now.length (a : Int) (b : Int) = true := by unfold mayB; simp; omega
      have e3 : decide ((now.length : Int) ≥ 2) = true := by simp; omega
      rw [e2, e3]
      refine Ev.neg (by simp) (Ev.pos rfl ?_)
      refine Ev.succ ?_
      simp only [thresherlaw15_PickLeads.j1]
      refine Ev.neg (by simp) (Ev.pos trivial ?_)
      refine l1_ok now h60 n st i a b (by omega) (fun v => ?_) (by omega) (b - a) 0 a (by omega)
      have e4 : after now a b v = now.take a ++ [v] ++ now.drop b := by unfold after; rw [if_pos e2]; simp
      have hl : (after now a b v).length = now.length - (b - a) + 1 := by
        rw [e4]
        simp only [List.length_append, List.length_take, List.length_drop, List.length_singleton]; omega
      have q1 : wrap64 ((st : Int) + 1) = ((st + 1 : Nat) : Int) := by rw [w64 (by omega) (by omega)]; omega
      have q2 : wrap64 ((i : Int) + 1) = ((i + 1 : Nat) : Int) := by rw [w64 (by omega) (by omega)]; omega
      rw [q1, q2]
      clear q1 q2
      exact l0_ok n hn m (i + 1) (after now a b v) (st + 1) (by omega) (by omega) (by omega) (by omega) (by omega) (by omega)

theorem PickLeads : thresherlaw15_PickLeads.PureG := by
  intro l hl
  obtain ⟨f, hf, hlen⟩ := few_ok l
  apply Ev.rounds
  simp only [thresherlaw15_PickLeads.f]
  refine Ev.bindc shown_true (Ev.bindc rfl (Ev.bindc hf (Ev.pos (by simp; omega) (Ev.bindc rfl ?_))))
  simp only [List.nil_append]
  exact l0_ok f.length hlen 60 0 f 0 (by omega) (by omega) hlen (by omega) (by omega) (by omega)
end Go.Proofs.Ytcpdmbeilfpiiaa.Pure
