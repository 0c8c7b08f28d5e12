/- What is picked: no two in a row have less together, and what is taken behind is not more than what was taken ahead: the plain law. -/
import Derived.Test.YtcpdmbeilfpiiaaSPickLeast
import Derived.Test.YtcpdmbeilfpiiaaHPickLaw
namespace Go.Proofs.Ytcpdmbeilfpiiaa.Pure
open Go.RowKit Go.Proofs.Ytcpdmbeilfpiiaa.P Go.Proofs.YtcpdmbeilfpiiaaW.PrintWords Go.Proofs.YtcpdmbeilfpiiaaW.PrintLast

theorem shown_true : thresherlaw15_shown.f = some true := by decide

section
variable (s : List Int) (hv : ∀ x ∈ s, 0 ≤ x ∧ x < 1048576) (hn : s.length ≤ 60)
include hv hn

omit hn in
theorem rd_bd (i : Nat) (h : i < s.length) : 0 ≤ rd s i ∧ rd s i < 1048576 := hv _ (rd_mem s i h)
omit hn in
theorem cnt_rd (i : Nat) (h : i < s.length) : cnt (rd s i) = rd s i := by
  have := rd_bd s hv i h
  exact cnt_mem _ this.1 this.2

set_option maxHeartbeats 1000000 in
theorem l2_ok : ∀ (m i : Nat) (sum : Int), i + m = s.length → 0 ≤ sum → sum ≤ 1048576 * ((i : Int) + 2) → ∀ t : Nat, t = ext s m i sum →
    Ev (fun k => thresherlaw15_PickLeast.l2 k true s t sum i) true
  | 0, i, sum, hi, h0, h1, t, ht => by
    have ht' : t = i := ht
    clear ht
    subst ht'
    refine Ev.succ ?_
    simp only [thresherlaw15_PickLeast.l2]
    refine Ev.neg (by omega) (Ev.pos trivial (Ev.pos (by omega) (Ev.now _)))
  | m + 1, i, sum, hi, h0, h1, t, ht => by
    have hil : i < s.length := by omega
    have hb := rd_bd s hv i hil
    have hc := cnt_rd s hv i hil
    refine Ev.succ ?_
    simp only [thresherlaw15_PickLeast.l2]
    by_cases hle : rd s i ≤ sum
    · have ht2 : t = ext s m (i + 1) (sum + rd s i) := by rw [ht, ext, hc, if_pos hle]
      have hge := ext_ge s m (i + 1) (sum + rd s i)
      clear ht
      rw [← ht2] at hge
      refine Ev.pos (by omega) (Ev.pos (by omega) (Ev.pos (by omega) (Ev.neg (by omega) ?_)))
      simp (disch := omega) only [w64]
      exact l2_ok m (i + 1) (sum + rd s i) (by omega) (by omega) (by omega) t ht2
    · have ht2 : t = i := by rw [ht, ext, hc, if_neg hle]
      clear ht
      subst ht2
      refine Ev.neg (by omega) (Ev.pos trivial (Ev.neg (by omega) (Ev.pos (by omega) (Ev.pos (by omega) ?_))))
      exact (Ev.now _).eq (by simp; omega)

set_option maxHeartbeats 1000000 in
theorem l1_ok (a : Nat) (t : Nat) (sum : Int) (ha : a + 2 ≤ s.length) (hs : sum = rd s a + rd s ((a : Int) + 1)) (hmin : ∀ j, j + 1 < s.length → sum ≤ two s j) (hfst : ∀ j, j < a → sum < two s j)
    (ht : t = ext s (s.length - (a + 2)) (a + 2) sum) : ∀ (d i : Nat), i + d + 1 = s.length →
    Ev (fun k => thresherlaw15_PickLeast.l1 k true s a t sum i) true
  | 0, i, hi => by
    have hb1 := rd_bd s hv a (by omega)
    have hb2 := rd_bd s hv (a + 1) (by omega)
    rw [show ((a + 1 : Nat) : Int) = (a : Int) + 1 by omega] at hb2
    refine Ev.succ ?_
    simp only [thresherlaw15_PickLeast.l1]
    simp (disch := omega) only [w64]
    refine Ev.neg (by omega) ?_
    have Q := l2_ok s hv hn (s.length - (a + 2)) (a + 2) sum (by omega) (by omega) (by omega) t ht
    exact Q
  | d + 1, i, hi => by
    have hb1 := rd_bd s hv i (by omega)
    have hb2 := rd_bd s hv (i + 1) (by omega)
    have c1 := cnt_rd s hv i (by omega)
    have c2 := cnt_rd s hv (i + 1) (by omega)
    rw [show ((i + 1 : Nat) : Int) = (i : Int) + 1 by omega] at hb2 c2
    have h2 : two s i = rd s i + rd s ((i : Int) + 1) := by unfold two; rw [c1, c2]
    have hm := hmin i (by omega)
    refine Ev.succ ?_
    simp only [thresherlaw15_PickLeast.l1]
    simp (disch := omega) only [w64]
    refine Ev.pos (by omega) (Ev.pos (by omega) (Ev.pos (by omega) (Ev.pos (by omega) (Ev.neg (by omega) ?_))))
    have hrec : Ev (fun k => thresherlaw15_PickLeast.j3 k true s a t sum i false) true := by
      refine Ev.succ ?_
      simp only [thresherlaw15_PickLeast.j3]
      refine Ev.neg (by simp) ?_
      simp (disch := omega) only [w64]
      exact l1_ok a t sum ha hs hmin hfst ht d (i + 1) (by omega)
    by_cases hia : i < a
    · have := hfst i hia
      refine Ev.pos (by omega) ?_
      have e4 : (rd s i + rd s ((i : Int) + 1) == sum) = false := by simp; omega
      rw [e4]
      exact hrec
    · exact Ev.neg (by omega) hrec

set_option maxHeartbeats 1000000 in
theorem end_ok (f : List Int) (i : Int) (hi : i = f.length) : Ev (fun k => thresherlaw15_PickLeast.l0 k f true s i) true := by
  refine Ev.succ ?_
  simp only [thresherlaw15_PickLeast.l0]
  refine Ev.neg (by omega) ?_
  have hp : pick_Pick.f s = some (((pick2 s).1 : Int), ((pick2 s).2 : Int)) := by unfold pick_Pick.f; rw [if_pos (by omega)]
  refine Ev.bindc hp ?_
  by_cases hlt : s.length < 2
  · have e : pick2 s = (0, 0) := by unfold pick2; rw [if_pos hlt]
    rw [e]
    exact Ev.pos (by omega) (Ev.pos trivial (Ev.pos rfl (Ev.now _)))
  · obtain ⟨a, sm, e1, ha, hs, hmin, hfst⟩ := scan_all s (by omega)
    have e : pick2 s = (a, ext s (s.length - (a + 2)) (a + 2) sm) := by unfold pick2; rw [if_neg hlt, e1]
    rw [e]
    have hle := ext_le s (s.length - (a + 2)) (a + 2) sm
    have hge := ext_ge s (s.length - (a + 2)) (a + 2) sm
    obtain ⟨t, ht⟩ : ∃ t, t = ext s (s.length - (a + 2)) (a + 2) sm := ⟨_, rfl⟩
    rw [← ht] at hle hge ⊢
    simp only []
    have hb1 := rd_bd s hv a (by omega)
    have hb2 := rd_bd s hv (a + 1) (by omega)
    have c1 := cnt_rd s hv a (by omega)
    have c2 := cnt_rd s hv (a + 1) (by omega)
    rw [show ((a + 1 : Nat) : Int) = (a : Int) + 1 by omega] at hb2 c2
    have h2 : two s a = rd s a + rd s ((a : Int) + 1) := by unfold two; rw [c1, c2]
    refine Ev.neg (by omega) (Ev.neg (by omega) (Ev.neg (by omega) ?_))
    rw [show decide (wrap64 ((t : Int) - (a : Int)) < 2) = false by rw [w64 (by omega) (by omega)]; simp; omega]
    refine Ev.succ ?_
    simp only [thresherlaw15_PickLeast.j1]
    simp (disch := omega) only [w64]
    refine Ev.neg (by simp) (Ev.pos (by omega) (Ev.pos (by omega) (Ev.pos (by omega) (Ev.pos (by omega) ?_))))
    have hs2 : rd s a + rd s ((a : Int) + 1) = sm := by omega
    rw [hs2]
    exact l1_ok s hv hn a t sm ha hs2.symm hmin hfst ht (s.length - 1) 0 (by omega)
end

theorem l0_ok (f : List Int) (hf : f.length ≤ 60) : ∀ (d i : Nat) (s : List Int), i + d = f.length → s.length = i → (∀ x ∈ s, 0 ≤ x ∧ x < 1048576) →
    Ev (fun k => thresherlaw15_PickLeast.l0 k f true s i) true
  | 0, i, s, hi, hs, hv => end_ok s hv (by omega) f i (by omega)
  | d + 1, i, s, hi, hs, hv => by
    refine Ev.succ ?_
    simp only [thresherlaw15_PickLeast.l0]
    refine Ev.pos (by omega) (Ev.pos (by omega) (Ev.pos (by omega) ?_))
    simp (disch := omega) only [w64]
    refine l0_ok f hf d (i + 1) _ (by omega) (by simp [hs]) ?_
    intro x hx
    rcases List.mem_append.1 hx with hx | hx
    · exact hv x hx
    · rw [List.mem_singleton.1 hx]
      exact bits_low _

theorem few_ok (l : List Int) : ∃ f, thresherlaw15_few.f l = some f ∧ f.length ≤ 60 := by
  unfold thresherlaw15_few.f
  by_cases h : (l.length : Int) > 60
  · rw [if_pos h, if_pos (by omega)]
    exact ⟨_, rfl, by rw [List.length_take]; omega⟩
  · rw [if_neg h]
    exact ⟨_, rfl, by omega⟩

theorem PickLeast : thresherlaw15_PickLeast.PureG := by
  intro l hl
  obtain ⟨f, hf, hlen⟩ := few_ok l
  unfold thresherlaw15_PickLeast.f
  rw [shown_true, hf]
  simp only [Option.bind_some]
  exact Ev.rounds (l0_ok f hlen f.length 0 [] (by omega) rfl (fun x hx => by cases hx))
end Go.Proofs.Ytcpdmbeilfpiiaa.Pure
