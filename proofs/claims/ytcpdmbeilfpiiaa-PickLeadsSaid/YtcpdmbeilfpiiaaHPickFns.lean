/- What pick's functions and the document's tell, in plain words. -/
import Derived.Test.YtcpdmbeilfpiiaaPx4
import Derived.Test.YtcpdmbeilfpiiaaPx5
import Derived.Test.YtcpdmbeilfpiiaaPx6
import Derived.Test.YtcpdmbeilfpiiaaHPickLaw
namespace Go.Proofs.Ytcpdmbeilfpiiaa.P
open Go.RowKit Go.Proofs.YtcpdmbeilfpiiaaW.PrintWords Go.Proofs.YtcpdmbeilfpiiaaW.PrintLast

theorem rd_eq (l : List Int) (i : Nat) (h : i < l.length) : rd l i = l[i] := by
  unfold rd
  simp [List.getD, h]

theorem same_loop (a b : List Int) (hl : a.length = b.length) (hb : a.length ≤ 1000000000) : ∀ (d i : Nat), i + d = a.length → Ev (fun k => thresherref15_Same.l0 k a b i) (decide (a.drop i = b.drop i))
  | 0, i, hi => by
    refine Ev.succ ?_
    simp only [thresherref15_Same.l0]
    refine Ev.neg (by omega) ((Ev.now _).eq ?_)
    rw [List.drop_of_length_le (by omega), List.drop_of_length_le (by omega)]
    simp
  | d + 1, i, hi => by
    have h1 : i < a.length := by omega
    have h2 : i < b.length := by omega
    refine Ev.succ ?_
    simp only [thresherref15_Same.l0]
    simp (disch := omega) only [w64]
    rw [rd_eq a i h1, rd_eq b i h2]
    rw [List.drop_eq_getElem_cons h1, List.drop_eq_getElem_cons h2]
    refine Ev.pos (by omega) (Ev.pos (by omega) (Ev.pos (by omega) ?_))
    by_cases e : a[i] = b[i]
    · refine Ev.pos e ((same_loop a b hl hb d (i + 1) (by omega)).eq ?_)
      rw [e]
      exact decide_eq_decide.mpr ⟨fun h => by rw [h], fun h => (List.cons.inj h).2⟩
    · refine Ev.neg e ((Ev.now _).eq ?_)
      symm
      rw [decide_eq_false_iff_not]
      intro h
      exact e (List.cons.inj h).1

theorem same_ev (a b : List Int) (hb : a.length ≤ 1000000000) : Ev (fun k => thresherref15_Same.f k a b) (decide (a = b)) := by
  simp only [thresherref15_Same.f]
  by_cases hl : a.length = b.length
  · refine Ev.pos (by omega) ?_
    have := same_loop a b hl hb a.length 0 (by omega)
    simpa using this
  · refine Ev.neg (by omega) ((Ev.now _).eq ?_)
    symm
    rw [decide_eq_false_iff_not]
    rintro rfl
    exact hl rfl

def mayB (n a b : Int) : Bool := decide (0 ≤ a ∧ b ≤ n ∧ a + 2 ≤ b)
theorem may_f (n a b : Int) (hn : n ≤ 9223372036854775807) : pick_May.f n a b = some (mayB n a b) := by
  unfold pick_May.f mayB
  by_cases h1 : a ≥ 0
  · rw [if_pos h1]
    by_cases h2 : b ≤ n
    · rw [if_pos h2]
      by_cases h3 : a < b
      · rw [if_pos h3, w64 (by omega) (by omega)]
        congr 1
        rw [decide_eq_decide]
        omega
      · rw [if_neg h3]
        congr 1
        symm; rw [decide_eq_false_iff_not]; omega
    · rw [if_neg h2]
      congr 1
      symm; rw [decide_eq_false_iff_not]; omega
  · rw [if_neg h1]
    congr 1
    symm; rw [decide_eq_false_iff_not]; omega
theorem refmay_f (n a b : Int) (hn : n ≤ 9223372036854775807) : thresherref15_May.f n a b = some (mayB n a b) := by
  unfold thresherref15_May.f mayB
  by_cases h1 : a ≥ 0
  · rw [if_pos h1]
    by_cases h2 : b ≤ n
    · rw [if_pos h2]
      by_cases h3 : a ≤ n
      · rw [if_pos h3]
        by_cases h4 : b ≥ 2
        · rw [if_pos h4, w64 (by omega) (by omega)]
          congr 1
          rw [decide_eq_decide]
          omega
        · rw [if_neg h4]
          congr 1
          symm; rw [decide_eq_false_iff_not]; omega
      · rw [if_neg h3]
        congr 1
        symm; rw [decide_eq_false_iff_not]; omega
    · rw [if_neg h2]
      congr 1
      symm; rw [decide_eq_false_iff_not]; omega
  · rw [if_neg h1]
    congr 1
    symm; rw [decide_eq_false_iff_not]; omega

def after (l : List Int) (a b v : Int) : List Int := if mayB l.length a b = true then l.take a.toNat ++ [v] ++ l.drop b.toNat else l

theorem concat3 (x y z : List Int) (hx : x.length ≤ 1000000) (hy : y.length ≤ 1000000) (hz : z.length ≤ 1000000) : Ev (fun k => slices_Concat_int_int.f k [x, y, z]) (x ++ y ++ z) := by
  simp only [slices_Concat_int_int.f]
  have r0 : rd_L1 [x, y, z] 0 = x := rfl
  have r1 : rd_L1 [x, y, z] 1 = y := rfl
  have r2 : rd_L1 [x, y, z] 2 = z := rfl
  have e3 : (([x, y, z] : List (List Int)).length : Int) = 3 := rfl
  rw [e3]
  refine Ev.succ ?_
  simp only [slices_Concat_int_int.l0, r0, e3]
  simp (disch := omega) only [w64, Int.zero_add]
  refine Ev.pos (by omega) (Ev.pos (by omega) (Ev.pos (by omega) (Ev.neg (by omega) ?_)))
  refine Ev.succ ?_
  simp only [slices_Concat_int_int.l0, r1, e3]
  simp (disch := omega) only [w64]
  refine Ev.pos (by omega) (Ev.pos (by omega) (Ev.pos (by omega) (Ev.neg (by omega) ?_)))
  refine Ev.succ ?_
  simp only [slices_Concat_int_int.l0, show (1 : Int) + 1 = 2 from rfl, r2, e3]
  simp (disch := omega) only [w64]
  refine Ev.pos (by omega) (Ev.pos (by omega) (Ev.pos (by omega) (Ev.neg (by omega) ?_)))
  refine Ev.succ ?_
  simp only [slices_Concat_int_int.l0, show (2 : Int) + 1 = 3 from rfl, e3]
  refine Ev.neg (by omega) ?_
  have hg : slices_Grow_int_int.f [] ((x.length : Int) + y.length + z.length) = some [] := by
    unfold slices_Grow_int_int.f
    rw [if_pos ⟨rfl, by omega, by omega⟩]
  refine Ev.bindc hg ?_
  refine Ev.succ ?_
  simp only [slices_Concat_int_int.l1, r0, e3]
  simp (disch := omega) only [w64, Int.zero_add]
  refine Ev.pos (by omega) (Ev.pos (by omega) (Ev.pos (by omega) (Ev.pos (by simp; omega) ?_)))
  refine Ev.succ ?_
  simp only [slices_Concat_int_int.l1, r1, e3]
  simp (disch := omega) only [w64]
  refine Ev.pos (by omega) (Ev.pos (by omega) (Ev.pos (by omega) (Ev.pos (by simp; omega) ?_)))
  refine Ev.succ ?_
  simp only [slices_Concat_int_int.l1, show (1 : Int) + 1 = 2 from rfl, r2, e3]
  simp (disch := omega) only [w64]
  refine Ev.pos (by omega) (Ev.pos (by omega) (Ev.pos (by omega) (Ev.pos (by simp; omega) ?_)))
  refine Ev.succ ?_
  simp only [slices_Concat_int_int.l1, show (2 : Int) + 1 = 3 from rfl, e3]
  exact Ev.neg (by omega) ((Ev.now _).eq (by simp))

theorem after_ev (l : List Int) (a b v : Int) (hl : l.length ≤ 1000000) : Ev (fun k => pick_After.f k l a b v) (after l a b v) := by
  simp only [pick_After.f]
  refine Ev.bindc (may_f _ a b (by omega)) ?_
  unfold after
  by_cases h : mayB l.length a b = true
  · have h' := h
    unfold mayB at h'
    simp at h'
    rw [if_pos h]
    refine Ev.pos h (Ev.pos (by omega) (Ev.pos (by omega) (Ev.pos (by omega) (Ev.pos (by omega) ?_))))
    exact Ev.bind (concat3 _ _ _ (by rw [List.length_take]; omega) (by simp) (by rw [List.length_drop]; omega)) (Ev.now _)
  · rw [if_neg h]
    refine Ev.neg h (Ev.bindc (a := l) ?_ (Ev.now _))
    unfold slices_Clone_int_int.f
    simp
    omega

theorem refafter_f (l : List Int) (a b v : Int) (hl : l.length ≤ 1000000) : thresherref15_After.f l a b v = some (after l a b v) := by
  unfold thresherref15_After.f after
  rw [refmay_f _ a b (by omega)]
  simp only [Option.bind_some]
  by_cases h : mayB l.length a b = true
  · have h' := h
    unfold mayB at h'
    simp at h'
    rw [if_pos h, if_pos h, if_pos (by omega), if_pos (by omega), if_pos (by simp; omega), if_pos (by simp; omega), if_pos (by omega), if_pos (by omega), if_pos (by simp; omega)]
    simp
  · rw [if_neg h, if_neg h, if_pos (by simp; omega)]
    simp

theorem size_f (x : Int) : thresherref15_size.f x = some (cnt x) := rfl

theorem refext_ev (l : List Int) (hl : l.length ≤ 1000000) (a : Int) : ∀ (m i : Nat) (s : Int), i + m = l.length → 0 ≤ s → s ≤ 2097153 + 1048576 * (i : Int) →
    Ev (fun k => thresherref15_Pick.l1 k l a s i) (a, ((ext l m i s : Nat) : Int))
  | 0, i, s, hi, h0, h1 => by
    refine Ev.succ ?_
    simp only [thresherref15_Pick.l1]
    exact Ev.neg (by omega) (Ev.now _)
  | m + 1, i, s, hi, h0, h1 => by
    have c1 := cnt_lo (rd l i)
    have c2 := cnt_hi (rd l i)
    refine Ev.succ ?_
    simp only [thresherref15_Pick.l1]
    refine Ev.pos (by omega) (Ev.pos (by omega) (Ev.bindc (size_f _) ?_))
    unfold ext
    by_cases hc : cnt (rd l i) ≤ s
    · rw [if_pos hc]
      refine Ev.pos hc (Ev.bindc (size_f _) ?_)
      simp (disch := omega) only [w64]
      exact refext_ev l hl a m (i + 1) (s + cnt (rd l i)) (by omega) (by omega) (by omega)
    · rw [if_neg hc]
      exact Ev.neg hc (Ev.now _)

theorem refscan_ev (l : List Int) (hl : l.length ≤ 1000000) : ∀ (m i a : Nat), i + m + 1 = l.length → a + 1 < l.length →
    Ev (fun k => thresherref15_Pick.l0 k l a i) (((scan l m i a (two l a)).1 : Int), ((ext l (l.length - ((scan l m i a (two l a)).1 + 2)) ((scan l m i a (two l a)).1 + 2) (scan l m i a (two l a)).2 : Nat) : Int))
  | 0, i, a, hi, ha => by
    have t0 := two_lo l a
    have t1 := two_hi l a
    refine Ev.succ ?_
    simp only [thresherref15_Pick.l0, scan]
    simp (disch := omega) only [w64]
    refine Ev.neg (by omega) (Ev.pos (by omega) (Ev.pos (by omega) (Ev.bindc (size_f _) (Ev.pos (by omega) (Ev.pos (by omega) (Ev.bindc (size_f _) ?_))))))
    rw [show cnt (rd l a) + cnt (rd l ((a : Int) + 1)) = two l a from rfl]
    simp (disch := omega) only [w64]
    exact refext_ev l hl a (l.length - (a + 2)) (a + 2) (two l a) (by omega) t0 (by omega)
  | m + 1, i, a, hi, ha => by
    have t0 := two_lo l a
    have t1 := two_hi l a
    have s0 := two_lo l i
    have s1 := two_hi l i
    refine Ev.succ ?_
    simp only [thresherref15_Pick.l0]
    simp (disch := omega) only [w64]
    refine Ev.pos (by omega) (Ev.pos (by omega) (Ev.pos (by omega) (Ev.bindc (size_f _) (Ev.pos (by omega) (Ev.bindc (size_f _) (Ev.pos (by omega) (Ev.pos (by omega) (Ev.bindc (size_f _) (Ev.pos (by omega) (Ev.pos (by omega) (Ev.bindc (size_f _) ?_)))))))))))
    rw [show cnt (rd l a) + cnt (rd l ((a : Int) + 1)) = two l a from rfl, show cnt (rd l i) + cnt (rd l ((i : Int) + 1)) = two l i from rfl]
    simp (disch := omega) only [w64]
    by_cases hc : two l i < two l a
    · have e : scan l (m + 1) i a (two l a) = scan l m (i + 1) i (two l i) := by rw [scan]; exact if_pos hc
      rw [e]
      exact Ev.pos hc (refscan_ev l hl m (i + 1) i (by omega) (by omega))
    · have e : scan l (m + 1) i a (two l a) = scan l m (i + 1) a (two l a) := by rw [scan]; exact if_neg hc
      rw [e]
      exact Ev.neg hc (refscan_ev l hl m (i + 1) a (by omega) ha)

theorem refpick_ev (l : List Int) (hl : l.length ≤ 1000000) : Ev (fun k => thresherref15_Pick.f k l) (((pick2 l).1 : Int), ((pick2 l).2 : Int)) := by
  simp only [thresherref15_Pick.f]
  by_cases h : l.length < 2
  · refine Ev.pos (by omega) ((Ev.now _).eq ?_)
    unfold pick2
    rw [if_pos h]
    rfl
  · refine Ev.neg (by omega) ?_
    unfold pick2
    rw [if_neg h]
    obtain ⟨n, hn⟩ : ∃ n, l.length = n + 2 := ⟨l.length - 2, by omega⟩
    have e : scan l (l.length - 1) 0 0 2097153 = scan l (l.length - 1) 0 0 (two l 0) := by
      rw [hn, show n + 2 - 1 = n + 1 by omega, scan, scan]
      have t1 := two_hi l 0
      have q : cnt (rd l ((0 : Nat) : Int)) + cnt (rd l (((0 : Nat) : Int) + 1)) = two l 0 := rfl
      rw [q, if_pos (by omega), if_neg (by omega)]
    rw [e]
    exact refscan_ev l hl (l.length - 1) 0 0 (by omega) (by omega)
theorem pick_f (l : List Int) (hl : l.length ≤ 1000000) : pick_Pick.f l = some (((pick2 l).1 : Int), ((pick2 l).2 : Int)) := by unfold pick_Pick.f; rw [if_pos hl]
end Go.Proofs.Ytcpdmbeilfpiiaa.P
