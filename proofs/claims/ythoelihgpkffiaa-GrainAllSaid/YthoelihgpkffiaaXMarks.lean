/- Marks: the key of each granule's first row. -/
import Derived.Test.YthoelihgpkffiaaPx7
import Derived.Test.YthoelihgpkffiaaPx11
import Derived.Test.YthoelihgpkffiaaXSplit
namespace Go.Proofs.Ythoelihgpkffiaa.P
open Go.RowKit Go.Proofs.YthoelihgpkffiaaW.PrintWords Go.Proofs.YthoelihgpkffiaaW.PrintLast Go.Proofs.YthoelihgpkffiaaW.PrintMore
set_option linter.unusedVariables false
set_option linter.unusedSimpArgs false

abbrev rdRR (l : List (List (List XV))) (i : Int) : List (List XV) := rd_L4 l i
theorem rdRR_lt (l : List (List (List XV))) (i : Nat) (h : i < l.length) : rd_L4 l i = l[i] := by unfold rd_L4; simp [List.getD, h]
theorem key_f (T : List Int) (K : Nat) (M G : Int) (r : List XV) (hK : K ≤ r.length) (hK2 : K ≤ 1000000) : grain_Key.f T K M G r = some (r.take K) := by
  have h1 : ([] : List XV).length + (r.take K).length < 5864062014805 := by rw [List.length_take]; simp; omega
  simp [grain_Key.f, api_Value.f]
  omega
theorem refkey_f (T : List Int) (K : Nat) (M G : Int) (r : List XV) (hK : K ≤ r.length) (hK2 : K ≤ 1000000) : thresherref10_Key.f T K M G r = some (r.take K) := by
  have h1 : ([] : List XV).length + (r.take K).length < 5864062014805 := by rw [List.length_take]; simp; omega
  simp [thresherref10_Key.f]
  omega
theorem headD_mem {c : List (List XV)} (h : c ≠ []) : c.headD [] ∈ c := by
  cases c with
  | nil => exact absurd rfl h
  | cons a b => simp
theorem rdR_head (c : List (List XV)) (h : c ≠ []) : rd_L3 c 0 = c.headD [] := by
  cases c with
  | nil => exact absurd rfl h
  | cons a b => rfl
def markOf (K : Nat) (c : List (List XV)) : List XV := (c.headD []).take K
theorem marks_loop (T : List Int) (K : Nat) (M G : Int) (hK2 : K ≤ 1000000) (cs : List (List (List XV))) (hc : cs.length ≤ 1000000) (hne : ∀ c ∈ cs, c ≠ [] ∧ ∀ r ∈ c, K ≤ r.length) : ∀ (d i : Nat) (acc : List (List XV)), i + d = cs.length → acc.length = i → Ev (fun k => grain_Marks.l0 k acc cs cs.length i T K M G) (acc ++ (cs.drop i).map (markOf K))
  | 0, i, acc, hi, ha => by
    refine Ev.succ ?_
    simp only [grain_Marks.l0]
    rw [List.drop_of_length_le (by omega)]
    exact Ev.neg (by omega) ((Ev.now _).eq (by simp))
  | d + 1, i, acc, hi, ha => by
    have h : i < cs.length := by omega
    refine Ev.succ ?_
    simp only [grain_Marks.l0]
    obtain ⟨n1, n2⟩ := hne _ (List.getElem_mem h)
    rw [rdRR_lt cs i h, List.drop_eq_getElem_cons h]
    have hp := List.length_pos_iff.mpr n1
    have e0 : rd_L3 cs[i] 0 = cs[i].headD [] := rdR_head _ n1
    have hm : cs[i].headD [] ∈ cs[i] := headD_mem n1
    rw [e0]
    simp (disch := omega) only [w64]
    refine Ev.pos (by omega) (Ev.pos (by omega) (Ev.pos (by omega) (Ev.pos (by omega) (Ev.bindc (key_f T K M G _ (n2 _ hm) hK2) (Ev.pos (by omega) ?_)))))
    refine (marks_loop T K M G hK2 cs hc hne d (i + 1) (acc ++ [(cs[i].headD []).take K]) (by omega) (by simp; omega)).eq ?_
    rw [List.map_cons, List.append_assoc]
    rfl
theorem marks_ev (T : List Int) (K : Nat) (M : Int) (g : Nat) (hg : 1 ≤ g) (hg8 : g ≤ 1000000) (hK2 : K ≤ 1000000) (l : List (List XV)) (hl : l.length ≤ 1000000) (hr : ∀ r ∈ l, K ≤ r.length) : Ev (fun k => grain_Marks.f k T K M g l) ((chunks g l).map (markOf K)) := by
  simp only [grain_Marks.f]
  have hc := chunks_length hg l.length l (Nat.le_refl _)
  have := marks_loop T K M g hK2 (chunks g l) (by omega) (fun c h => ⟨(chunks_mem hg _ l (Nat.le_refl _) c h).1, fun r hx => hr r ((chunks_mem hg _ l (Nat.le_refl _) c h).2.2 r hx)⟩) (chunks g l).length 0 [] (by omega) rfl
  exact Ev.bind (split_ev T K M g hg hg8 l hl) (by simpa using this)
/-- i is c rows behind the head of a granule. -/
theorem refmarks_loop (T : List Int) (K : Nat) (M : Int) (g : Nat) (hg : 1 ≤ g) (hg8 : g ≤ 1000000) (hK2 : K ≤ 1000000) (l : List (List XV)) (hl : l.length ≤ 1000000) (hr : ∀ r ∈ l, K ≤ r.length) : ∀ (d i c : Nat) (acc : List (List XV)), i + d = l.length → acc.length ≤ i → c < g → i % g = c → Ev (fun k => thresherref10_Marks.l0 k l acc i T K M g) (acc ++ (chunks g (l.drop (if c = 0 then i else i + (g - c)))).map (markOf K))
  | 0, i, c, acc, hi, ha, hc, hm => by
    refine Ev.succ ?_
    simp only [thresherref10_Marks.l0]
    have e : chunks g (l.drop (if c = 0 then i else i + (g - c))) = [] := by rw [List.drop_of_length_le (by split <;> omega), chunks_nil]
    rw [e]
    exact Ev.neg (by omega) ((Ev.now _).eq (by simp))
  | d + 1, i, c, acc, hi, ha, hc, hm => by
    have h : i < l.length := by omega
    refine Ev.succ ?_
    simp only [thresherref10_Marks.l0]
    have et : Int.tmod (i : Int) (g : Int) = ((i % g : Nat) : Int) := by rw [Int.tmod_eq_emod_of_nonneg (by omega)]; rfl
    rw [et, hm]
    have hn : (i + 1) % g = if c + 1 = g then 0 else c + 1 := by
      rw [Nat.add_mod, hm]
      by_cases q : c + 1 = g
      · rw [if_pos q]
        by_cases q1 : g = 1
        · subst q1; exact Nat.mod_one _
        · rw [Nat.mod_eq_of_lt (by omega : 1 < g), q, Nat.mod_self]
      · rw [if_neg q, Nat.mod_eq_of_lt (by omega : 1 < g), Nat.mod_eq_of_lt (by omega)]
    simp (disch := omega) only [w64]
    refine Ev.pos (by omega) (Ev.neg (by omega) ?_)
    by_cases c0 : c = 0
    · subst c0
      rw [if_pos rfl, rdR_lt l i h]
      have ne : l.drop i ≠ [] := fun h0 => by have h4 := congrArg List.length h0; rw [List.length_drop, List.length_nil] at h4; omega
      refine Ev.pos (by omega) (Ev.pos (by omega) (Ev.bindc (refkey_f T K M g _ (hr _ (List.getElem_mem h)) hK2) (Ev.pos (by omega) ?_)))
      refine (refmarks_loop T K M g hg hg8 hK2 l hl hr d (i + 1) (if 0 + 1 = g then 0 else 0 + 1) (acc ++ [l[i].take K]) (by omega) (by simp; omega) (by split <;> omega) hn).eq ?_
      rw [chunks_step hg ne, List.drop_drop]
      have e1 : (if (if 0 + 1 = g then 0 else 0 + 1) = 0 then i + 1 else i + 1 + (g - (if 0 + 1 = g then 0 else 0 + 1))) = i + g := by
        by_cases q : 0 + 1 = g
        · rw [if_pos q, if_pos rfl]; omega
        · rw [if_neg q, if_neg (by omega)]; omega
      have e2 : markOf K ((l.drop i).take g) = l[i].take K := by
        rw [List.drop_eq_getElem_cons h, show g = (g - 1) + 1 by omega, List.take_succ_cons]
        rfl
      rw [e1, List.map_cons, e2]
      simp
    · rw [if_neg c0]
      refine Ev.neg (by omega) ?_
      refine (refmarks_loop T K M g hg hg8 hK2 l hl hr d (i + 1) (if c + 1 = g then 0 else c + 1) acc (by omega) (by omega) (by split <;> omega) hn).eq ?_
      have e1 : (if (if c + 1 = g then 0 else c + 1) = 0 then i + 1 else i + 1 + (g - (if c + 1 = g then 0 else c + 1))) = i + (g - c) := by
        by_cases q : c + 1 = g
        · rw [if_pos q, if_pos rfl]; omega
        · rw [if_neg q, if_neg (by omega)]; omega
      rw [e1]
theorem refmarks_ev (T : List Int) (K : Nat) (M : Int) (g : Nat) (hg : 1 ≤ g) (hg8 : g ≤ 1000000) (hK2 : K ≤ 1000000) (l : List (List XV)) (hl : l.length ≤ 1000000) (hr : ∀ r ∈ l, K ≤ r.length) : Ev (fun k => thresherref10_Marks.f k T K M g l) ((chunks g l).map (markOf K)) := by
  simp only [thresherref10_Marks.f]
  have := refmarks_loop T K M g hg hg8 hK2 l hl hr l.length 0 0 [] (by omega) (by simp) (by omega) (Nat.zero_mod _)
  simpa using this
end Go.Proofs.Ythoelihgpkffiaa.P
