/- Granules: rows cut after every so many. -/
import Derived.Test.YthoelihgpkffiaaPx2
import Derived.Test.YthoelihgpkffiaaPx10
import Derived.Test.YthoelihgpkffiaaXBase
namespace Go.Proofs.Ythoelihgpkffiaa.P
open Go.RowKit Go.Proofs.YthoelihgpkffiaaW.PrintWords Go.Proofs.YthoelihgpkffiaaW.PrintLast Go.Proofs.YthoelihgpkffiaaW.PrintMore
set_option linter.unusedVariables false
set_option linter.unusedSimpArgs false

def chunks {α : Type} (g : Nat) (l : List α) : List (List α) := if h : l = [] ∨ g = 0 then [] else l.take g :: chunks g (l.drop g)
termination_by l.length
decreasing_by
  have h1 : l ≠ [] := fun e => h (Or.inl e)
  have h2 := List.length_pos_iff.mpr h1
  rw [List.length_drop]
  omega
theorem chunks_nil {α : Type} (g : Nat) : chunks g ([] : List α) = [] := by rw [chunks]; simp
theorem chunks_step {α : Type} {g : Nat} {l : List α} (hg : 1 ≤ g) (hl : l ≠ []) : chunks g l = l.take g :: chunks g (l.drop g) := by
  rw [chunks, dif_neg]
  rintro (h | h)
  · exact hl h
  · omega
theorem chunks_length {α : Type} {g : Nat} (hg : 1 ≤ g) : ∀ (n : Nat) (l : List α), l.length ≤ n → (chunks g l).length ≤ l.length
  | 0, l, h => by rw [List.length_eq_zero_iff.mp (by omega : l.length = 0), chunks_nil]; simp
  | n + 1, l, h => by
    by_cases e : l = []
    · rw [e, chunks_nil]; simp
    · rw [chunks_step hg e]
      have h2 := List.length_pos_iff.mpr e
      have := chunks_length hg n (l.drop g) (by rw [List.length_drop]; omega)
      rw [List.length_drop] at this
      rw [List.length_cons]
      omega
theorem chunks_mem {α : Type} {g : Nat} (hg : 1 ≤ g) : ∀ (n : Nat) (l : List α), l.length ≤ n → ∀ c ∈ chunks g l, c ≠ [] ∧ c.length ≤ g ∧ ∀ x ∈ c, x ∈ l
  | 0, l, h => by rw [List.length_eq_zero_iff.mp (by omega : l.length = 0), chunks_nil]; simp
  | n + 1, l, h => by
    by_cases e : l = []
    · rw [e, chunks_nil]; simp
    · rw [chunks_step hg e]
      have h2 := List.length_pos_iff.mpr e
      intro c hc
      rcases List.mem_cons.mp hc with rfl | hc
      · refine ⟨fun h0 => ?_, by rw [List.length_take]; omega, fun x hx => List.mem_of_mem_take hx⟩
        have h3 := congrArg List.length h0
        rw [List.length_take, List.length_nil] at h3
        omega
      · obtain ⟨a1, a2, a3⟩ := chunks_mem hg n (l.drop g) (by rw [List.length_drop]; omega) c hc
        exact ⟨a1, a2, fun x hx => List.mem_of_mem_drop (a3 x hx)⟩

theorem split_loop (T : List Int) (K M : Int) (g : Nat) (hg : 1 ≤ g) (hg8 : g ≤ 1000000) (l : List (List XV)) (hl : l.length ≤ 1000000) : ∀ (d i : Nat) (acc : List (List (List XV))), l.length ≤ i + d → acc.length ≤ i → i ≤ 2000000 → Ev (fun k => grain_Split.l0 k l acc i T K M g) (acc ++ chunks g (l.drop i))
  | 0, i, acc, hi, ha, hm => by
    refine Ev.succ ?_
    simp only [grain_Split.l0]
    have e0 : chunks g (l.drop i) = [] := by rw [List.drop_of_length_le (by omega), chunks_nil]
    rw [e0]
    exact Ev.neg (by omega) ((Ev.now _).eq (by simp))
  | d + 1, i, acc, hi, ha, hm => by
    refine Ev.succ ?_
    simp only [grain_Split.l0]
    by_cases h : i < l.length
    · have em : mn ((i : Int) + (g : Int)) (l.length : Int) = ((min (i + g) l.length : Nat) : Int) := by unfold mn; split <;> omega
      simp (disch := omega) only [w64]
      rw [em]
      have ne : l.drop i ≠ [] := fun h0 => by have := congrArg List.length h0; rw [List.length_drop] at this; simp at this; omega
      have e : (l.take ((min (i + g) l.length : Nat) : Int).toNat).drop (i : Int).toNat = (l.drop i).take g := by
        simp only [Int.toNat_natCast]
        rw [List.drop_take]
        by_cases q : i + g ≤ l.length
        · rw [Nat.min_eq_left q, show i + g - i = g by omega]
        · rw [Nat.min_eq_right (by omega), List.take_of_length_le (by simp), List.take_of_length_le (by simp; omega)]
      rw [e, chunks_step hg ne, List.drop_drop]
      refine Ev.pos (by omega) (Ev.pos (by omega) (Ev.pos (by omega) (Ev.pos (by omega) (Ev.pos (by omega) ?_))))
      refine (split_loop T K M g hg hg8 l hl d (i + g) (acc ++ [(l.drop i).take g]) (by omega) (by simp; omega) (by omega)).eq ?_
      simp
    · have e0 : chunks g (l.drop i) = [] := by rw [List.drop_of_length_le (by omega), chunks_nil]
      rw [e0]
      exact Ev.neg (by omega) ((Ev.now _).eq (by simp))
theorem split_ev (T : List Int) (K M : Int) (g : Nat) (hg : 1 ≤ g) (hg8 : g ≤ 1000000) (l : List (List XV)) (hl : l.length ≤ 1000000) : Ev (fun k => grain_Split.f k T K M g l) (chunks g l) := by
  simp only [grain_Split.f]
  exact split_loop T K M g hg hg8 l hl l.length 0 [] (by omega) (by simp) (by omega)

theorem refsplit_loop (T : List Int) (K M : Int) (g : Nat) (hg : 1 ≤ g) (l : List (List XV)) (hl : l.length ≤ 1000000) : ∀ (d i : Nat) (acc : List (List (List XV))) (one : List (List XV)), i + d = l.length → acc.length ≤ i → one.length < g → one.length ≤ i → (d = 0 → one = []) → Ev (fun k => thresherref10_Split.l0 k l acc one i T K M g) (acc ++ chunks g (one ++ l.drop i))
  | 0, i, acc, one, hi, ha, h1, h3, h2 => by
    refine Ev.succ ?_
    simp only [thresherref10_Split.l0]
    rw [List.drop_of_length_le (by omega), h2 rfl, List.append_nil, chunks_nil]
    exact Ev.neg (by omega) ((Ev.now _).eq (by simp))
  | d + 1, i, acc, one, hi, ha, h1, h3, h2 => by
    have h : i < l.length := by omega
    refine Ev.succ ?_
    simp only [thresherref10_Split.l0]
    rw [rdR_lt l i h, List.drop_eq_getElem_cons h]
    simp (disch := omega) only [w64]
    have hy : (one ++ [l[i]]).length = one.length + 1 := by simp
    have ea : one ++ l[i] :: l.drop (i + 1) = (one ++ [l[i]]) ++ l.drop (i + 1) := by simp
    have ne : (one ++ [l[i]]) ++ l.drop (i + 1) ≠ [] := fun h0 => by
      have h4 := congrArg List.length h0
      rw [List.length_append, hy, List.length_nil] at h4
      omega
    refine Ev.pos (by omega) (Ev.pos (by omega) (Ev.pos (by omega) (Ev.bindc rfl ?_)))
    rw [hy, ea]
    by_cases c : one.length + 1 = g
    · refine Ev.pos (by omega) (Ev.pos (by omega) ((refsplit_loop T K M g hg l hl d (i + 1) (acc ++ [one ++ [l[i]]]) [] (by omega) (by simp; omega) (by simp; omega) (by simp) (fun _ => rfl)).eq ?_))
      rw [chunks_step hg ne, List.take_left' (by rw [hy, c]), List.drop_left' (by rw [hy, c])]
      simp
    · refine Ev.neg (by omega) ?_
      by_cases c2 : i + 1 = l.length
      · refine Ev.pos (by omega) (Ev.pos (by omega) ((refsplit_loop T K M g hg l hl d (i + 1) (acc ++ [one ++ [l[i]]]) [] (by omega) (by simp; omega) (by simp; omega) (by simp) (fun _ => rfl)).eq ?_))
        rw [chunks_step hg ne, List.drop_of_length_le (by omega : l.length ≤ i + 1), List.append_nil, List.take_of_length_le (by simp; omega), List.drop_of_length_le (by simp; omega)]
        simp [chunks_nil]
      · exact Ev.neg (by omega) (refsplit_loop T K M g hg l hl d (i + 1) acc (one ++ [l[i]]) (by omega) (by omega) (by omega) (by omega) (fun _ => by omega))
theorem refsplit_ev (T : List Int) (K M : Int) (g : Nat) (hg : 1 ≤ g) (l : List (List XV)) (hl : l.length ≤ 1000000) : Ev (fun k => thresherref10_Split.f k T K M g l) (chunks g l) := by
  simp only [thresherref10_Split.f]
  exact refsplit_loop T K M g hg l hl l.length 0 [] [] (by omega) (by simp) (by simp; omega) (by simp) (fun _ => rfl)
end Go.Proofs.Ythoelihgpkffiaa.P
