/- The granules, the marks and the columns are as the document says: the plain law. -/
import Derived.Test.YthoelihgpkffiaaSGrainAll
import Derived.Test.YthoelihgpkffiaaXShape
import Derived.Test.YthoelihgpkffiaaXFits
import Derived.Test.YthoelihgpkffiaaXOne
import Derived.Test.YthoelihgpkffiaaXSame7
import Derived.Test.YthoelihgpkffiaaXMarks
import Derived.Test.YthoelihgpkffiaaXCol
namespace Go.Proofs.Ythoelihgpkffiaa.Pure
open Go.RowKit Go.Proofs.Ythoelihgpkffiaa.P Go.Proofs.YthoelihgpkffiaaW.PrintWords Go.Proofs.YthoelihgpkffiaaW.PrintLast
set_option linter.unusedVariables false
theorem shown_ev : Ev (fun k => thresherlaw10_shown.f k) true := Ev.of thresherlaw10_shown.mono (k := 10) (by kernel_rfl)
theorem all_loop (at_ : Int) (T : List Int) (K : Nat) (M : Int) (g : Nat) (hg : 1 ≤ g) (hg8 : g ≤ 8) (hK2 : K ≤ 8) (l : List (List XV)) (hl : l.length ≤ 60) (hr : ∀ r ∈ l, K ≤ r.length ∧ r.length ≤ 8) (cs : List (List (List XV))) (hc : cs.length ≤ 60) (hcs : ∀ c ∈ cs, c.length ≤ 60 ∧ ∀ r ∈ c, r ∈ l) : ∀ (d i : Nat), i + d = cs.length → Ev (fun k => thresherlaw10_GrainAll.l0 k at_ true l cs cs i T K M g) true
  | 0, i, hi => by
    refine Ev.succ ?_
    simp only [thresherlaw10_GrainAll.l0]
    have hm := marks_ev T K M g hg (by omega) (by omega) l (by omega) (fun r h => (hr r h).1)
    have hm2 := refmarks_ev T K M g hg (by omega) (by omega) l (by omega) (fun r h => (hr r h).1)
    have hlen := chunks_length hg l.length l (Nat.le_refl _)
    have hrow := rows_ev ((chunks g l).map (markOf K)) ((chunks g l).map (markOf K)) (by rw [List.length_map]; omega) (by
      intro r h
      obtain ⟨c, _, rfl⟩ := List.mem_map.mp h
      unfold markOf
      rw [List.length_take]
      omega)
    have hcl := colF_length at_ l []
    have hs := same7_ev (colF at_ l []) (colF at_ l []) (by simp at hcl; omega)
    refine Ev.neg (by omega) (Ev.bind hm (Ev.bind hm2 (Ev.bind hrow (Ev.bind (col_ev l at_ (by omega)) (Ev.bind (refcol_ev l at_ (by omega)) (Ev.bind hs ?_))))))
    exact Ev.pos (by simp) (Ev.pos (by simp) ((Ev.now _).eq (by simp)))
  | d + 1, i, hi => by
    have h : i < cs.length := by omega
    refine Ev.succ ?_
    simp only [thresherlaw10_GrainAll.l0]
    rw [rdRR_lt cs i h]
    simp (disch := omega) only [w64]
    obtain ⟨c1, c2⟩ := hcs _ (List.getElem_mem h)
    have hrow := rows_ev cs[i] cs[i] (by omega) (fun r hx => by have := (hr r (c2 r hx)).2; omega)
    refine Ev.pos (by omega) (Ev.pos (by omega) (Ev.pos (by omega) (Ev.bind hrow ?_)))
    exact Ev.pos (by simp) (all_loop at_ T K M g hg hg8 hK2 l hl hr cs hc hcs d (i + 1) (by omega))
theorem GrainAll : thresherlaw10_GrainAll.PureG := by
  intro x l at_ hx ⟨hl, hl2⟩ ha
  obtain ⟨T, K, M, G, hmade, hS⟩ := shape_ev hx
  obtain ⟨n, rfl⟩ : ∃ n : Nat, K = n := ⟨K.toNat, by have := hS.k1; omega⟩
  obtain ⟨g, rfl⟩ : ∃ g : Nat, G = g := ⟨G.toNat, by have := hS.g1; omega⟩
  have g1 := hS.g1
  have g8 := hS.g8
  have kn := hS.kn
  have n8 := hS.n8
  have hf := fits_ev T n M g l 60 (by omega) (by omega)
  obtain ⟨rows, hrows⟩ : ∃ rows, (l.take 60).map (fitRow T) = rows := ⟨_, rfl⟩
  rw [hrows] at hf
  have r1 : rows.length ≤ 60 := by rw [← hrows, List.length_map, List.length_take]; omega
  have r2 : ∀ r ∈ rows, n ≤ r.length ∧ r.length ≤ 8 := by
    intro r h
    rw [← hrows] at h
    obtain ⟨c, _, rfl⟩ := List.mem_map.mp h
    rw [fitRow_length]
    omega
  have hc := chunks_length (g := g) (by omega) rows.length rows (Nat.le_refl _)
  have hm := chunks_mem (g := g) (by omega) rows.length rows (Nat.le_refl _)
  apply Ev.rounds
  simp only [thresherlaw10_GrainAll.f, thresherlaw10_made.f]
  refine Ev.bind shown_ev (Ev.bind (Ev.bind hmade (Ev.now _)) (Ev.bind hf (Ev.bind (split_ev T n M g (by omega) (by omega) rows (by omega)) (Ev.bind (refsplit_ev T n M g (by omega) rows (by omega)) (Ev.pos rfl ?_)))))
  exact all_loop at_ T n M g (by omega) (by omega) (by omega) rows r1 r2 _ (by omega) (fun c h => ⟨by have := (hm c h).2.1; omega, (hm c h).2.2⟩) (chunks g rows).length 0 (by omega)
end Go.Proofs.Ythoelihgpkffiaa.Pure
