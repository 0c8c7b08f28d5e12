/- Which parts may be merged, counted for a few: the plain law, by a run over all counts. -/
import Derived.Test.YtcpdmbeilfpiiaaPx3
namespace Go.Proofs.Ytcpdmbeilfpiiaa.Pure
open Go.RowKit Go.Proofs.Ytcpdmbeilfpiiaa.P Go.Proofs.YtcpdmbeilfpiiaaW.PrintWords Go.Proofs.YtcpdmbeilfpiiaaW.PrintLast

theorem mays_all : (List.range 41).all (fun n => thresherlaw15_PickMays.f 5000 (n : Int) == some true) = true := by decide +kernel

theorem PickMays : thresherlaw15_PickMays.Pure := by
  intro a h
  have hb : 0 ≤ a ∧ a ≤ 255 := by
    simp [Lit.wf, IntKind.min, IntKind.max, IntKind.signed, IntKind.bits] at h
    omega
  obtain ⟨n, hn, e⟩ : ∃ n : Nat, n < 41 ∧ Int.tmod (wrap64 a) 41 = n := by
    refine ⟨(a % 41).toNat, by omega, ?_⟩
    have : wrap64 a = a := by unfold wrap64; omega
    rw [this, Int.tmod_eq_emod_of_nonneg hb.1]
    omega
  have h1 := List.all_eq_true.mp mays_all n (List.mem_range.mpr hn)
  have h2 : thresherlaw15_PickMays.f 5000 (n : Int) = some true := by simpa using h1
  refine ⟨5000, ?_⟩
  unfold thresherlaw15_PickMays.f at h2 ⊢
  have e2 : Int.tmod (wrap64 (n : Int)) 41 = n := by
    have : wrap64 (n : Int) = n := by unfold wrap64; omega
    rw [this, Int.tmod_eq_emod_of_nonneg (by omega)]
    omega
  rw [e2] at h2
  rw [e]
  exact h2
end Go.Proofs.Ytcpdmbeilfpiiaa.Pure
