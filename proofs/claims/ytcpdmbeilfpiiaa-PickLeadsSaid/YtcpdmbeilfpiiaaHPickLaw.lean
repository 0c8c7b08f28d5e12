/- What pick2 picks: the least two in a row, the first of them; and how far it goes on. -/
import Derived.Test.YtcpdmbeilfpiiaaHPick
import Derived.Test.YtcpdmbeilfpiiaaHBase
namespace Go.Proofs.Ytcpdmbeilfpiiaa.P
open Go.RowKit Go.Proofs.YtcpdmbeilfpiiaaW.PrintWords Go.Proofs.YtcpdmbeilfpiiaaW.PrintLast


def two (l : List Int) (i : Nat) : Int := cnt (rd l i) + cnt (rd l ((i : Int) + 1))
theorem two_hi (l : List Int) (i : Nat) : two l i ≤ 2097152 := by unfold two; have := cnt_hi (rd l i); have := cnt_hi (rd l ((i : Int) + 1)); omega
theorem two_lo (l : List Int) (i : Nat) : 0 ≤ two l i := by unfold two; have := cnt_lo (rd l i); have := cnt_lo (rd l ((i : Int) + 1)); omega
/-- (a, s) is the first of the least among the first i pairs. -/
def Best (l : List Int) (i a : Nat) (s : Int) : Prop := (∀ j, j < i → s ≤ two l j) ∧ (∀ j, j < a → s < two l j) ∧ ((i = 0 ∧ a = 0 ∧ s = 2097153) ∨ (a < i ∧ s = two l a))

theorem scan_best (l : List Int) : ∀ m i a s, Best l i a s → Best l (i + m) (scan l m i a s).1 (scan l m i a s).2
  | 0, i, a, s, h => h
  | m + 1, i, a, s, h => by
    unfold scan
    obtain ⟨h1, h2, h3⟩ := h
    have e : i + (m + 1) = (i + 1) + m := by omega
    rw [e]
    have ht : cnt (rd l i) + cnt (rd l ((i : Int) + 1)) = two l i := rfl
    rw [ht]
    split
    · rename_i hlt
      apply scan_best l m (i + 1)
      refine ⟨fun j hj => ?_, fun j hj => ?_, .inr ⟨by omega, rfl⟩⟩
      · by_cases e : j = i
        · subst e; omega
        · have := h1 j (by omega); omega
      · have := h1 j (by omega); omega
    · rename_i hge
      apply scan_best l m (i + 1)
      refine ⟨fun j hj => ?_, h2, ?_⟩
      · by_cases e : j = i
        · subst e; omega
        · exact h1 j (by omega)
      · rcases h3 with ⟨rfl, rfl, rfl⟩ | ⟨h3, h4⟩
        · have := two_hi l 0; omega
        · exact .inr ⟨by omega, h4⟩

theorem scan_all (l : List Int) (h : 2 ≤ l.length) : ∃ a s, scan l (l.length - 1) 0 0 2097153 = (a, s) ∧ a + 2 ≤ l.length ∧ s = two l a ∧ (∀ j, j + 1 < l.length → s ≤ two l j) ∧ (∀ j, j < a → s < two l j) := by
  have hb := scan_best l (l.length - 1) 0 0 2097153 ⟨fun j hj => by omega, fun j hj => by omega, .inl ⟨rfl, rfl, rfl⟩⟩
  obtain ⟨h1, h2, h3⟩ := hb
  refine ⟨_, _, rfl, ?_, ?_, fun j hj => h1 j (by omega), h2⟩
  · rcases h3 with ⟨h3, _⟩ | ⟨h3, _⟩ <;> omega
  · rcases h3 with ⟨h3, _⟩ | ⟨_, h3⟩
    · omega
    · exact h3

theorem ext_ge (l : List Int) : ∀ m t s, t ≤ ext l m t s
  | 0, t, s => Nat.le_refl _
  | m + 1, t, s => by
    unfold ext
    split
    · have := ext_ge l m (t + 1) (s + cnt (rd l t)); omega
    · omega
theorem ext_le (l : List Int) : ∀ m t s, ext l m t s ≤ t + m
  | 0, t, s => Nat.le_refl _
  | m + 1, t, s => by
    unfold ext
    split
    · have := ext_le l m (t + 1) (s + cnt (rd l t)); omega
    · omega

theorem rd_mem (l : List Int) (i : Nat) (h : i < l.length) : rd l i ∈ l := by
  unfold rd
  simp [List.getD, h]

theorem bits_low (x : Int) : 0 ≤ Go.bits .and .i64 x 1048575 ∧ Go.bits .and .i64 x 1048575 < 1048576 := by
  have h : (BitVec.ofInt 64 x &&& BitVec.ofInt 64 1048575).toNat ≤ 1048575 := by
    rw [BitVec.toNat_and]
    exact Nat.and_le_right
  have e : Go.bits .and .i64 x 1048575 = IntKind.i64.wrap ((BitVec.ofInt 64 x &&& BitVec.ofInt 64 1048575).toNat : Int) := rfl
  rw [e, IntKind.wrap_i64]
  omega
end Go.Proofs.Ytcpdmbeilfpiiaa.P
