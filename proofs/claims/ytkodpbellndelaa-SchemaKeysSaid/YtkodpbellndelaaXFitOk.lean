/- A row made to fit fits. -/
import Derived.Test.YtkodpbellndelaaXOrd
namespace Go.Proofs.Ytkodpbellndelaa.P
open Go.RowKit Go.Proofs.YtkodpbellndelaaW.PrintWords Go.Proofs.YtkodpbellndelaaW.PrintLast Go.Proofs.YtkodpbellndelaaW.PrintMore
set_option linter.unusedVariables false
set_option linter.unusedSimpArgs false

theorem rdV_of (P : XV → Prop) (r : List XV) (h0 : P ⟨0, ⟨#[]⟩⟩) (h : ∀ v ∈ r, P v) (i : Nat) : P (rdV r i) := by
  by_cases hi : i < r.length
  · show P (rd_T34 r i)
    rw [rdV_lt r i hi]
    exact h _ (List.getElem_mem hi)
  · show P (rd_T34 r i)
    rw [rdV_ge r i (by omega)]
    exact h0
theorem fit1_GV (t : Int) (v : XV) (h : GV v) : GV (fit1 t v) := by
  unfold fit1
  split
  · exact ⟨by simp, by simp⟩
  · exact h
theorem fitRow_at {T : List Int} {K M G : Int} (hS : Sch T K M G) (r : List XV) (hr : ∀ v ∈ r, GV v) (m : Nat) (hm : m ≤ T.length) : FitAt T (fitRow T r) m 0 := by
  intro j _ hj
  rw [rdV_fitRow T r j (by omega)]
  obtain ⟨h1, h2⟩ := hS.rdt j (by omega)
  exact ⟨fitT_fit1 _ _ h1 h2, fit1_GV _ _ (rdV_of GV r ⟨by simp, by simp⟩ hr j)⟩
theorem cmpFrom_congr (T : List Int) (a b c : List XV) : ∀ m i, (∀ j : Nat, i ≤ j → j < i + m → rdV a j = rdV b j) → cmpFrom T a c m i = cmpFrom T b c m i
  | 0, i, h => rfl
  | m + 1, i, h => by
    unfold cmpFrom
    rw [h i (by omega) (by omega), cmpFrom_congr T a b c m (i + 1) (fun j h1 h2 => h j (by omega) (by omega))]
theorem rdV_take (r : List XV) (n j : Nat) (h : j < n) : rdV (r.take n) j = rdV r j := by
  show rd_T34 _ _ = rd_T34 _ _
  by_cases hi : j < r.length
  · rw [rdV_lt _ j (by rw [List.length_take]; omega), rdV_lt r j hi, List.getElem_take]
  · rw [rdV_ge _ j (by rw [List.length_take]; omega), rdV_ge r j (by omega)]
theorem cmpFrom_self (T : List Int) (a b : List XV) : ∀ m i, (∀ j : Nat, i ≤ j → j < i + m → rdV a j = rdV b j) → (∀ j : Nat, i ≤ j → j < i + m → cmpV (rd T j) (rdV a j) (rdV a j) = 0) → cmpFrom T a b m i = 0
  | 0, i, h, _ => rfl
  | m + 1, i, h, h2 => by
    unfold cmpFrom
    rw [← h i (by omega) (by omega), if_pos (h2 i (by omega) (by omega))]
    exact cmpFrom_self T a b m (i + 1) (fun j p q => h j (by omega) (by omega)) (fun j p q => h2 j (by omega) (by omega))
theorem cmpV_self (t : Int) (a : XV) : cmpV t a a = 0 := by have := cmpV_anti t a a; omega
theorem cmpRow_full (T : List Int) (n : Nat) (a b : List XV) (h1 : n ≤ T.length) (h2 : n ≤ a.length) (h3 : n ≤ b.length) : cmpRow T n a b = cmpFrom T a b n 0 := by
  unfold cmpRow
  rw [show min (min (min (n : Int).toNat T.length) a.length) b.length = n by rw [Int.toNat_natCast]; omega]
end Go.Proofs.Ytkodpbellndelaa.P
