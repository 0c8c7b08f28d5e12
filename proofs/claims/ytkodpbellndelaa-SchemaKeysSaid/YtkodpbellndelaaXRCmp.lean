/- The document's Compare of values and of rows tells the same order. -/
import Derived.Test.YtkodpbellndelaaPx7
import Derived.Test.YtkodpbellndelaaPx6
import Derived.Test.YtkodpbellndelaaPx8
import Derived.Test.YtkodpbellndelaaXOrd
namespace Go.Proofs.Ytkodpbellndelaa.P
open Go.RowKit Go.Proofs.YtkodpbellndelaaW.PrintWords Go.Proofs.YtkodpbellndelaaW.PrintLast Go.Proofs.YtkodpbellndelaaW.PrintMore
set_option linter.unusedVariables false
set_option linter.unusedSimpArgs false

theorem rfits_f (k : Nat) (t n : Int) (s : ByteArray) : thresherref03_Fits.f (k + 1) t n s = some (fitT t ⟨n, s⟩) := by
  unfold thresherref03_Fits.f fitT
  by_cases h1 : t = 1
  · rw [if_pos h1, if_pos (Or.inl h1)]
    subst h1
    rfl
  · rw [if_neg h1]
    by_cases h2 : t = 2
    · rw [if_pos (Or.inr h2)]
      subst h2
      rfl
    · rw [if_neg (by omega), show (t == 2) = false by simpa using h2]
      simp only [thresherref03_Fits.j0, Bool.false_eq_true, if_false]
      by_cases h3 : t = 3
      · rw [if_pos h3, if_pos h3]
        split <;> rfl
      · rw [if_neg h3, if_neg h3]
theorem rfits_ev (t n : Int) (s : ByteArray) : Ev (fun k => thresherref03_Fits.f k t n s) (fitT t ⟨n, s⟩) := Ev.succ ⟨0, fun k _ => rfits_f k t n s⟩
theorem both_ev (t : Int) (a b : XV) : Ev (fun k => thresherref03_both.f k t a.f0 a.f1 b.f0 b.f1) (fitT t a && fitT t b) := by
  simp only [thresherref03_both.f]
  refine Ev.bind (rfits_ev t a.f0 a.f1) (Ev.bind (rfits_ev t b.f0 b.f1) ?_)
  by_cases ha : fitT t a = true
  · exact (Ev.pos ha (Ev.now _)).eq (by rw [ha, Bool.true_and])
  · exact (Ev.neg ha (Ev.now _)).eq (by rw [Bool.eq_false_iff.mpr ha, Bool.false_and])
theorem bt_lt (s : ByteArray) (i : Nat) (h : i < s.size) : bt s i = ((s.data.toList[i]'(by simpa using h)).toNat : Int) := by
  unfold bt
  rw [dif_pos (by simpa using h)]
  rfl
theorem texts_loop (a b : ByteArray) (ha : a.size ≤ 9223372036854775807) : ∀ (d i : Nat), i + d = a.size → i ≤ b.size → Ev (fun k => thresherref03_texts.l0 k a b i) (Lib.compareBytes (a.data.toList.drop i) (b.data.toList.drop i))
  | 0, i, hi, hb => by
    have hn : a.data.toList.length = a.size := by simp
    have hn2 : b.data.toList.length = b.size := by simp
    refine Ev.succ ?_
    simp only [thresherref03_texts.l0]
    refine Ev.neg (by omega) (Ev.succ ?_)
    simp only [thresherref03_texts.j1]
    refine Ev.neg (by simp) ?_
    rw [List.drop_of_length_le (by omega : a.data.toList.length ≤ i)]
    by_cases h : i < b.size
    · rw [List.drop_eq_getElem_cons (by omega : i < b.data.toList.length)]
      exact Ev.pos (by omega) (Ev.now _)
    · rw [List.drop_of_length_le (by omega : b.data.toList.length ≤ i)]
      exact Ev.neg (by omega) (Ev.neg (by omega) (Ev.now _))
  | d + 1, i, hi, hb => by
    have hn : a.data.toList.length = a.size := by simp
    have hn2 : b.data.toList.length = b.size := by simp
    have h1 : i < a.data.toList.length := by omega
    refine Ev.succ ?_
    simp only [thresherref03_texts.l0]
    refine Ev.pos (by omega) (Ev.succ ?_)
    simp only [thresherref03_texts.j1]
    rw [List.drop_eq_getElem_cons h1]
    by_cases h : i < b.size
    · have h2 : i < b.data.toList.length := by omega
      rw [List.drop_eq_getElem_cons h2, bt_lt a i (by omega), bt_lt b i h]
      simp (disch := omega) only [w64]
      unfold Lib.compareBytes
      refine Ev.pos (by simpa using h) (Ev.pos (by omega) (Ev.pos (by omega) (Ev.pos (by omega) ?_)))
      by_cases p : a.data.toList[i] < b.data.toList[i]
      · rw [if_pos p]
        exact Ev.pos (by have := UInt8.lt_iff_toNat_lt.mp p; omega) (Ev.now _)
      · rw [if_neg p]
        refine Ev.neg (fun q => p (UInt8.lt_iff_toNat_lt.mpr (by omega))) ?_
        by_cases r : b.data.toList[i] < a.data.toList[i]
        · rw [if_pos r]
          exact Ev.pos (by have := UInt8.lt_iff_toNat_lt.mp r; omega) (Ev.now _)
        · rw [if_neg r]
          exact Ev.neg (fun q => r (UInt8.lt_iff_toNat_lt.mpr (by omega))) (texts_loop a b ha d (i + 1) (by omega) (by omega))
    · rw [List.drop_of_length_le (by omega : b.data.toList.length ≤ i)]
      exact Ev.neg (by simpa using h) (Ev.neg (by omega) (Ev.pos (by omega) (Ev.now _)))
theorem texts_ev (a b : ByteArray) (ha : a.size ≤ 9223372036854775807) : Ev (fun k => thresherref03_texts.f k a b) (Lib.compareBytes a.data.toList b.data.toList) := by
  simp only [thresherref03_texts.f]
  exact texts_loop a b ha a.size 0 (by omega) (by omega)
theorem rcmpj_ev (p q : Bool) (r : Int) (h : r = if p = true then -1 else if q = true then 1 else 0) : Ev (fun k => thresherref03_Compare.j0 k p q) r := by
  refine Ev.succ ⟨0, fun k _ => ?_⟩
  simp only [thresherref03_Compare.j0]
  rw [h]
  cases p <;> cases q <;> rfl
theorem rcmp_ev (t : Int) (a b : XV) (ga : GV a) (gb : GV b) (hs : a.f1.size ≤ 9223372036854775807) : Ev (fun k => thresherref03_Compare.f k t a.f0 a.f1 b.f0 b.f1) (cmpV t a b) := by
  obtain ⟨g1, g2⟩ := ga
  obtain ⟨g3, g4⟩ := gb
  simp only [thresherref03_Compare.f]
  refine Ev.bind (both_ev t a b) ?_
  by_cases h : fitT t a = true ∧ fitT t b = true
  · rw [cmpV_fit h.1 h.2]
    refine Ev.pos (by rw [h.1, h.2]; rfl) ?_
    by_cases e2 : t = 2
    · have ec : cmpC t a b = sgn (un a.f0) (un b.f0) := by unfold cmpC; rw [if_neg (by omega), if_pos e2]
      rw [ec]
      refine Ev.pos e2 ?_
      by_cases hn : ((decide (a.f0 < 0)) != (decide (b.f0 < 0))) = true
      · refine Ev.pos hn (rcmpj_ev _ _ _ ?_)
        simp only [decide_eq_true_eq]
        unfold sgn un
        by_cases p : a.f0 < 0
        · by_cases q : b.f0 < 0
          · simp [p, q] at hn
          · repeat' split
            all_goals omega
        · by_cases q : b.f0 < 0
          · repeat' split
            all_goals omega
          · simp [p, q] at hn
      · refine Ev.neg hn (rcmpj_ev _ _ _ ?_)
        simp only [decide_eq_true_eq]
        unfold sgn un
        by_cases p : a.f0 < 0
        · by_cases q : b.f0 < 0
          · repeat' split
            all_goals omega
          · simp [p, q] at hn
        · by_cases q : b.f0 < 0
          · simp [p, q] at hn
          · repeat' split
            all_goals omega
    · refine Ev.neg e2 ?_
      by_cases e3 : t = 3
      · exact (Ev.pos e3 (Ev.bind (texts_ev _ _ hs) (Ev.now _))).eq (by unfold cmpC; rw [if_pos e3])
      · have ec : cmpC t a b = sgn a.f0 b.f0 := by unfold cmpC; rw [if_neg e3, if_neg e2]
        rw [ec]
        refine Ev.neg e3 (rcmpj_ev _ _ _ ?_)
        simp only [decide_eq_true_eq]
        rfl
  · exact (Ev.neg (fun q => h (by simpa using q)) (Ev.now _)).eq (by unfold cmpV; rw [if_neg h])
/-- Values as Go has them. -/
def GR (r : List XV) : Prop := ∀ v ∈ r, GV v ∧ v.f1.size ≤ 9223372036854775807
theorem GR.rdV {r : List XV} (h : GR r) (i : Nat) : GV (rdV r i) ∧ (P.rdV r i).f1.size ≤ 9223372036854775807 := by
  by_cases hi : i < r.length
  · show GV (rd_T34 r i) ∧ (rd_T34 r i).f1.size ≤ _
    rw [rdV_lt r i hi]
    exact h _ (List.getElem_mem hi)
  · show GV (rd_T34 r i) ∧ (rd_T34 r i).f1.size ≤ _
    rw [rdV_ge r i (by omega)]
    exact ⟨⟨by simp, by simp⟩, by decide⟩
theorem rowcmp_loop (T : List Int) (K M G : Int) (a b : List XV) (ga : GR a) (gb : GR b) (m : Nat) (hm : min (min (min K.toNat T.length) a.length) b.length = m) (hT : T.length ≤ 1000000000) : ∀ (d i : Nat), i + d = m → Ev (fun k => thresherref04_Compare.l0 k a b i T K M G) (cmpFrom T a b d i)
  | 0, i, hi => by
    have hj : Ev (fun k => thresherref04_Compare.j1 k a b i false T K M G) 0 := by
      refine Ev.succ ?_
      simp only [thresherref04_Compare.j1]
      exact Ev.neg (by simp) (Ev.now _)
    refine Ev.succ ?_
    simp only [thresherref04_Compare.l0]
    unfold cmpFrom
    by_cases h1 : (i : Int) < K
    · refine Ev.pos h1 ?_
      by_cases h2 : (i : Int) < (T.length : Int)
      · refine Ev.pos h2 ?_
        by_cases h3 : (i : Int) < (a.length : Int)
        · refine Ev.pos h3 ?_
          rw [decide_eq_false (by omega : ¬ (i : Int) < (b.length : Int))]
          exact hj
        · exact Ev.neg h3 hj
      · exact Ev.neg h2 hj
    · exact Ev.neg h1 hj
  | d + 1, i, hi => by
    refine Ev.succ ?_
    simp only [thresherref04_Compare.l0]
    unfold cmpFrom
    refine Ev.pos (by omega) (Ev.pos (by omega) (Ev.pos (by omega) (Ev.succ ?_)))
    simp only [thresherref04_Compare.j1]
    simp (disch := omega) only [w64]
    refine Ev.pos (decide_eq_true (by omega)) (Ev.pos (by omega) (Ev.pos (by omega) (Ev.pos (by omega) (Ev.pos (by omega) (Ev.bind (rcmp_ev _ _ _ (ga.rdV i).1 (gb.rdV i).1 (ga.rdV i).2) ?_)))))
    by_cases h : cmpV (rd T i) (rdV a i) (rdV b i) = 0
    · rw [if_pos h]
      exact Ev.pos h (rowcmp_loop T K M G a b ga gb m hm hT d (i + 1) (by omega))
    · rw [if_neg h]
      exact Ev.neg h (Ev.now _)
theorem rowcmp_ev (T : List Int) (K M G : Int) (a b : List XV) (ga : GR a) (gb : GR b) (hT : T.length ≤ 1000000000) : Ev (fun k => thresherref04_Compare.f k T K M G a b) (cmpRow T K a b) := by
  simp only [thresherref04_Compare.f]
  exact rowcmp_loop T K M G a b ga gb _ rfl hT _ 0 (by omega)
end Go.Proofs.Ytkodpbellndelaa.P
