/- The row of FilterBegins. Merged: SFilterBegins, XBase, XOrd, XVal, XHolds, PureFilterBegins, RFilterBegins. -/
import Derived.Test.YtbkpifcjgedjaaaPx19
import Derived.Test.YtbkpifcjgedjaaaO
import Derived.Test.YtbkpifcjgedjaaaPx0
import Derived.Test.YtbkpifcjgedjaaaHBase
import Derived.Lib.Bytealg
import Derived.Test.YtbkpifcjgedjaaaPx3
import Derived.Test.YtbkpifcjgedjaaaPx2
import Derived.Test.YtbkpifcjgedjaaaPx11
import Derived.Test.YtbkpifcjgedjaaaPx14
import Derived.Test.YtbkpifcjgedjaaaRows
import Derived.WalkKit
import Derived.ProofKit
import Derived.OpenShut
import Derived.ShutString
import Derived.ChangeOld
import Derived.Below
import Derived.SizedLaws
-- Written by wip/tools/myprint.py: the plain statement of FilterBegins.
namespace Go.Proofs.Ytbkpifcjgedjaaa.P
open Go.RowKit Go.Proofs.YtbkpifcjgedjaaaW.PrintWords
def thresherlaw19_FilterBegins.PureG : Prop := ∀ (x0 : List ByteArray) (x1 : ByteArray), (x0.length ≤ maxLen ∧ ∀ a ∈ x0, a.size ≤ maxLen) → x1.size ≤ maxLen → ∃ k, thresherlaw19_FilterBegins.f k x0 x1 = some true
end Go.Proofs.Ytbkpifcjgedjaaa.P

/- Words of the laws about rows. -/
namespace Go.Proofs.Ytbkpifcjgedjaaa.P
open Go.RowKit Go.Proofs.YtbkpifcjgedjaaaW.PrintWords Go.Proofs.YtbkpifcjgedjaaaW.PrintLast Go.Proofs.YtbkpifcjgedjaaaW.PrintMore
set_option linter.unusedVariables false
set_option linter.unusedSimpArgs false

abbrev XV := S37
abbrev rdV (l : List XV) (i : Int) : XV := rd_T37 l i
abbrev rdR (l : List (List XV)) (i : Int) : List XV := rd_L4 l i
theorem rd_lt (l : List Int) (i : Nat) (h : i < l.length) : rd l i = l[i] := by unfold rd; simp [List.getD, h]
theorem rdV_lt (l : List XV) (i : Nat) (h : i < l.length) : rd_T37 l i = l[i] := by unfold rd_T37; simp [List.getD, h]
theorem rdV_ge (l : List XV) (i : Nat) (h : l.length ≤ i) : rd_T37 l i = ⟨0, ⟨#[]⟩⟩ := by unfold rd_T37; simp [List.getD, h]; rfl
theorem rdR_lt (l : List (List XV)) (i : Nat) (h : i < l.length) : rd_L4 l i = l[i] := by unfold rd_L4; simp [List.getD, h]

/-- A schema that may be. -/
structure Sch (T : List Int) (K M G : Int) : Prop where
  n1 : 1 ≤ T.length
  n8 : T.length ≤ 8
  ty : ∀ t ∈ T, 1 ≤ t ∧ t ≤ 3
  k1 : 1 ≤ K
  kn : K ≤ T.length
  m1 : 1 ≤ M
  m3 : M ≤ 3
  g1 : 1 ≤ G
  g8 : G ≤ 8
theorem Sch.rdt {T : List Int} {K M G : Int} (h : Sch T K M G) (i : Nat) (hi : i < T.length) : 1 ≤ rd T i ∧ rd T i ≤ 3 := by
  rw [rd_lt T i hi]; exact h.ty _ (List.getElem_mem hi)

/-- Does a value fit a type? -/
def fitT (t : Int) (v : XV) : Bool := if t = 1 ∨ t = 2 then v.f1.toList == ([] : List UInt8) else if t = 3 then (if v.f0 = 0 then decide ((v.f1.size : Int) ≤ 60) else false) else false
def rowOkB (T : List Int) (r : List XV) : Bool := decide (T.length = r.length) && (List.range T.length).all fun (i : Nat) => fitT (rd T i) (rdV r i)
/-- The value made to fit a type. -/
def fit1 (t : Int) (v : XV) : XV := if t = 3 then ⟨0, if (v.f1.size : Int) > 60 then v.f1.extract 0 60 else v.f1⟩ else ⟨v.f0, ⟨#[]⟩⟩
def fitRow (T : List Int) (r : List XV) : List XV := (List.range' 0 T.length).map fun (i : Nat) => fit1 (rd T i) (rdV r i)
theorem fitRow_length (T : List Int) (r : List XV) : (fitRow T r).length = T.length := by simp [fitRow]
theorem rdV_fitRow (T : List Int) (r : List XV) (i : Nat) (hi : i < T.length) : rdV (fitRow T r) i = fit1 (rd T i) (rdV r i) := by
  show rd_T37 _ _ = _
  rw [rdV_lt _ i (by rw [fitRow_length]; exact hi)]
  simp [fitRow]
theorem fitT_fit1 (t : Int) (v : XV) (h1 : 1 ≤ t) (h3 : t ≤ 3) : fitT t (fit1 t v) = true := by
  unfold fitT fit1
  by_cases e : t = 3
  · subst e
    simp only [if_true, if_pos rfl]
    rw [if_neg (by omega)]
    rw [decide_eq_true_iff]
    split
    · simp only [ByteArray.size_extract]; omega
    · omega
  · rw [if_pos (by omega), if_neg e]
    simp [ByteArray.toList_eq]
theorem bytes_eq {a b : ByteArray} (h : a.toList = b.toList) : a = b := by
  rw [ByteArray.toList_eq, ByteArray.toList_eq] at h
  exact ByteArray.ext (Array.toList_inj.mp h)
theorem XV.same {a b : XV} : (!(a.f0 == b.f0) || (!(a.f1.toList == b.f1.toList))) = true ↔ a ≠ b := by
  constructor
  · rintro h rfl
    simp at h
  · intro h
    by_cases h0 : a.f0 = b.f0
    · by_cases h1 : a.f1.toList = b.f1.toList
      · exact absurd (by cases a; cases b; simp only at h0 h1; rw [h0, bytes_eq h1]) h
      · simp [h1]
    · simp [h0]
instance : DecidableEq XV := fun a b => if h : (!(a.f0 == b.f0) || (!(a.f1.toList == b.f1.toList))) = true then isFalse (XV.same.mp h) else isTrue (Classical.byContradiction fun e => h (XV.same.mpr e))
end Go.Proofs.Ytbkpifcjgedjaaa.P

/- The order of values and of rows. -/
namespace Go.Proofs.Ytbkpifcjgedjaaa.P
open Go.RowKit Go.Proofs.YtbkpifcjgedjaaaW.PrintWords Go.Proofs.YtbkpifcjgedjaaaW.PrintLast Go.Proofs.YtbkpifcjgedjaaaW.PrintMore
set_option linter.unusedVariables false
set_option linter.unusedSimpArgs false

theorem cb_rng : ∀ a b : List UInt8, Lib.compareBytes a b = -1 ∨ Lib.compareBytes a b = 0 ∨ Lib.compareBytes a b = 1
  | [], [] => by simp [Lib.compareBytes]
  | [], _ :: _ => by simp [Lib.compareBytes]
  | _ :: _, [] => by simp [Lib.compareBytes]
  | a :: xs, b :: ys => by
    unfold Lib.compareBytes
    split
    · simp
    · split
      · simp
      · exact cb_rng xs ys
theorem u8_tri (a b : UInt8) : (a < b ∧ ¬ b < a) ∨ (b < a ∧ ¬ a < b) ∨ (a = b ∧ ¬ a < b ∧ ¬ b < a) := by
  rcases Nat.lt_trichotomy a.toNat b.toNat with h | h | h
  · exact Or.inl ⟨UInt8.lt_iff_toNat_lt.mpr h, fun h2 => by have := UInt8.lt_iff_toNat_lt.mp h2; omega⟩
  · have e : a = b := UInt8.toNat_inj.mp h
    subst e
    exact Or.inr (Or.inr ⟨rfl, fun h2 => by have := UInt8.lt_iff_toNat_lt.mp h2; omega, fun h2 => by have := UInt8.lt_iff_toNat_lt.mp h2; omega⟩)
  · exact Or.inr (Or.inl ⟨UInt8.lt_iff_toNat_lt.mpr h, fun h2 => by have := UInt8.lt_iff_toNat_lt.mp h2; omega⟩)
theorem cb_anti : ∀ a b : List UInt8, Lib.compareBytes b a = - Lib.compareBytes a b
  | [], [] => by simp [Lib.compareBytes]
  | [], _ :: _ => by simp [Lib.compareBytes]
  | _ :: _, [] => by simp [Lib.compareBytes]
  | a :: xs, b :: ys => by
    unfold Lib.compareBytes
    rcases u8_tri a b with ⟨h1, h2⟩ | ⟨h1, h2⟩ | ⟨h0, h1, h2⟩
    · rw [if_neg h2, if_pos h1, if_pos h1]; rfl
    · rw [if_pos h1, if_neg h2, if_pos h1]
    · rw [if_neg h2, if_neg h1, if_neg h1, if_neg h2]; exact cb_anti xs ys
theorem cb_zero : ∀ a b : List UInt8, Lib.compareBytes a b = 0 ↔ a = b
  | [], [] => by simp [Lib.compareBytes]
  | [], _ :: _ => by simp [Lib.compareBytes]
  | _ :: _, [] => by simp [Lib.compareBytes]
  | a :: xs, b :: ys => by
    unfold Lib.compareBytes
    rcases u8_tri a b with ⟨h1, h2⟩ | ⟨h1, h2⟩ | ⟨h0, h1, h2⟩
    · rw [if_pos h1]
      exact ⟨fun h => by omega, fun h => absurd h1 (by rw [(List.cons.inj h).1] at h2 ⊢; rw [(List.cons.inj h).1] at h1; exact h2)⟩
    · rw [if_neg h2, if_pos h1]
      exact ⟨fun h => by omega, fun h => absurd h1 (by rw [(List.cons.inj h).1] at h1; rw [(List.cons.inj h).1] at h2; exact absurd h1 h2)⟩
    · rw [if_neg h1, if_neg h2, cb_zero xs ys, h0]
      exact ⟨fun h => by rw [h], fun h => (List.cons.inj h).2⟩
theorem cb_trans : ∀ a b c : List UInt8, Lib.compareBytes a b ≤ 0 → Lib.compareBytes b c ≤ 0 → Lib.compareBytes a c ≤ 0
  | [], _, [], _, _ => by simp [Lib.compareBytes]
  | [], _, _ :: _, _, _ => by simp [Lib.compareBytes]
  | _ :: _, [], _, h, _ => by simp [Lib.compareBytes] at h
  | _ :: _, _ :: _, [], _, h => by simp [Lib.compareBytes] at h
  | a :: xs, b :: ys, c :: zs, h1, h2 => by
    unfold Lib.compareBytes at h1 h2 ⊢
    rcases u8_tri a b with ⟨p1, p2⟩ | ⟨p1, p2⟩ | ⟨p0, p1, p2⟩
    · rcases u8_tri b c with ⟨q1, q2⟩ | ⟨q1, q2⟩ | ⟨q0, q1, q2⟩
      · rw [if_pos (UInt8.lt_trans p1 q1)]; omega
      · rw [if_neg q2, if_pos q1] at h2; omega
      · subst q0; rw [if_pos p1]; omega
    · rw [if_neg p2, if_pos p1] at h1; omega
    · subst p0
      rw [if_neg p1, if_neg p2] at h1
      rcases u8_tri a c with ⟨q1, q2⟩ | ⟨q1, q2⟩ | ⟨q0, q1, q2⟩
      · rw [if_pos q1]; omega
      · rw [if_neg q2, if_pos q1] at h2; omega
      · rw [if_neg q1, if_neg q2] at h2 ⊢
        exact cb_trans xs ys zs h1 h2

/-- A value's number is one of 64 bits. -/
def GV (v : XV) : Prop := -9223372036854775808 ≤ v.f0 ∧ v.f0 ≤ 9223372036854775807
def sgn (x y : Int) : Int := if x < y then -1 else if x > y then 1 else 0
def un (x : Int) : Int := x % 18446744073709551616
def cmpV (t : Int) (a b : XV) : Int := if fitT t a = true ∧ fitT t b = true then (if t = 3 then Lib.compareBytes a.f1.data.toList b.f1.data.toList else if t = 2 then sgn (un a.f0) (un b.f0) else sgn a.f0 b.f0) else 0
theorem sgn_rng (x y : Int) : sgn x y = -1 ∨ sgn x y = 0 ∨ sgn x y = 1 := by unfold sgn; split <;> (try split) <;> simp
theorem cmpV_rng (t : Int) (a b : XV) : cmpV t a b = -1 ∨ cmpV t a b = 0 ∨ cmpV t a b = 1 := by
  unfold cmpV
  split
  · split
    · exact cb_rng _ _
    · split <;> exact sgn_rng _ _
  · simp
theorem cmpV_anti (t : Int) (a b : XV) : cmpV t b a = - cmpV t a b := by
  unfold cmpV
  by_cases h : fitT t a = true ∧ fitT t b = true
  · rw [if_pos h, if_pos h.symm]
    split
    · exact cb_anti _ _
    · split <;> (unfold sgn; split <;> split <;> (try split) <;> omega)
  · rw [if_neg h, if_neg (fun q => h q.symm)]
    rfl
theorem fit_empty {t : Int} {a : XV} (h : fitT t a = true) (h3 : t ≠ 3) : a.f1 = ⟨#[]⟩ := by
  unfold fitT at h
  split at h
  · have h2 : a.f1.toList = [] := by simpa using h
    exact bytes_eq (by rw [h2]; simp [ByteArray.toList_eq])
  · first | exact absurd h (by simp) | (rw [if_neg h3] at h; exact absurd h (by simp))
theorem fit_zero {t : Int} {a : XV} (h : fitT t a = true) (h3 : t = 3) : a.f0 = 0 := by
  subst h3
  unfold fitT at h
  rw [if_neg (by omega), if_pos rfl] at h
  split at h
  · assumption
  · exact absurd h (by simp)
theorem XV.ext2 {a b : XV} (h0 : a.f0 = b.f0) (h1 : a.f1 = b.f1) : a = b := by cases a; cases b; simp only at h0 h1; rw [h0, h1]
theorem cmpV_zero (t : Int) (a b : XV) (ha : fitT t a = true) (hb : fitT t b = true) (ga : GV a) (gb : GV b) : cmpV t a b = 0 ↔ a = b := by
  unfold cmpV
  rw [if_pos ⟨ha, hb⟩]
  obtain ⟨g1, g2⟩ := ga
  obtain ⟨g3, g4⟩ := gb
  by_cases e : t = 3
  · rw [if_pos e, cb_zero]
    exact ⟨fun h => XV.ext2 (by rw [fit_zero ha e, fit_zero hb e]) (ByteArray.ext (Array.toList_inj.mp h)), fun h => by rw [h]⟩
  · rw [if_neg e]
    have key : a = b ↔ a.f0 = b.f0 := ⟨fun h => by rw [h], fun h => XV.ext2 h (by rw [fit_empty ha e, fit_empty hb e])⟩
    rw [key]
    split
    · unfold sgn un; split <;> (try split) <;> omega
    · unfold sgn; split <;> (try split) <;> omega
theorem sgn_trans (x y z : Int) : sgn x y ≤ 0 → sgn y z ≤ 0 → sgn x z ≤ 0 := by
  unfold sgn
  intro h1 h2
  split
  · omega
  · split
    · exfalso
      by_cases p : x < y
      · by_cases q : y < z
        · omega
        · rw [if_neg q] at h2
          by_cases r : y > z
          · rw [if_pos r] at h2; omega
          · omega
      · rw [if_neg p] at h1
        by_cases r : x > y
        · rw [if_pos r] at h1; omega
        · by_cases q : y < z
          · omega
          · rw [if_neg q] at h2
            by_cases r : y > z
            · rw [if_pos r] at h2; omega
            · omega
    · omega
def cmpC (t : Int) (a b : XV) : Int := if t = 3 then Lib.compareBytes a.f1.data.toList b.f1.data.toList else if t = 2 then sgn (un a.f0) (un b.f0) else sgn a.f0 b.f0
theorem cmpV_fit {t : Int} {a b : XV} (ha : fitT t a = true) (hb : fitT t b = true) : cmpV t a b = cmpC t a b := by
  unfold cmpV cmpC
  rw [if_pos ⟨ha, hb⟩]
theorem cmpV_trans (t : Int) (a b c : XV) (ha : fitT t a = true) (hb : fitT t b = true) (hc : fitT t c = true) : cmpV t a b ≤ 0 → cmpV t b c ≤ 0 → cmpV t a c ≤ 0 := by
  rw [cmpV_fit ha hb, cmpV_fit hb hc, cmpV_fit ha hc]
  unfold cmpC
  by_cases e : t = 3
  · rw [if_pos e, if_pos e, if_pos e]
    exact cb_trans _ _ _
  · rw [if_neg e, if_neg e, if_neg e]
    by_cases e2 : t = 2
    · rw [if_pos e2, if_pos e2, if_pos e2]
      exact sgn_trans _ _ _
    · rw [if_neg e2, if_neg e2, if_neg e2]
      exact sgn_trans _ _ _

/-- Rows by m of their values from i on. -/
def cmpFrom (T : List Int) (a b : List XV) : Nat → Nat → Int
  | 0, _ => 0
  | m + 1, i => if cmpV (rd T i) (rdV a i) (rdV b i) = 0 then cmpFrom T a b m (i + 1) else cmpV (rd T i) (rdV a i) (rdV b i)
def cmpRow (T : List Int) (K : Int) (a b : List XV) : Int := cmpFrom T a b (min (min (min K.toNat T.length) a.length) b.length) 0
theorem cmpFrom_rng (T : List Int) (a b : List XV) : ∀ m i, cmpFrom T a b m i = -1 ∨ cmpFrom T a b m i = 0 ∨ cmpFrom T a b m i = 1
  | 0, i => by simp [cmpFrom]
  | m + 1, i => by
    unfold cmpFrom
    split
    · exact cmpFrom_rng T a b m (i + 1)
    · exact cmpV_rng _ _ _
theorem cmpFrom_anti (T : List Int) (a b : List XV) : ∀ m i, cmpFrom T b a m i = - cmpFrom T a b m i
  | 0, i => by simp [cmpFrom]
  | m + 1, i => by
    unfold cmpFrom
    rw [cmpV_anti _ (rdV a i) (rdV b i), cmpFrom_anti T a b m (i + 1)]
    by_cases h : cmpV (rd T i) (rdV a i) (rdV b i) = 0
    · rw [if_pos (by omega), if_pos h]
    · rw [if_neg (by omega), if_neg h]
def FitAt (T : List Int) (a : List XV) (m i : Nat) : Prop := ∀ j : Nat, i ≤ j → j < i + m → fitT (rd T j) (rdV a j) = true ∧ GV (rdV a j)
theorem FitAt.tail {T : List Int} {a : List XV} {m i : Nat} (h : FitAt T a (m + 1) i) : FitAt T a m (i + 1) := fun j h1 h2 => h j (by omega) (by omega)
theorem cmpFrom_zero (T : List Int) (a b : List XV) : ∀ m i, FitAt T a m i → FitAt T b m i → (cmpFrom T a b m i = 0 ↔ ∀ j : Nat, i ≤ j → j < i + m → rdV a j = rdV b j)
  | 0, i, _, _ => by
    simp only [cmpFrom, true_iff]
    intro j h1 h2
    omega
  | m + 1, i, ha, hb => by
    obtain ⟨a1, a2⟩ := ha i (by omega) (by omega)
    obtain ⟨b1, b2⟩ := hb i (by omega) (by omega)
    have hz := cmpV_zero _ _ _ a1 b1 a2 b2
    have ih := cmpFrom_zero T a b m (i + 1) ha.tail hb.tail
    unfold cmpFrom
    by_cases h : cmpV (rd T i) (rdV a i) (rdV b i) = 0
    · rw [if_pos h, ih]
      constructor
      · intro q j h1 h2
        by_cases e : j = i
        · subst e; exact hz.mp h
        · exact q j (by omega) (by omega)
      · intro q j h1 h2
        exact q j (by omega) (by omega)
    · rw [if_neg h]
      constructor
      · intro q; exact absurd q h
      · intro q; exact absurd (hz.mpr (q i (by omega) (by omega))) h
theorem cmpFrom_trans (T : List Int) (a b c : List XV) : ∀ m i, FitAt T a m i → FitAt T b m i → FitAt T c m i → cmpFrom T a b m i ≤ 0 → cmpFrom T b c m i ≤ 0 → cmpFrom T a c m i ≤ 0
  | 0, i, _, _, _ => by simp [cmpFrom]
  | m + 1, i, ha, hb, hc => by
    obtain ⟨a1, a2⟩ := ha i (by omega) (by omega)
    obtain ⟨b1, b2⟩ := hb i (by omega) (by omega)
    obtain ⟨c1, c2⟩ := hc i (by omega) (by omega)
    have ih := cmpFrom_trans T a b c m (i + 1) ha.tail hb.tail hc.tail
    have t1 := cmpV_trans (rd T i) _ _ _ a1 b1 c1
    have t2 := cmpV_trans (rd T i) _ _ _ c1 a1 b1
    have t3 := cmpV_trans (rd T i) _ _ _ b1 c1 a1
    have z1 := cmpV_zero _ _ _ a1 b1 a2 b2
    have z2 := cmpV_zero _ _ _ b1 c1 b2 c2
    have n1 := cmpV_anti (rd T i) (rdV a i) (rdV c i)
    have n2 := cmpV_anti (rd T i) (rdV b i) (rdV c i)
    have n3 := cmpV_anti (rd T i) (rdV a i) (rdV b i)
    unfold cmpFrom
    intro h1 h2
    split at h1
    · split at h2
      · rename_i e1 e2
        have e3 : cmpV (rd T i) (rdV a i) (rdV c i) = 0 := by rw [z1.mp e1]; exact e2
        rw [if_pos e3]
        exact ih h1 h2
      · rename_i e1 e2
        rw [z1.mp e1, if_neg e2]
        exact h2
    · split at h2
      · rename_i e1 e2
        rw [← z2.mp e2, if_neg e1]
        exact h1
      · rename_i e1 e2
        have h3 := t1 h1 h2
        split
        · rename_i e3
          exfalso
          have : cmpV (rd T i) (rdV b i) (rdV a i) ≤ 0 := t3 h2 (by omega)
          omega
        · exact h3
end Go.Proofs.Ytbkpifcjgedjaaa.P

/- value.Compare tells the order of values. -/
namespace Go.Proofs.Ytbkpifcjgedjaaa.P
open Go.RowKit Go.Proofs.YtbkpifcjgedjaaaW.PrintWords Go.Proofs.YtbkpifcjgedjaaaW.PrintLast Go.Proofs.YtbkpifcjgedjaaaW.PrintMore
set_option linter.unusedVariables false
set_option linter.unusedSimpArgs false

theorem vfits_f (k : Nat) (t n : Int) (s : ByteArray) : value_Fits.f (k + 1) t n s = some (fitT t ⟨n, s⟩) := by
  unfold value_Fits.f fitT
  by_cases h1 : t = 1
  · rw [if_pos h1, if_pos (Or.inl h1)]
    subst h1
    rfl
  · rw [if_neg h1]
    by_cases h2 : t = 2
    · rw [if_pos (Or.inr h2)]
      subst h2
      rfl
    · rw [if_neg (by omega), show (t == 2) = false by simpa using h2]
      simp only [value_Fits.j0, Bool.false_eq_true, if_false]
      by_cases h3 : t = 3
      · rw [if_pos h3, if_pos h3]
        split <;> rfl
      · rw [if_neg h3, if_neg h3]
theorem vfits_ev (t n : Int) (s : ByteArray) : Ev (fun k => value_Fits.f k t n s) (fitT t ⟨n, s⟩) := Ev.succ ⟨0, fun k _ => vfits_f k t n s⟩
theorem cmpu_f (x y : Int) : cmp_Compare_uint64.f x y = some (sgn x y) := by
  simp only [cmp_Compare_uint64.f, cmp_isNaN_uint64.f, bne_self_eq_false, Option.bind_some, Bool.false_eq_true, if_false]
  unfold sgn
  split
  · rfl
  · split <;> rfl
theorem cmpi_f (x y : Int) : cmp_Compare_int64.f x y = some (sgn x y) := by
  simp only [cmp_Compare_int64.f, cmp_isNaN_int64.f, bne_self_eq_false, Option.bind_some, Bool.false_eq_true, if_false]
  unfold sgn
  split
  · rfl
  · split <;> rfl
theorem vcmp_ev (t : Int) (a b : XV) : Ev (fun k => value_Compare.f k t a.f0 a.f1 b.f0 b.f1) (cmpV t a b) := by
  simp only [value_Compare.f]
  refine Ev.bind (vfits_ev t a.f0 a.f1) ?_
  by_cases ha : fitT t a = true
  · refine Ev.pos ha (Ev.bind (vfits_ev t b.f0 b.f1) (Ev.succ ?_))
    simp only [value_Compare.j0]
    by_cases hb : fitT t b = true
    · rw [cmpV_fit ha hb]
      refine Ev.neg (fun h => ?_) ?_
      · rw [show fitT t ⟨b.f0, b.f1⟩ = true from hb] at h
        exact absurd h (by simp)
      · by_cases e3 : t = 3
        · refine (Ev.pos e3 (Ev.bindc rfl (Ev.now _))).eq ?_
          unfold cmpC
          rw [if_pos e3]
        · refine Ev.neg e3 ?_
          by_cases e2 : t = 2
          · refine (Ev.pos e2 (Ev.bindc (cmpu_f _ _) (Ev.now _))).eq ?_
            unfold cmpC
            rw [if_neg e3, if_pos e2]
            rfl
          · refine (Ev.neg e2 (Ev.bindc (cmpi_f _ _) (Ev.now _))).eq ?_
            unfold cmpC
            rw [if_neg e3, if_neg e2]
    · refine (Ev.pos ?_ (Ev.now _)).eq ?_
      · rw [show fitT t ⟨b.f0, b.f1⟩ = false from Bool.eq_false_iff.mpr hb]
        rfl
      · unfold cmpV
        rw [if_neg (fun h => hb h.2)]
  · refine Ev.neg ha (Ev.succ ?_)
    simp only [value_Compare.j0]
    refine (Ev.pos (by simp) (Ev.now _)).eq ?_
    unfold cmpV
    rw [if_neg (fun h => ha h.1)]
end Go.Proofs.Ytbkpifcjgedjaaa.P

/- What a filter says of a value, and which rows filters keep. -/
namespace Go.Proofs.Ytbkpifcjgedjaaa.P
open Go.RowKit Go.Proofs.YtbkpifcjgedjaaaW.PrintWords Go.Proofs.YtbkpifcjgedjaaaW.PrintLast Go.Proofs.YtbkpifcjgedjaaaW.PrintMore
set_option linter.unusedVariables false
set_option linter.unusedSimpArgs false

abbrev XFl := S39
abbrev rdFl (l : List XFl) (i : Int) : XFl := rd_T39 l i
theorem rdFl_lt (l : List XFl) (i : Nat) (h : i < l.length) : rd_T39 l i = l[i] := by unfold rd_T39; simp [List.getD, h]
/-- A text begins with another one. -/
def isPre (p s : ByteArray) : Bool := decide (p.size ≤ s.size) && ((s.extract 0 p.size).toList == p.toList)
theorem pre_f (s p : ByteArray) : strings_HasPrefix.f s p = some (isPre p s) := by
  unfold strings_HasPrefix.f stringslite_HasPrefix.f isPre
  by_cases h : p.size ≤ s.size
  · rw [if_pos (by omega), if_pos (by omega), if_pos (by omega), decide_eq_true h, Bool.true_and]; rfl
  · rw [if_neg (by omega), decide_eq_false h]; rfl
def holdsV (t op : Int) (fv v : XV) : Bool :=
  if op = 1 then cmpV t v fv == 0 else if op = 2 then cmpV t v fv != 0 else if op = 3 then decide (cmpV t v fv < 0) else if op = 4 then decide (cmpV t v fv ≤ 0) else if op = 5 then decide (cmpV t v fv > 0) else if op = 6 then decide (cmpV t v fv ≥ 0) else if op = 7 then isPre fv.f1 v.f1 else false
theorem hold0 (c : Int) : Ev (fun k => filter_holds.j0 k c) (c == 0) := Ev.succ (Ev.now _)
theorem holds_ev (t col op : Int) (fv v : XV) : Ev (fun k => filter_holds.f k t col op fv.f0 fv.f1 v.f0 v.f1) (holdsV t op fv v) := by
  simp only [filter_holds.f]
  unfold holdsV
  refine Ev.bind (vcmp_ev t v fv) ?_
  obtain ⟨c, hc⟩ : ∃ c, cmpV t v fv = c := ⟨_, rfl⟩
  rw [hc]
  by_cases h3 : op = 3
  · subst h3; exact Ev.pos rfl (Ev.now _)
  refine Ev.neg h3 ?_
  by_cases h5 : op = 5
  · subst h5; exact Ev.pos rfl (Ev.now _)
  refine Ev.neg h5 ?_
  by_cases h2 : op = 2
  · subst h2; exact Ev.pos rfl (Ev.now _)
  refine Ev.neg h2 ?_
  by_cases h7 : op = 7
  · subst h7; exact Ev.pos rfl (Ev.bindc (pre_f _ _) (Ev.now _))
  refine Ev.neg h7 ?_
  by_cases h4 : op = 4
  · subst h4
    refine Ev.pos rfl ?_
    by_cases q : c < 0
    · exact Ev.pos q ((Ev.now _).eq (by simp; omega))
    · refine Ev.neg q ((hold0 _).eq ?_)
      simp
      by_cases e : c = 0
      · subst e; rfl
      · rw [show (c == 0) = false by simpa using e, decide_eq_false (by omega)]
  refine Ev.neg h4 ?_
  by_cases h1 : op = 1
  · subst h1; exact Ev.pos rfl (hold0 _)
  refine Ev.neg h1 ?_
  by_cases h6 : op = 6
  · subst h6; exact Ev.pos rfl (Ev.now _)
  refine Ev.neg h6 ((Ev.now _).eq ?_)
  rw [if_neg h1, if_neg h2, if_neg h3, if_neg h4, if_neg h5, if_neg h6, if_neg h7]
/-- What a filter says of a row. -/
def holdsF (T : List Int) (r : List XV) (f : XFl) : Bool := holdsV (rd T f.f0) f.f1 f.f2 (rdV r f.f0)
def keepV (T : List Int) (fs : List XFl) (r : List XV) : Bool := fs.all (holdsF T r)
theorem keep_in (T : List Int) (K M G : Int) (fs : List XFl) (hfs : fs.length ≤ 1000000) (hT : ∀ f ∈ fs, 0 ≤ f.f0 ∧ f.f0 < T.length) (rows : List (List XV)) (hrows : rows.length ≤ 1000000) (i : Nat) (hi : i < rows.length) (r : List XV) (hr : ∀ f ∈ fs, f.f0 < r.length) (acc : List (List XV)) (hacc : acc.length ≤ 1000000) {R : List (List XV)}
    (hR : Ev (fun k => filter_Keep.l0 k fs (if keepV T fs r = true then acc ++ [r] else acc) rows rows.length ((i + 1 : Nat) : Int) T K M G) R) :
    ∀ (d j : Nat), j + d = fs.length → (fs.take j).all (holdsF T r) = true → Ev (fun k => filter_Keep.l1 k fs acc r rows rows.length i fs fs.length j T K M G) R
  | 0, j, hj, ha => by
    refine Ev.succ ?_
    simp only [filter_Keep.l1]
    rw [List.take_of_length_le (by omega)] at ha
    rw [show keepV T fs r = true from ha, if_pos rfl] at hR
    simp (disch := omega) only [w64]
    exact Ev.neg (by omega) (Ev.pos (by omega) hR)
  | d + 1, j, hj, ha => by
    have h : j < fs.length := by omega
    refine Ev.succ ?_
    simp only [filter_Keep.l1]
    rw [rdFl_lt fs j h]
    obtain ⟨c1, c2⟩ := hT _ (List.getElem_mem h)
    have c3 := hr _ (List.getElem_mem h)
    have hh := holds_ev (rd T fs[j].f0) fs[j].f0 fs[j].f1 fs[j].f2 (rdV r fs[j].f0)
    simp (disch := omega) only [w64]
    refine Ev.pos (by omega) (Ev.pos (by omega) (Ev.pos (by omega) (Ev.pos (by omega) (Ev.pos (by omega) (Ev.pos (by omega) (Ev.bind hh ?_))))))
    by_cases q : holdsF T r fs[j] = true
    · refine Ev.pos q ?_
      exact keep_in T K M G fs hfs hT rows hrows i hi r hr acc hacc hR d (j + 1) (by omega) (by rw [List.take_succ_eq_append_getElem h, List.all_append, ha]; simp [q])
    · refine Ev.neg q ?_
      have e : keepV T fs r = false := by
        unfold keepV
        rw [Bool.eq_false_iff]
        intro h2
        exact q (List.all_eq_true.mp h2 _ (List.getElem_mem h))
      rw [e, if_neg (by simp)] at hR
      exact hR
theorem keep_loop (T : List Int) (K M G : Int) (fs : List XFl) (hfs : fs.length ≤ 1000000) (hT : ∀ f ∈ fs, 0 ≤ f.f0 ∧ f.f0 < T.length) (rows : List (List XV)) (hrows : rows.length ≤ 1000000) (hr : ∀ r ∈ rows, ∀ f ∈ fs, f.f0 < r.length) : ∀ (d i : Nat) (acc : List (List XV)), i + d = rows.length → acc.length ≤ i → Ev (fun k => filter_Keep.l0 k fs acc rows rows.length i T K M G) (acc ++ (rows.drop i).filter (keepV T fs))
  | 0, i, acc, hi, ha => by
    refine Ev.succ ?_
    simp only [filter_Keep.l0]
    rw [List.drop_of_length_le (by omega)]
    exact Ev.neg (by omega) ((Ev.now _).eq (by simp))
  | d + 1, i, acc, hi, ha => by
    have h : i < rows.length := by omega
    refine Ev.succ ?_
    simp only [filter_Keep.l0]
    rw [rdR_lt rows i h, List.drop_eq_getElem_cons h]
    refine Ev.pos (by omega) (Ev.pos (by omega) (Ev.pos (by omega) ?_))
    refine keep_in T K M G fs hfs hT rows hrows i h rows[i] (hr _ (List.getElem_mem h)) acc (by omega) ?_ fs.length 0 (by omega) (by simp)
    have hl := keep_loop T K M G fs hfs hT rows hrows hr d (i + 1)
    by_cases q : keepV T fs rows[i] = true
    · rw [if_pos q, List.filter_cons, if_pos q]
      exact (hl (acc ++ [rows[i]]) (by omega) (by simp; omega)).eq (by simp)
    · rw [if_neg q, List.filter_cons, if_neg q]
      exact hl acc (by omega) (by omega)
theorem keep_ev (T : List Int) (K M G : Int) (fs : List XFl) (hfs : fs.length ≤ 1000000) (hT : ∀ f ∈ fs, 0 ≤ f.f0 ∧ f.f0 < T.length) (rows : List (List XV)) (hrows : rows.length ≤ 1000000) (hr : ∀ r ∈ rows, ∀ f ∈ fs, f.f0 < r.length) : Ev (fun k => filter_Keep.f k T K M G fs rows) (rows.filter (keepV T fs)) := by
  simp only [filter_Keep.f]
  have := keep_loop T K M G fs hfs hT rows hrows hr rows.length 0 [] (by omega) (by simp)
  simpa using this
end Go.Proofs.Ytbkpifcjgedjaaa.P

/- Of texts just those begin with a text that are it and something, and these stand in a row in their order; all begin with nothing: the plain law. -/
namespace Go.Proofs.Ytbkpifcjgedjaaa.Pure
open Go.RowKit Go.Proofs.Ytbkpifcjgedjaaa.P Go.Proofs.YtbkpifcjgedjaaaW.PrintWords Go.Proofs.YtbkpifcjgedjaaaW.PrintLast
set_option linter.unusedVariables false
theorem shown_ev : Ev (fun k => thresherlaw19_shown.f k) true := Ev.of thresherlaw19_shown.mono (k := 10) (by kernel_rfl)
theorem cb_pre : ∀ t u : List UInt8, Lib.compareBytes (t ++ u) t ≥ 0
  | [], [] => by simp [Lib.compareBytes]
  | [], _ :: _ => by simp [Lib.compareBytes]
  | a :: t, u => by
    rw [List.cons_append]
    unfold Lib.compareBytes
    have h : ¬ a < a := fun h => by have := UInt8.lt_iff_toNat_lt.mp h; omega
    rw [if_neg h, if_neg h]
    exact cb_pre t u
theorem isPre_list {t s : ByteArray} (h : isPre t s = true) : ∃ u, s.data.toList = t.data.toList ++ u := by
  unfold isPre at h
  rw [Bool.and_eq_true] at h
  have h2 : (s.extract 0 t.size).toList = t.toList := by simpa using h.2
  rw [ByteArray.toList_eq, ByteArray.toList_eq] at h2
  have e : (s.extract 0 t.size).data.toList = s.data.toList.take t.size := by simp [ByteArray.data_extract]
  rw [e] at h2
  exact ⟨s.data.toList.drop t.size, by rw [← h2, List.take_append_drop]⟩
theorem isPre_nil (s : ByteArray) : isPre ⟨#[]⟩ s = true := by
  unfold isPre
  have h1 : (⟨#[]⟩ : ByteArray).size = 0 := rfl
  rw [h1, decide_eq_true (Nat.zero_le _), Bool.true_and]
  have e : s.extract 0 0 = ⟨#[]⟩ := by apply ByteArray.ext; simp
  rw [e]
  simp
abbrev fB (t : ByteArray) : XFl := ⟨0, 7, ⟨0, t⟩⟩
theorem keep_pre (t : ByteArray) (r : List XV) : keepV [3] [fB t] r = isPre t (rdV r 0).f1 := by
  simp [keepV, holdsF, holdsV]
theorem keep_ge (t : ByteArray) (ht : t.size ≤ 60) (r : List XV) (h0 : (rdV r 0).f0 = 0) (hs : (rdV r 0).f1.size ≤ 60) : keepV [3] [fB t, (⟨0, 6, ⟨0, t⟩⟩ : XFl)] r = isPre t (rdV r 0).f1 := by
  have e : keepV [3] [fB t, (⟨0, 6, ⟨0, t⟩⟩ : XFl)] r = (isPre t (rdV r 0).f1 && decide (cmpV 3 (rdV r 0) ⟨0, t⟩ ≥ 0)) := by
    simp [keepV, holdsF, holdsV, rd]
  rw [e]
  cases q : isPre t (rdV r 0).f1
  · rfl
  · rw [Bool.true_and]
    apply decide_eq_true
    unfold cmpV
    split
    · rw [if_pos rfl]
      obtain ⟨u, hu⟩ := isPre_list q
      rw [hu]
      exact cb_pre _ u
    · omega
def cut60 (s : ByteArray) : ByteArray := s.extract 0 (min s.size 60)
theorem cut60_size (s : ByteArray) : (cut60 s).size ≤ 60 := by unfold cut60; rw [ByteArray.size_extract]; omega
def rowOf (s : ByteArray) : List XV := [⟨0, cut60 s⟩]
theorem mn_toNat (s : ByteArray) : (mn (s.size : Int) 60).toNat = min s.size 60 := by unfold mn; split <;> omega
theorem mn_lo (s : ByteArray) : 0 ≤ mn (s.size : Int) 60 ∧ mn (s.size : Int) 60 ≤ (s.size : Int) := by unfold mn; split <;> omega
theorem may_ev (t : ByteArray) (ht : t.size ≤ 60) : Ev (fun k => filter_May.f k [3] 1 1 1 [fB t]) true := by
  simp only [filter_May.f]
  refine Ev.succ ?_
  simp only [filter_May.l0]
  refine Ev.pos (by simp) (Ev.pos (by simp) (Ev.pos (by simp) ?_))
  have e0 : rd_T39 [fB t] 0 = fB t := rfl
  rw [e0]
  refine Ev.neg (by simp) (Ev.succ ?_)
  simp only [filter_May.j1]
  have hv := vfits_ev 3 0 t
  have e : fitT 3 ⟨0, t⟩ = true := by unfold fitT; simp; omega
  rw [e] at hv
  refine Ev.neg (by simp) (Ev.pos (by simp) (Ev.pos (by simp) (Ev.bind hv (Ev.pos rfl (Ev.neg (by simp) (Ev.succ ?_))))))
  simp only [filter_May.j2]
  refine Ev.neg (by simp) (Ev.pos (by simp) (Ev.pos (by simp) (Ev.pos (by simp) (Ev.pos (by rfl) ?_))))
  refine Ev.succ ?_
  simp only [filter_May.l0]
  exact Ev.neg (by simp [wrap64]) ((Ev.now _).eq (by simp))
section
variable (t : ByteArray) (ht : t.size ≤ 60) (rows : List (List XV)) (hlen : rows.length ≤ 60) (hr : ∀ r ∈ rows, ∃ s : ByteArray, r = [⟨0, s⟩] ∧ s.size ≤ 60)
include ht hlen hr
theorem begins_loop : ∀ (d i : Nat), i + d = rows.length → Ev (fun k => thresherlaw19_FilterBegins.l1 k t true rows (rows.filter (keepV [3] [fB t])) ((rows.take i).filter (keepV [3] [fB t])).length i [3] 1 1 1 0 7 0 t) true
  | 0, i, hi => by
    refine Ev.succ ?_
    simp only [thresherlaw19_FilterBegins.l1]
    have hwide : ∀ r ∈ rows, r.length = 1 := fun r h => by obtain ⟨s, rfl, _⟩ := hr r h; rfl
    have k1 := keep_ev [3] 1 1 1 [fB ⟨#[]⟩] (by simp) (by simp) rows (by omega) (fun r h f hf => by have := hwide r h; simp at hf; subst hf; simp; omega)
    have k2 := keep_ev [3] 1 1 1 [fB t, (⟨0, 6, ⟨0, t⟩⟩ : XFl)] (by simp) (by simp) rows (by omega) (fun r h f hf => by have := hwide r h; simp at hf; rcases hf with rfl | rfl <;> simp <;> omega)
    have e1 : rows.filter (keepV [3] [fB ⟨#[]⟩]) = rows := List.filter_eq_self.mpr (fun r _ => by rw [keep_pre]; exact isPre_nil _)
    have e2 : rows.filter (keepV [3] [fB t, (⟨0, 6, ⟨0, t⟩⟩ : XFl)]) = rows.filter (keepV [3] [fB t]) := List.filter_congr (fun r h => by
      obtain ⟨s, rfl, hs⟩ := hr r h
      rw [keep_ge t ht [(⟨0, s⟩ : XV)] rfl hs, keep_pre])
    rw [e1] at k1
    rw [e2] at k2
    rw [List.take_of_length_le (by omega)]
    refine Ev.neg (by omega) (Ev.bind k1 (Ev.bind k2 (Ev.pos (by simp) (Ev.pos (by simp) (Ev.pos (by simp) (Ev.pos (by simp) (Ev.bind (may_ev t ht) (Ev.now _))))))))
  | d + 1, i, hi => by
    have h : i < rows.length := by omega
    refine Ev.succ ?_
    simp only [thresherlaw19_FilterBegins.l1]
    obtain ⟨s, es, hs⟩ := hr _ (List.getElem_mem h)
    rw [rdR_lt rows i h, es]
    have e0 : (rd_T37 [(⟨0, s⟩ : XV)] 0).f1 = s := rfl
    rw [e0]
    have hl := List.length_filter_le (keepV [3] [fB t]) (rows.take i)
    rw [List.length_take] at hl
    have hkeep : keepV [3] [fB t] rows[i] = isPre t s := by rw [keep_pre, es]; rfl
    have htake : (rows.take (i + 1)).filter (keepV [3] [fB t]) = (rows.take i).filter (keepV [3] [fB t]) ++ (if isPre t s = true then [rows[i]] else []) := by
      rw [List.take_succ_eq_append_getElem h, List.filter_append, List.filter_cons, hkeep]
      rfl
    have hj3 : Ev (fun k => thresherlaw19_FilterBegins.j3 k t true rows (rows.filter (keepV [3] [fB t])) ((rows.take i).filter (keepV [3] [fB t])).length i s (isPre t s) [3] 1 1 1 0 7 0 t) true := by
      refine Ev.succ ?_
      simp only [thresherlaw19_FilterBegins.j3]
      have hnext := begins_loop d (i + 1) (by omega)
      by_cases q : isPre t s = true
      · rw [htake, if_pos q, List.length_append] at hnext
        have hk : rows.filter (keepV [3] [fB t]) = (rows.take i).filter (keepV [3] [fB t]) ++ rows[i] :: (rows.drop (i + 1)).filter (keepV [3] [fB t]) := by
          conv => lhs; rw [← List.take_append_drop i rows, List.drop_eq_getElem_cons h]
          rw [List.filter_append, List.filter_cons, hkeep, if_pos q]
        have hlt : ((rows.take i).filter (keepV [3] [fB t])).length < (rows.filter (keepV [3] [fB t])).length := by rw [hk, List.length_append, List.length_cons]; omega
        have hat : rd_L4 (rows.filter (keepV [3] [fB t])) ((rows.take i).filter (keepV [3] [fB t])).length = [⟨0, s⟩] := by
          rw [rdR_lt _ _ hlt, ← es]
          have := List.getElem_of_eq hk hlt
          rw [this, List.getElem_append_right (Nat.le_refl _)]
          simp
        rw [hat]
        refine Ev.pos q (Ev.neg (by omega) (Ev.pos (by omega) (Ev.pos (by omega) (Ev.pos (by simp) (Ev.pos (by simp) (Ev.succ ?_))))))
        simp only [thresherlaw19_FilterBegins.j4]
        rw [e0]
        refine Ev.neg (by simp) ?_
        simp (disch := omega) only [w64]
        exact hnext
      · rw [htake, if_neg q, List.append_nil] at hnext
        refine Ev.neg q ?_
        simp (disch := omega) only [w64]
        exact hnext
    refine Ev.pos (by omega) (Ev.pos (by omega) (Ev.pos (by simp) ?_))
    by_cases q : (s.size : Int) ≥ (t.size : Int)
    · refine Ev.pos q (Ev.pos (by omega) (Ev.pos (by omega) ?_))
      have e : ((s.extract 0 ((t.size : Int)).toNat).toList == t.toList) = isPre t s := by unfold isPre; rw [decide_eq_true (by omega), Bool.true_and, Int.toNat_natCast]
      rw [e]
      exact hj3
    · have e : isPre t s = false := by unfold isPre; rw [decide_eq_false (by omega), Bool.false_and]
      rw [e] at hj3
      exact Ev.neg q hj3
theorem begins_j1 : Ev (fun k => thresherlaw19_FilterBegins.j1 k t true rows [3] 1 1 1) true := by
  refine Ev.succ ?_
  simp only [thresherlaw19_FilterBegins.j1]
  have hwide : ∀ r ∈ rows, r.length = 1 := fun r h => by obtain ⟨s, rfl, _⟩ := hr r h; rfl
  have k1 := keep_ev [3] 1 1 1 [fB t] (by simp) (by simp) rows (by omega) (fun r h f hf => by have := hwide r h; simp at hf; subst hf; simp; omega)
  refine Ev.bind k1 ?_
  have := begins_loop t ht rows hlen hr rows.length 0 (by omega)
  simpa using this
end
theorem rows_l0 (t : ByteArray) (ht : t.size ≤ 60) (l : List ByteArray) : ∀ (d i : Nat), i + d = min l.length 60 → Ev (fun k => thresherlaw19_FilterBegins.l0 k l t true ((l.take i).map rowOf) i [3] 1 1 1) true
  | 0, i, hi => by
    refine Ev.succ ?_
    simp only [thresherlaw19_FilterBegins.l0]
    have hj := begins_j1 t ht ((l.take i).map rowOf) (by rw [List.length_map, List.length_take]; omega) (fun r hr => by obtain ⟨s, _, rfl⟩ := List.mem_map.mp hr; exact ⟨_, rfl, cut60_size s⟩)
    by_cases h : (i : Int) < l.length
    · exact Ev.pos h (Ev.neg (by omega) hj)
    · exact Ev.neg h hj
  | d + 1, i, hi => by
    have h : i < l.length := by omega
    refine Ev.succ ?_
    simp only [thresherlaw19_FilterBegins.l0]
    have e : rdOf ByteArray.empty l i = l[i] := by unfold rdOf; simp [List.getD, h]
    rw [e, mn_toNat]
    obtain ⟨m1, m2⟩ := mn_lo l[i]
    refine Ev.pos (by omega) (Ev.pos (by omega) (Ev.pos (by omega) (Ev.pos m1 (Ev.pos m2 (Ev.pos (by rw [List.length_map, List.length_take]; omega) ?_)))))
    clear m1 m2
    simp (disch := omega) only [w64]
    have hn := rows_l0 t ht l d (i + 1) (by omega)
    rw [List.take_succ_eq_append_getElem h, List.map_append] at hn
    exact hn
theorem FilterBegins : thresherlaw19_FilterBegins.PureG := by
  intro l t _ _
  apply Ev.rounds
  simp only [thresherlaw19_FilterBegins.f]
  obtain ⟨m1, m2⟩ := mn_lo t
  rw [mn_toNat]
  refine Ev.bind shown_ev (Ev.pos m1 (Ev.pos m2 ?_))
  exact rows_l0 (cut60 t) (cut60_size t) l (min l.length 60) 0 (by omega)
end Go.Proofs.Ytbkpifcjgedjaaa.Pure

-- Written by wip/tools/myprint.py: the row of FilterBegins, out of its plain law and its walk.
namespace Go.Proofs.Ytbkpifcjgedjaaa.filterBegins
open Go.ChangeShapes Go.WideShapes Go.ChangeAt Go.RowKit Go.Proofs.Ytbkpifcjgedjaaa.P Go.Proofs.YtbkpifcjgedjaaaW.PrintWords
set_option linter.unusedVariables false
set_option linter.unusedSimpArgs false
theorem own : ownKnob Try.prog.godebug = none := by kernel_rfl
theorem laidOut : laidOutB Try.prog = true := by kernel_rfl
set_option maxRecDepth 100000 in
theorem lifted (os : Os) (started : os.Started) (H : Type) (enc : TypeId × Value → H) :
    ReturnsInHanded {} Try.checked os 7 .any (Rows.filterBeginsSpec.pre6 enc Try.prog Try.f7 Rows.filterBeginsRow.domain false) (Rows.filterBeginsSpec.post enc Try.prog Try.f7 false true false false) := by
  refine returnsInHanded_of_change_sized (C := Try.checked) own started (by kernel_rfl) Try.func7
    (ChangeSpec.witness6 (enc := enc) (C := Try.checked) false ⟨#[], #[.slice none 0 0, .string ByteArray.empty], []⟩ 8 (by kernel_rfl) (by kernel_rfl) (by kernel_rfl) (by kernel_rfl)) ?_
  intro W base args ds gs before hval0 hW hcnd hsz0 _
  have hval : ∀ (j : Nat) t v, Try.f7.params[j]? = some t → args[j]? = some v → Value.okWide Try.prog W .any base t v := hval0
  have hW' := hW
  obtain ⟨p, q, hA0, hV, rfl, hfz, hnd⟩ := hW
  have hA : DataW.TrodAll enc Try.prog W 0 (fun _ => true) true Try.f7.params.toList args.toList ds p := hA0
  rw [Try.params7] at hA hval
  obtain ⟨v0, vs0, d0, ds0, p0, q0, hargs, rfl, rfl, h0, r0⟩ := trodAll_cons hA
  obtain ⟨v1, vs1, d1, ds1, p1, q1, rfl, rfl, rfl, h1, r1⟩ := trodAll_cons r0
  obtain ⟨rfl, rfl, rfl⟩ := trodAll_nil r1
  obtain rfl : args = #[v0, v1] := by cases args; simp_all
  obtain ⟨rfl, rfl⟩ := trodVars_none hV
  have lt0 : ∀ x ∈ p0, x.block < W.heap.size := by obtain ⟨m, hm⟩ := h0; exact DataW.trod_lt m _ _ _ hm
  obtain ⟨x0, K0, g0⟩ := ((opens_slice Try.underlying56 (by kernel_rfl) (opens_string Try.underlying9))).arg h0
  obtain ⟨a0, len0, cap0, rfl⟩ := okWide_slice Try.underlying56 (hval 0 56 v0 rfl rfl)
  obtain ⟨A0, c0, e0, hl0, hr0⟩ := K0
  simp [Value.cells] at e0
  obtain ⟨rfl, rfl, rfl⟩ := e0
  have lt1 : ∀ x ∈ p1, x.block < W.heap.size := by obtain ⟨m, hm⟩ := h1; exact DataW.trod_lt m _ _ _ hm
  obtain ⟨x1, K1, g1⟩ := ((opens_string Try.underlying9)).arg h1
  obtain ⟨b1, rfl⟩ := okWide_string Try.underlying9 (hval 1 9 v1 rfl rfl)
  have e1 : b1 = x1 := by simpa [Value.cells, Kd.string, Kd.scalar] using K1
  subst e1
  obtain ⟨k, hk⟩ := Pure.FilterBegins x0 b1 g0 g1
  have call : Calls Try.prog 7 #[.slice a0 x0.length cap0, .string b1] W fun e W' => e = .returned (.bool true) ∧ Below W.heap.size W W' := by
    refine (thresherlaw19_FilterBegins.calls k _ _ _ _ true W hr0 hl0 hk).mono ?_
    rintro e w' ⟨rfl, hd⟩
    exact ⟨rfl, hd⟩
  refine call.mono fun e W' ⟨he, bel⟩ => ?_
  subst he
  exact ⟨_, rfl, _, _, _, [], _, [], hW', trodAll_mk1 (shut_bool Try.underlying4 _), (trodAll_cons_mk (Below.trod laidOut (by kernel_rfl) (of_decide_eq_true (by kernel_rfl)) h0 bel lt0) (trodAll_cons_mk (Below.trod laidOut (by kernel_rfl) (of_decide_eq_true (by kernel_rfl)) h1 bel lt1) trodAll_mk0)), rfl, bel.frame _, fun h => by cases h⟩
theorem over : Rows.filterBeginsRow.holds Try.pinned (OpenSpec.ofChange Rows.filterBeginsSpec) :=
  OpenClaim.holds_of_wide 7 Try.f7 rfl rfl rfl rfl rfl rfl rfl ⟨rfl, rfl, rfl, rfl, rfl⟩ rfl rfl rfl rfl rfl (by kernel_rfl) Try.func7 (by kernel_rfl)
    (of_decide_eq_true (by kernel_rfl)) (by unfold Func.isWrapper; first | (rw [if_pos (by decide +kernel)]; kernel_rfl) | (rw [if_neg (by decide +kernel)]; exact ⟨rfl, rfl⟩))
    (fun os started H enc _ => lifted os started H enc)
theorem proved : Rows.FilterBeginsSaid := over
#print axioms proved
end Go.Proofs.Ytbkpifcjgedjaaa.filterBegins
namespace Go.Proofs.Ytbkpifcjgedjaaa
/-- The row, under a short name, for the claim. -/
theorem filterBegins_holds : Rows.FilterBeginsSaid := filterBegins.proved
end Go.Proofs.Ytbkpifcjgedjaaa

