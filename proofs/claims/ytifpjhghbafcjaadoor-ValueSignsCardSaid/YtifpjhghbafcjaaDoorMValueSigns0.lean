/- The row of ValueSigns. Merged: SValueSigns, X3Base, X3Ord, X3Val, X3Law, X3Dig, PureValueSigns, RValueSigns. -/
import Derived.Test.YtifpjhghbafcjaaDoorPx6
import Derived.Test.YtifpjhghbafcjaaDoorO
import Derived.Test.YtifpjhghbafcjaaDoorPx0
import Derived.Test.YtifpjhghbafcjaaDoorHBase
import Derived.Lib.Bytealg
import Derived.Test.YtifpjhghbafcjaaDoorPx3
import Derived.Test.YtifpjhghbafcjaaDoorPx2
import Derived.Test.YtifpjhghbafcjaaDoorPx4
import Derived.Test.YtifpjhghbafcjaaDoorRows
import Derived.WalkKit
import Derived.ProofKit
import Derived.OpenShut
import Derived.ShutString
import Derived.ChangeOld
import Derived.Below
import Derived.SizedLaws
import Derived.Test.YtifpjhghbafcjaaDoorHLaid
import Derived.Test.YtifpjhghbafcjaaDoorCards
import Derived.Test.YtifpjhghbafcjaaDoorTie
import Derived.SevenTiedAt
import Derived.LaidMore
import Derived.Stop.Joined
-- Written by wip/tools/myprint.py: the plain statement of ValueSigns.
namespace Go.Proofs.YtifpjhghbafcjaaDoor.P
open Go.RowKit Go.Proofs.YtifpjhghbafcjaaDoorW.PrintWords
def thresherlaw03_ValueSigns.PureG : Prop := ∀ (x0 : S30) (x1 : ByteArray) (x2 : ByteArray), gd30 x0 → x1.size ≤ maxLen → x2.size ≤ maxLen → ∃ k, thresherlaw03_ValueSigns.f k x0.f0 x0.f1 x1 x2 = some true
end Go.Proofs.YtifpjhghbafcjaaDoor.P

/- Values, and the types that they fit. -/
namespace Go.Proofs.YtifpjhghbafcjaaDoor.P
open Go.RowKit Go.Proofs.YtifpjhghbafcjaaDoorW.PrintWords Go.Proofs.YtifpjhghbafcjaaDoorW.PrintLast Go.Proofs.YtifpjhghbafcjaaDoorW.PrintMore
set_option linter.unusedVariables false
set_option linter.unusedSimpArgs false

abbrev XV := S23
/-- Does a value fit a type? -/
def fitT (t : Int) (v : XV) : Bool := if t = 1 ∨ t = 2 then v.f1.toList == ([] : List UInt8) else if t = 3 then (if v.f0 = 0 then decide ((v.f1.size : Int) ≤ 60) else false) else false
/-- The value made to fit a type. -/
def fit1 (t : Int) (v : XV) : XV := if t = 3 then ⟨0, if (v.f1.size : Int) > 60 then v.f1.extract 0 60 else v.f1⟩ else ⟨v.f0, ⟨#[]⟩⟩
theorem fitT_fit1 (t : Int) (v : XV) (h1 : 1 ≤ t) (h3 : t ≤ 3) : fitT t (fit1 t v) = true := by
  unfold fitT fit1
  by_cases e : t = 3
  · subst e
    simp only [if_true, if_pos rfl]
    rw [if_neg (by omega)]
    rw [decide_eq_true_iff]
    split
    · simp only [ByteArray.size_extract]; omega
    · omega
  · rw [if_pos (by omega), if_neg e]
    simp [ByteArray.toList_eq]
theorem bytes_eq {a b : ByteArray} (h : a.toList = b.toList) : a = b := by
  rw [ByteArray.toList_eq, ByteArray.toList_eq] at h
  exact ByteArray.ext (Array.toList_inj.mp h)
theorem XV.same {a b : XV} : (!(a.f0 == b.f0) || (!(a.f1.toList == b.f1.toList))) = true ↔ a ≠ b := by
  constructor
  · rintro h rfl
    simp at h
  · intro h
    by_cases h0 : a.f0 = b.f0
    · by_cases h1 : a.f1.toList = b.f1.toList
      · exact absurd (by cases a; cases b; simp only at h0 h1; rw [h0, bytes_eq h1]) h
      · simp [h1]
    · simp [h0]
instance : DecidableEq XV := fun a b => if h : (!(a.f0 == b.f0) || (!(a.f1.toList == b.f1.toList))) = true then isFalse (XV.same.mp h) else isTrue (Classical.byContradiction fun e => h (XV.same.mpr e))
end Go.Proofs.YtifpjhghbafcjaaDoor.P

/- The order of values and of rows. -/
namespace Go.Proofs.YtifpjhghbafcjaaDoor.P
open Go.RowKit Go.Proofs.YtifpjhghbafcjaaDoorW.PrintWords Go.Proofs.YtifpjhghbafcjaaDoorW.PrintLast Go.Proofs.YtifpjhghbafcjaaDoorW.PrintMore
set_option linter.unusedVariables false
set_option linter.unusedSimpArgs false

theorem cb_rng : ∀ a b : List UInt8, Lib.compareBytes a b = -1 ∨ Lib.compareBytes a b = 0 ∨ Lib.compareBytes a b = 1
  | [], [] => by simp [Lib.compareBytes]
  | [], _ :: _ => by simp [Lib.compareBytes]
  | _ :: _, [] => by simp [Lib.compareBytes]
  | a :: xs, b :: ys => by
    unfold Lib.compareBytes
    split
    · simp
    · split
      · simp
      · exact cb_rng xs ys
theorem u8_tri (a b : UInt8) : (a < b ∧ ¬ b < a) ∨ (b < a ∧ ¬ a < b) ∨ (a = b ∧ ¬ a < b ∧ ¬ b < a) := by
  rcases Nat.lt_trichotomy a.toNat b.toNat with h | h | h
  · exact Or.inl ⟨UInt8.lt_iff_toNat_lt.mpr h, fun h2 => by have := UInt8.lt_iff_toNat_lt.mp h2; omega⟩
  · have e : a = b := UInt8.toNat_inj.mp h
    subst e
    exact Or.inr (Or.inr ⟨rfl, fun h2 => by have := UInt8.lt_iff_toNat_lt.mp h2; omega, fun h2 => by have := UInt8.lt_iff_toNat_lt.mp h2; omega⟩)
  · exact Or.inr (Or.inl ⟨UInt8.lt_iff_toNat_lt.mpr h, fun h2 => by have := UInt8.lt_iff_toNat_lt.mp h2; omega⟩)
theorem cb_anti : ∀ a b : List UInt8, Lib.compareBytes b a = - Lib.compareBytes a b
  | [], [] => by simp [Lib.compareBytes]
  | [], _ :: _ => by simp [Lib.compareBytes]
  | _ :: _, [] => by simp [Lib.compareBytes]
  | a :: xs, b :: ys => by
    unfold Lib.compareBytes
    rcases u8_tri a b with ⟨h1, h2⟩ | ⟨h1, h2⟩ | ⟨h0, h1, h2⟩
    · rw [if_neg h2, if_pos h1, if_pos h1]; rfl
    · rw [if_pos h1, if_neg h2, if_pos h1]
    · rw [if_neg h2, if_neg h1, if_neg h1, if_neg h2]; exact cb_anti xs ys
theorem cb_zero : ∀ a b : List UInt8, Lib.compareBytes a b = 0 ↔ a = b
  | [], [] => by simp [Lib.compareBytes]
  | [], _ :: _ => by simp [Lib.compareBytes]
  | _ :: _, [] => by simp [Lib.compareBytes]
  | a :: xs, b :: ys => by
    unfold Lib.compareBytes
    rcases u8_tri a b with ⟨h1, h2⟩ | ⟨h1, h2⟩ | ⟨h0, h1, h2⟩
    · rw [if_pos h1]
      exact ⟨fun h => by omega, fun h => absurd h1 (by rw [(List.cons.inj h).1] at h2 ⊢; rw [(List.cons.inj h).1] at h1; exact h2)⟩
    · rw [if_neg h2, if_pos h1]
      exact ⟨fun h => by omega, fun h => absurd h1 (by rw [(List.cons.inj h).1] at h1; rw [(List.cons.inj h).1] at h2; exact absurd h1 h2)⟩
    · rw [if_neg h1, if_neg h2, cb_zero xs ys, h0]
      exact ⟨fun h => by rw [h], fun h => (List.cons.inj h).2⟩
theorem cb_trans : ∀ a b c : List UInt8, Lib.compareBytes a b ≤ 0 → Lib.compareBytes b c ≤ 0 → Lib.compareBytes a c ≤ 0
  | [], _, [], _, _ => by simp [Lib.compareBytes]
  | [], _, _ :: _, _, _ => by simp [Lib.compareBytes]
  | _ :: _, [], _, h, _ => by simp [Lib.compareBytes] at h
  | _ :: _, _ :: _, [], _, h => by simp [Lib.compareBytes] at h
  | a :: xs, b :: ys, c :: zs, h1, h2 => by
    unfold Lib.compareBytes at h1 h2 ⊢
    rcases u8_tri a b with ⟨p1, p2⟩ | ⟨p1, p2⟩ | ⟨p0, p1, p2⟩
    · rcases u8_tri b c with ⟨q1, q2⟩ | ⟨q1, q2⟩ | ⟨q0, q1, q2⟩
      · rw [if_pos (UInt8.lt_trans p1 q1)]; omega
      · rw [if_neg q2, if_pos q1] at h2; omega
      · subst q0; rw [if_pos p1]; omega
    · rw [if_neg p2, if_pos p1] at h1; omega
    · subst p0
      rw [if_neg p1, if_neg p2] at h1
      rcases u8_tri a c with ⟨q1, q2⟩ | ⟨q1, q2⟩ | ⟨q0, q1, q2⟩
      · rw [if_pos q1]; omega
      · rw [if_neg q2, if_pos q1] at h2; omega
      · rw [if_neg q1, if_neg q2] at h2 ⊢
        exact cb_trans xs ys zs h1 h2

/-- A value's number is one of 64 bits. -/
def GV (v : XV) : Prop := -9223372036854775808 ≤ v.f0 ∧ v.f0 ≤ 9223372036854775807
def sgn (x y : Int) : Int := if x < y then -1 else if x > y then 1 else 0
def un (x : Int) : Int := x % 18446744073709551616
def cmpV (t : Int) (a b : XV) : Int := if fitT t a = true ∧ fitT t b = true then (if t = 3 then Lib.compareBytes a.f1.data.toList b.f1.data.toList else if t = 2 then sgn (un a.f0) (un b.f0) else sgn a.f0 b.f0) else 0
theorem sgn_rng (x y : Int) : sgn x y = -1 ∨ sgn x y = 0 ∨ sgn x y = 1 := by unfold sgn; split <;> (try split) <;> simp
theorem cmpV_rng (t : Int) (a b : XV) : cmpV t a b = -1 ∨ cmpV t a b = 0 ∨ cmpV t a b = 1 := by
  unfold cmpV
  split
  · split
    · exact cb_rng _ _
    · split <;> exact sgn_rng _ _
  · simp
theorem cmpV_anti (t : Int) (a b : XV) : cmpV t b a = - cmpV t a b := by
  unfold cmpV
  by_cases h : fitT t a = true ∧ fitT t b = true
  · rw [if_pos h, if_pos h.symm]
    split
    · exact cb_anti _ _
    · split <;> (unfold sgn; split <;> split <;> (try split) <;> omega)
  · rw [if_neg h, if_neg (fun q => h q.symm)]
    rfl
theorem fit_empty {t : Int} {a : XV} (h : fitT t a = true) (h3 : t ≠ 3) : a.f1 = ⟨#[]⟩ := by
  unfold fitT at h
  split at h
  · have h2 : a.f1.toList = [] := by simpa using h
    exact bytes_eq (by rw [h2]; simp [ByteArray.toList_eq])
  · first | exact absurd h (by simp) | (rw [if_neg h3] at h; exact absurd h (by simp))
theorem fit_zero {t : Int} {a : XV} (h : fitT t a = true) (h3 : t = 3) : a.f0 = 0 := by
  subst h3
  unfold fitT at h
  rw [if_neg (by omega), if_pos rfl] at h
  split at h
  · assumption
  · exact absurd h (by simp)
theorem XV.ext2 {a b : XV} (h0 : a.f0 = b.f0) (h1 : a.f1 = b.f1) : a = b := by cases a; cases b; simp only at h0 h1; rw [h0, h1]
theorem cmpV_zero (t : Int) (a b : XV) (ha : fitT t a = true) (hb : fitT t b = true) (ga : GV a) (gb : GV b) : cmpV t a b = 0 ↔ a = b := by
  unfold cmpV
  rw [if_pos ⟨ha, hb⟩]
  obtain ⟨g1, g2⟩ := ga
  obtain ⟨g3, g4⟩ := gb
  by_cases e : t = 3
  · rw [if_pos e, cb_zero]
    exact ⟨fun h => XV.ext2 (by rw [fit_zero ha e, fit_zero hb e]) (ByteArray.ext (Array.toList_inj.mp h)), fun h => by rw [h]⟩
  · rw [if_neg e]
    have key : a = b ↔ a.f0 = b.f0 := ⟨fun h => by rw [h], fun h => XV.ext2 h (by rw [fit_empty ha e, fit_empty hb e])⟩
    rw [key]
    split
    · unfold sgn un; split <;> (try split) <;> omega
    · unfold sgn; split <;> (try split) <;> omega
theorem sgn_trans (x y z : Int) : sgn x y ≤ 0 → sgn y z ≤ 0 → sgn x z ≤ 0 := by
  unfold sgn
  intro h1 h2
  split
  · omega
  · split
    · exfalso
      by_cases p : x < y
      · by_cases q : y < z
        · omega
        · rw [if_neg q] at h2
          by_cases r : y > z
          · rw [if_pos r] at h2; omega
          · omega
      · rw [if_neg p] at h1
        by_cases r : x > y
        · rw [if_pos r] at h1; omega
        · by_cases q : y < z
          · omega
          · rw [if_neg q] at h2
            by_cases r : y > z
            · rw [if_pos r] at h2; omega
            · omega
    · omega
def cmpC (t : Int) (a b : XV) : Int := if t = 3 then Lib.compareBytes a.f1.data.toList b.f1.data.toList else if t = 2 then sgn (un a.f0) (un b.f0) else sgn a.f0 b.f0
theorem cmpV_fit {t : Int} {a b : XV} (ha : fitT t a = true) (hb : fitT t b = true) : cmpV t a b = cmpC t a b := by
  unfold cmpV cmpC
  rw [if_pos ⟨ha, hb⟩]
theorem cmpV_trans (t : Int) (a b c : XV) (ha : fitT t a = true) (hb : fitT t b = true) (hc : fitT t c = true) : cmpV t a b ≤ 0 → cmpV t b c ≤ 0 → cmpV t a c ≤ 0 := by
  rw [cmpV_fit ha hb, cmpV_fit hb hc, cmpV_fit ha hc]
  unfold cmpC
  by_cases e : t = 3
  · rw [if_pos e, if_pos e, if_pos e]
    exact cb_trans _ _ _
  · rw [if_neg e, if_neg e, if_neg e]
    by_cases e2 : t = 2
    · rw [if_pos e2, if_pos e2, if_pos e2]
      exact sgn_trans _ _ _
    · rw [if_neg e2, if_neg e2, if_neg e2]
      exact sgn_trans _ _ _

end Go.Proofs.YtifpjhghbafcjaaDoor.P

/- value.Compare tells the order of values. -/
namespace Go.Proofs.YtifpjhghbafcjaaDoor.P
open Go.RowKit Go.Proofs.YtifpjhghbafcjaaDoorW.PrintWords Go.Proofs.YtifpjhghbafcjaaDoorW.PrintLast Go.Proofs.YtifpjhghbafcjaaDoorW.PrintMore
set_option linter.unusedVariables false
set_option linter.unusedSimpArgs false

theorem vfits_f (k : Nat) (t n : Int) (s : ByteArray) : value_Fits.f (k + 1) t n s = some (fitT t ⟨n, s⟩) := by
  unfold value_Fits.f fitT
  by_cases h1 : t = 1
  · rw [if_pos h1, if_pos (Or.inl h1)]
    subst h1
    rfl
  · rw [if_neg h1]
    by_cases h2 : t = 2
    · rw [if_pos (Or.inr h2)]
      subst h2
      rfl
    · rw [if_neg (by omega), show (t == 2) = false by simpa using h2]
      simp only [value_Fits.j0, Bool.false_eq_true, if_false]
      by_cases h3 : t = 3
      · rw [if_pos h3, if_pos h3]
        split <;> rfl
      · rw [if_neg h3, if_neg h3]
theorem vfits_ev (t n : Int) (s : ByteArray) : Ev (fun k => value_Fits.f k t n s) (fitT t ⟨n, s⟩) := Ev.succ ⟨0, fun k _ => vfits_f k t n s⟩
theorem cmpu_f (x y : Int) : cmp_Compare_uint64.f x y = some (sgn x y) := by
  simp only [cmp_Compare_uint64.f, cmp_isNaN_uint64.f, bne_self_eq_false, Option.bind_some, Bool.false_eq_true, if_false]
  unfold sgn
  split
  · rfl
  · split <;> rfl
theorem cmpi_f (x y : Int) : cmp_Compare_int64.f x y = some (sgn x y) := by
  simp only [cmp_Compare_int64.f, cmp_isNaN_int64.f, bne_self_eq_false, Option.bind_some, Bool.false_eq_true, if_false]
  unfold sgn
  split
  · rfl
  · split <;> rfl
theorem vcmp_ev (t : Int) (a b : XV) : Ev (fun k => value_Compare.f k t a.f0 a.f1 b.f0 b.f1) (cmpV t a b) := by
  simp only [value_Compare.f]
  refine Ev.bind (vfits_ev t a.f0 a.f1) ?_
  by_cases ha : fitT t a = true
  · refine Ev.pos ha (Ev.bind (vfits_ev t b.f0 b.f1) (Ev.succ ?_))
    simp only [value_Compare.j0]
    by_cases hb : fitT t b = true
    · rw [cmpV_fit ha hb]
      refine Ev.neg (fun h => ?_) ?_
      · rw [show fitT t ⟨b.f0, b.f1⟩ = true from hb] at h
        exact absurd h (by simp)
      · by_cases e3 : t = 3
        · refine (Ev.pos e3 (Ev.bindc rfl (Ev.now _))).eq ?_
          unfold cmpC
          rw [if_pos e3]
        · refine Ev.neg e3 ?_
          by_cases e2 : t = 2
          · refine (Ev.pos e2 (Ev.bindc (cmpu_f _ _) (Ev.now _))).eq ?_
            unfold cmpC
            rw [if_neg e3, if_pos e2]
            rfl
          · refine (Ev.neg e2 (Ev.bindc (cmpi_f _ _) (Ev.now _))).eq ?_
            unfold cmpC
            rw [if_neg e3, if_neg e2]
    · refine (Ev.pos ?_ (Ev.now _)).eq ?_
      · rw [show fitT t ⟨b.f0, b.f1⟩ = false from Bool.eq_false_iff.mpr hb]
        rfl
      · unfold cmpV
        rw [if_neg (fun h => hb h.2)]
  · refine Ev.neg ha (Ev.succ ?_)
    simp only [value_Compare.j0]
    refine (Ev.pos (by simp) (Ev.now _)).eq ?_
    unfold cmpV
    rw [if_neg (fun h => ha h.1)]
end Go.Proofs.YtifpjhghbafcjaaDoor.P

/- The document's example; a type out of a byte; a value made to fit. -/
namespace Go.Proofs.YtifpjhghbafcjaaDoor.P
open Go.RowKit Go.Proofs.YtifpjhghbafcjaaDoorW.PrintWords Go.Proofs.YtifpjhghbafcjaaDoorW.PrintLast Go.Proofs.YtifpjhghbafcjaaDoorW.PrintMore
set_option linter.unusedVariables false
set_option linter.unusedSimpArgs false

theorem arr_toList (l : List UInt8) : (⟨l.toArray⟩ : ByteArray).toList = l := by rw [ByteArray.toList_eq]
theorem dd_step (u : Nat) (h : ¬ u < 10) : Lib.decDigits u = Lib.decDigits (u / 10) ++ [UInt8.ofNat (48 + u % 10)] := by rw [Lib.decDigits, dif_neg h]
theorem dd_max : Lib.decDigits 18446744073709551615 = [49, 56, 52, 52, 54, 55, 52, 52, 48, 55, 51, 55, 48, 57, 53, 53, 49, 54, 49, 53] := by
  repeat rw [dd_step _ (by decide)]
  rw [Lib.decDigits_one (by decide)]
  decide
theorem shown_ev : Ev (fun k => thresherlaw03_shown.f k) true := by
  have e : value_Text.f 2 (-1) (⟨#[]⟩ : ByteArray) = some ⟨([49, 56, 52, 52, 54, 55, 52, 52, 48, 55, 51, 55, 48, 57, 53, 53, 49, 54, 49, 53] : List UInt8).toArray⟩ := by
    unfold value_Text.f
    rw [if_neg (by decide), if_pos rfl, if_pos (show (⟨#[]⟩ : ByteArray).size = 0 from rfl), show (-1 % 18446744073709551616 : Int).toNat = 18446744073709551615 from rfl, dd_max]
  simp only [thresherlaw03_shown.f]
  refine Ev.bindc e (Ev.pos (arr_toList _) (Ev.bind (vcmp_ev 2 (⟨-1, ⟨#[]⟩⟩ : XV) ⟨1, ⟨#[]⟩⟩) ((Ev.now _).eq ?_)))
  have h1 : fitT 2 (⟨-1, ⟨#[]⟩⟩ : XV) = true := by simp [fitT, ByteArray.toList_eq]
  have h2 : fitT 2 (⟨1, ⟨#[]⟩⟩ : XV) = true := by simp [fitT, ByteArray.toList_eq]
  rw [cmpV_fit h1 h2]
  rfl
/-- One of the three types. -/
def kd3 (x : Int) : Int := 1 + x % 3
theorem kd3_rng (x : Int) : 1 ≤ kd3 x ∧ kd3 x ≤ 3 := by unfold kd3; omega
theorem kind_f (x : Int) (h0 : 0 ≤ x) (h1 : x ≤ 255) : thresherlaw03_kind.f x = some (kd3 x) := by
  unfold thresherlaw03_kind.f kd3
  rw [w64 (x := x) (by omega) (by omega), Int.tmod_eq_emod_of_nonneg h0, w64 (by omega) (by omega)]
theorem fit_f (t : Int) (v : XV) : thresherlaw03_fit.f t v.f0 v.f1 = some ((fit1 t v).f0, (fit1 t v).f1) := by
  unfold thresherlaw03_fit.f fit1
  by_cases e : t = 3
  · rw [if_pos e, if_pos e]
    by_cases q : (v.f1.size : Int) > 60
    · rw [if_pos q, if_pos (by omega), if_pos (by omega)]; simp [q]
    · rw [if_neg q]; simp [q]
  · rw [if_neg e, if_neg e]
theorem fit1_GV (t : Int) (v : XV) (h : GV v) : GV (fit1 t v) := by
  unfold fit1
  split
  · exact ⟨by show (_ : Int) ≤ 0; omega, by show (0 : Int) ≤ _; omega⟩
  · exact h
end Go.Proofs.YtifpjhghbafcjaaDoor.P

/- What is written of a number. -/
namespace Go.Proofs.YtifpjhghbafcjaaDoor.P
open Go.RowKit Go.Proofs.YtifpjhghbafcjaaDoorW.PrintWords Go.Proofs.YtifpjhghbafcjaaDoorW.PrintLast Go.Proofs.YtifpjhghbafcjaaDoorW.PrintMore
set_option linter.unusedVariables false
set_option linter.unusedSimpArgs false

theorem dig_rng (d : Nat) (h : d < 10) : 48 ≤ (UInt8.ofNat (48 + d)).toNat ∧ (UInt8.ofNat (48 + d)).toNat ≤ 57 := by
  rw [UInt8.toNat_ofNat']
  omega
theorem dd_dig (u : Nat) : ∀ c ∈ Lib.decDigits u, 48 ≤ c.toNat ∧ c.toNat ≤ 57 := by
  induction u using Nat.strongRecOn with
  | _ u ih =>
    by_cases h : u < 10
    · rw [Lib.decDigits_one h]
      intro c hc
      rw [List.mem_singleton.mp hc]
      exact dig_rng u h
    · rw [dd_step u h]
      intro c hc
      rcases List.mem_append.mp hc with hc | hc
      · exact ih (u / 10) (by omega) c hc
      · rw [List.mem_singleton.mp hc]
        exact dig_rng _ (by omega)
theorem dd_ne (u : Nat) : Lib.decDigits u ≠ [] := by
  by_cases h : u < 10
  · rw [Lib.decDigits_one h]; simp
  · rw [dd_step u h]; simp
theorem text_int (n : Int) (h0 : -9223372036854775808 ≤ n) (h1 : n ≤ 9223372036854775807) : value_Text.f 1 n ⟨#[]⟩ = some ⟨(Lib.itoa n).toArray⟩ := by
  unfold value_Text.f
  rw [if_pos rfl, if_pos (show (⟨#[]⟩ : ByteArray).size = 0 from rfl), if_pos ⟨h0, h1⟩]
theorem text_uint (n : Int) : value_Text.f 2 n ⟨#[]⟩ = some ⟨(Lib.decDigits (n % 18446744073709551616).toNat).toArray⟩ := by
  unfold value_Text.f
  rw [if_neg (by decide), if_pos rfl, if_pos (show (⟨#[]⟩ : ByteArray).size = 0 from rfl)]
theorem itoa_dd (n : Int) (h0 : -9223372036854775808 ≤ n) (h1 : n ≤ 9223372036854775807) : (Lib.itoa n == Lib.decDigits (n % 18446744073709551616).toNat) = decide (n ≥ 0) := by
  unfold Lib.itoa
  by_cases h : n < 0
  · rw [if_pos h, decide_eq_false (by omega)]
    obtain ⟨u, hu⟩ : ∃ u, u = (n % 18446744073709551616).toNat := ⟨_, rfl⟩
    rw [← hu, beq_eq_false_iff_ne]
    intro e
    have := dd_dig u 45 (by rw [← e]; simp)
    simp at this
  · rw [if_neg h, decide_eq_true (by omega), show n % 18446744073709551616 = n by omega]
    simp
/-- The order of bytes, as Go's '<' has it. -/
theorem cb_less : ∀ a b : List UInt8, Op.bytesLess a b = decide (Lib.compareBytes a b < 0)
  | [], [] => by simp [Op.bytesLess, Lib.compareBytes]
  | [], _ :: _ => by simp [Op.bytesLess, Lib.compareBytes]
  | _ :: _, [] => by simp [Op.bytesLess, Lib.compareBytes]
  | a :: xs, b :: ys => by
    unfold Op.bytesLess Lib.compareBytes
    rcases u8_tri a b with ⟨h1, h2⟩ | ⟨h1, h2⟩ | ⟨h0, h1, h2⟩
    · rw [if_pos h1]; simp [h1]
    · rw [if_neg h2, if_pos h1]
      have : (a == b) = false := by
        rw [beq_eq_false_iff_ne]; rintro rfl; exact h2 h1
      simp [h2, this]
    · rw [if_neg h1, if_neg h2, cb_less xs ys]
      subst h0
      simp [h1]
theorem cb_longer : ∀ a : List UInt8, ∀ c : UInt8, Lib.compareBytes a (a ++ [c]) = -1
  | [], c => by simp [Lib.compareBytes]
  | x :: xs, c => by
    rw [List.cons_append]
    unfold Lib.compareBytes
    have h : ¬ x < x := fun h => by have := UInt8.lt_iff_toNat_lt.mp h; omega
    rw [if_neg h, if_neg h]
    exact cb_longer xs c
end Go.Proofs.YtifpjhghbafcjaaDoor.P

/- Numbers without a sign are in order above those that have none, the same bits are told otherwise of both types, and texts are in the order of their first byte that is another one: the plain law. -/
namespace Go.Proofs.YtifpjhghbafcjaaDoor.Pure
open Go.RowKit Go.Proofs.YtifpjhghbafcjaaDoor.P Go.Proofs.YtifpjhghbafcjaaDoorW.PrintWords Go.Proofs.YtifpjhghbafcjaaDoorW.PrintLast
set_option linter.unusedVariables false
theorem j1_ev (b : Bool) (h : b = true) : Ev (fun k => thresherlaw03_ValueSigns.j1 k b) true := by
  refine Ev.succ ?_
  simp only [thresherlaw03_ValueSigns.j1]
  exact (Ev.now _).eq h
theorem fitn (t : Int) (h : t = 1 ∨ t = 2) (x : Int) : fitT t ⟨x, ⟨#[]⟩⟩ = true := by
  unfold fitT
  rw [if_pos h]
  simp [ByteArray.toList_eq]
theorem fitx (s : ByteArray) (h : s.size ≤ 60) : fitT 3 ⟨0, s⟩ = true := by
  unfold fitT
  rw [if_neg (by decide), if_pos rfl, if_pos rfl]
  rw [decide_eq_true_iff]
  show (s.size : Int) ≤ 60
  omega
theorem mn_to (s : ByteArray) : (mn (s.size : Int) 59).toNat = min s.size 59 := by unfold mn; split <;> omega
theorem mn_lo (s : ByteArray) : 0 ≤ mn (s.size : Int) 59 ∧ mn (s.size : Int) 59 ≤ (s.size : Int) := by unfold mn; split <;> omega
theorem cut_size (s : ByteArray) : (s.extract 0 (min s.size 59)).size ≤ 59 := by rw [ByteArray.size_extract]; omega
theorem j0_ev (s t : ByteArray) (a b : Int) (h0 : -9223372036854775808 ≤ a) (h1 : a ≤ 9223372036854775807) : Ev (fun k => thresherlaw03_ValueSigns.j0 k s t true false a b a ⟨#[]⟩) true := by
  refine Ev.succ ?_
  simp only [thresherlaw03_ValueSigns.j0]
  rw [mn_to, mn_to]
  have ps := cut_size s
  have pt := cut_size t
  obtain ⟨p, hp⟩ : ∃ p, p = s.extract 0 (min s.size 59) := ⟨_, rfl⟩
  obtain ⟨q, hq⟩ : ∃ q, q = t.extract 0 (min t.size 59) := ⟨_, rfl⟩
  rw [← hp] at ps ⊢
  rw [← hq] at pt ⊢
  obtain ⟨m1, m2⟩ := mn_lo s
  obtain ⟨m3, m4⟩ := mn_lo t
  refine Ev.neg (by simp) (Ev.pos m1 (Ev.pos m2 (Ev.pos m3 (Ev.pos m4 (Ev.pos (by omega) (Ev.pos (by simp) ?_))))))
  clear m1 m2 m3 m4
  refine Ev.bindc (text_int a h0 h1) (Ev.bindc (text_uint a) (Ev.pos ?_ ?_))
  · rw [arr_toList, arr_toList, itoa_dd a h0 h1]; simp
  have c1 := vcmp_ev 3 ⟨0, p⟩ ⟨0, q⟩
  rw [cmpV_fit (fitx p (by omega)) (fitx q (by omega))] at c1
  have e1 : cmpC 3 ⟨0, p⟩ ⟨0, q⟩ = Lib.compareBytes p.data.toList q.data.toList := by unfold cmpC; rw [if_pos rfl]
  rw [e1] at c1
  have sz : (p ++ (⟨#[0]⟩ : ByteArray)).size ≤ 60 := by rw [ByteArray.size_append]; show p.size + 1 ≤ 60; omega
  have c2 := vcmp_ev 3 ⟨0, p⟩ ⟨0, p ++ ⟨#[0]⟩⟩
  rw [cmpV_fit (fitx p (by omega)) (fitx _ sz)] at c2
  have e2 : cmpC 3 ⟨0, p⟩ ⟨0, p ++ ⟨#[0]⟩⟩ = -1 := by
    unfold cmpC
    rw [if_pos rfl]
    show Lib.compareBytes p.data.toList (p ++ (⟨#[0]⟩ : ByteArray)).data.toList = -1
    rw [ByteArray.data_append, Array.toList_append]
    exact cb_longer _ _
  rw [e2] at c2
  refine Ev.bind c1 (Ev.pos ?_ (Ev.bind c2 (j1_ev _ (by simp))))
  rw [ByteArray.toList_eq, ByteArray.toList_eq, cb_less]
  simp
theorem ValueSigns : thresherlaw03_ValueSigns.PureG := by
  intro l s t ⟨g1, g2⟩ _ _
  have n1 := wf_i64 g1
  have n2 := wf_i64 g2
  obtain ⟨a, ha⟩ : ∃ a, a = l.f0 := ⟨_, rfl⟩
  obtain ⟨b, hb⟩ : ∃ b, b = l.f1 := ⟨_, rfl⟩
  rw [← ha] at n1 ⊢
  rw [← hb] at n2 ⊢
  clear ha hb g1 g2
  apply Ev.rounds
  simp only [thresherlaw03_ValueSigns.f]
  have c1 := vcmp_ev 1 ⟨a, ⟨#[]⟩⟩ ⟨b, ⟨#[]⟩⟩
  have c2 := vcmp_ev 2 ⟨a, ⟨#[]⟩⟩ ⟨b, ⟨#[]⟩⟩
  rw [cmpV_fit (fitn 1 (.inl rfl) a) (fitn 1 (.inl rfl) b)] at c1
  rw [cmpV_fit (fitn 2 (.inr rfl) a) (fitn 2 (.inr rfl) b)] at c2
  have e1 : cmpC 1 ⟨a, ⟨#[]⟩⟩ ⟨b, ⟨#[]⟩⟩ = sgn a b := rfl
  have e2 : cmpC 2 ⟨a, ⟨#[]⟩⟩ ⟨b, ⟨#[]⟩⟩ = sgn (un a) (un b) := rfl
  rw [e1] at c1
  rw [e2] at c2
  have r1 := sgn_rng a b
  have r2 := sgn_rng (un a) (un b)
  have lt : sgn a b < 0 ↔ a < b := by
    unfold sgn
    by_cases h : a < b
    · rw [if_pos h]; omega
    · rw [if_neg h]; split <;> omega
  have same : (a < 0 ↔ b < 0) → sgn a b = sgn (un a) (un b) := fun h => by
    have e : un b - un a = b - a := by unfold un; omega
    unfold sgn
    by_cases p : a < b
    · rw [if_pos p, if_pos (show un a < un b by omega)]
    · rw [if_neg p, if_neg (show ¬ un a < un b by omega)]
      by_cases q : a > b
      · rw [if_pos q, if_pos (show un a > un b by omega)]
      · rw [if_neg q, if_neg (show ¬ un a > un b by omega)]
  have other : ¬ (a < 0 ↔ b < 0) → sgn a b = - sgn (un a) (un b) := fun h => by
    by_cases p : a < 0
    · have q : ¬ b < 0 := fun q => h ⟨fun _ => q, fun _ => p⟩
      have e : un a = a + 18446744073709551616 := by unfold un; omega
      have e' : un b = b := by unfold un; omega
      rw [e, e']
      unfold sgn
      rw [if_pos (by omega), if_neg (by omega), if_pos (by omega)]
    · have q : b < 0 := Classical.byContradiction fun q => h ⟨fun h2 => absurd h2 p, fun h2 => absurd h2 q⟩
      have e : un b = b + 18446744073709551616 := by unfold un; omega
      have e' : un a = a := by unfold un; omega
      rw [e, e']
      unfold sgn
      rw [if_neg (by omega), if_pos (by omega), if_pos (by omega)]
      rfl
  obtain ⟨x, hx⟩ : ∃ x, x = sgn a b := ⟨_, rfl⟩
  obtain ⟨y, hy⟩ : ∃ y, y = sgn (un a) (un b) := ⟨_, rfl⟩
  rw [← hx] at c1 r1 lt same other
  rw [← hy] at c2 r2 same other
  clear hx hy e1 e2
  have hlast : ((decide (x < 0)) != (decide (a < b))) = false := by
    rw [show decide (x < 0) = decide (a < b) from decide_eq_decide.mpr lt]
    simp
  have end_ : Ev (fun k => thresherlaw03_ValueSigns.j0 k s t true ((decide (x < 0)) != (decide (a < b))) a b a ⟨#[]⟩) true := by
    rw [hlast]
    exact j0_ev s t a b n1.1 n1.2
  refine Ev.bind shown_ev (Ev.bind c1 (Ev.bind c2 ?_))
  by_cases h : (a < 0 ↔ b < 0)
  · have hd : decide (a < 0) = decide (b < 0) := decide_eq_decide.mpr h
    refine Ev.pos (by rw [hd]; simp) (Ev.pos (same h) (Ev.neg (by rw [hd]; simp) end_))
  · have hd : decide (a < 0) ≠ decide (b < 0) := fun e => h (decide_eq_decide.mp e)
    refine Ev.neg (by simpa using hd) (Ev.pos (by simpa using hd) (Ev.pos ?_ end_))
    rw [w64 (by omega) (by omega)]
    exact other h
end Go.Proofs.YtifpjhghbafcjaaDoor.Pure

-- Written by wip/tools/myprint.py: the row of ValueSigns, out of its plain law and its walk.
namespace Go.Proofs.YtifpjhghbafcjaaDoor.valueSigns
open Go.ChangeShapes Go.WideShapes Go.ChangeAt Go.RowKit Go.Proofs.YtifpjhghbafcjaaDoor.P Go.Proofs.YtifpjhghbafcjaaDoorW.PrintWords
set_option linter.unusedVariables false
set_option linter.unusedSimpArgs false
theorem own : ownKnob Tryd.prog.godebug = none := by kernel_rfl
theorem laidOut : laidOutB Tryd.prog = true := by kernel_rfl
set_option maxRecDepth 100000 in
theorem lifted (os : Os) (started : os.Started) (H : Type) (enc : TypeId × Value → H) :
    ReturnsInHanded {} Tryd.checked os 4 .any (fun w args => (Rows.valueSignsSpec.pre enc Tryd.prog Tryd.f4 Rows.valueSignsRow.domain false w args ∧ laidMetH Tryd.prog laid3 w) ∧ sizedMet enc Tryd.prog Tryd.f4 (OpenSpec.ofChange Rows.valueSignsSpec) false w args) (Rows.valueSignsSpec.post enc Tryd.prog Tryd.f4 false true false false) := by
  refine returnsInHanded_of_change_and (C := Tryd.checked) (X := fun w _ => laidMetH Tryd.prog laid3 w) (fun _ _ _ hh h => h.of_heap hh) own started (by kernel_rfl) Tryd.func4
    (ChangeSpec.witness_shaped (enc := enc) (C := Tryd.checked) (os := os) (X := fun w _ => laidMetH Tryd.prog laid3 w) false (World.doorLaid Tryd.prog 62 os) #[.agg #[.int .i64 0, .int .i64 0], .string ByteArray.empty, .string ByteArray.empty] 8 rfl (World.shaped_of_RefB (by kernel_rfl) (by kernel_rfl)) (by kernel_rfl) (by kernel_rfl) (by kernel_rfl) (door3_met os _)) ?_
  intro W base args ds gs before hval0 hW hcnd hsz0 hL _
  have htab := tabs_of_laid hL
  have hval : ∀ (j : Nat) t v, Tryd.f4.params[j]? = some t → args[j]? = some v → Value.okWide Tryd.prog W .any base t v := hval0
  have hW' := hW
  obtain ⟨p, q, hA0, hV, rfl, hfz, hnd⟩ := hW
  have hA : DataW.TrodAll enc Tryd.prog W 0 (fun _ => true) true Tryd.f4.params.toList args.toList ds p := hA0
  rw [Tryd.params4] at hA hval
  obtain ⟨v0, vs0, d0, ds0, p0, q0, hargs, rfl, rfl, h0, r0⟩ := trodAll_cons hA
  obtain ⟨v1, vs1, d1, ds1, p1, q1, rfl, rfl, rfl, h1, r1⟩ := trodAll_cons r0
  obtain ⟨v2, vs2, d2, ds2, p2, q2, rfl, rfl, rfl, h2, r2⟩ := trodAll_cons r1
  obtain ⟨rfl, rfl, rfl⟩ := trodAll_nil r2
  obtain rfl : args = #[v0, v1, v2] := by cases args; simp_all
  obtain ⟨rfl, rfl⟩ := trodVars_none hV
  have lt0 : ∀ x ∈ p0, x.block < W.heap.size := by obtain ⟨m, hm⟩ := h0; exact DataW.trod_lt m _ _ _ hm
  obtain ⟨x0, K0, g0⟩ := (op30).arg h0
  obtain ⟨cs0, rfl⟩ := okWide_aggA Tryd.underlying30 (hval 0 30 v0 rfl rfl)
  have e0 := k30_open K0
  replace e0 := agg_of e0
  have lt1 : ∀ x ∈ p1, x.block < W.heap.size := by obtain ⟨m, hm⟩ := h1; exact DataW.trod_lt m _ _ _ hm
  obtain ⟨x1, K1, g1⟩ := ((opens_string Tryd.underlying9)).arg h1
  obtain ⟨b1, rfl⟩ := okWide_string Tryd.underlying9 (hval 1 9 v1 rfl rfl)
  have e1 : b1 = x1 := by simpa [Value.cells, Kd.string, Kd.scalar] using K1
  subst e1
  have lt2 : ∀ x ∈ p2, x.block < W.heap.size := by obtain ⟨m, hm⟩ := h2; exact DataW.trod_lt m _ _ _ hm
  obtain ⟨x2, K2, g2⟩ := ((opens_string Tryd.underlying9)).arg h2
  obtain ⟨b2, rfl⟩ := okWide_string Tryd.underlying9 (hval 2 9 v2 rfl rfl)
  have e2 : b2 = x2 := by simpa [Value.cells, Kd.string, Kd.scalar] using K2
  subst e2
  obtain ⟨k, hk⟩ := Pure.ValueSigns x0 b1 b2 g0 g1 g2
  have call : Calls Tryd.prog 4 #[.agg cs0, .string b1, .string b2] W fun e W' => e = .returned (.bool true) ∧ Below W.heap.size W W' := by
    rw [e0]
    refine (thresherlaw03_ValueSigns.calls k _ _ _ _ true W hk htab).mono ?_
    rintro e w' ⟨rfl, hd⟩
    exact ⟨rfl, hd⟩
  refine call.mono fun e W' ⟨he, bel⟩ => ?_
  subst he
  exact ⟨_, rfl, _, _, _, [], _, [], hW', trodAll_mk1 (shut_bool Tryd.underlying4 _), (trodAll_cons_mk (Below.trod laidOut (by kernel_rfl) (of_decide_eq_true (by kernel_rfl)) h0 bel lt0) (trodAll_cons_mk (Below.trod laidOut (by kernel_rfl) (of_decide_eq_true (by kernel_rfl)) h1 bel lt1) (trodAll_cons_mk (Below.trod laidOut (by kernel_rfl) (of_decide_eq_true (by kernel_rfl)) h2 bel lt2) trodAll_mk0))), rfl, bel.frame _, fun h => by cases h⟩
theorem over : Rows.valueSignsRow.holds Tryd.pinned (OpenSpec.ofChange Rows.valueSignsSpec) :=
  OpenClaim.holds_of_wide 4 Tryd.f4 rfl rfl rfl rfl rfl rfl rfl ⟨rfl, rfl, rfl, rfl, rfl⟩ rfl rfl rfl rfl rfl (by kernel_rfl) Tryd.func4 (by kernel_rfl)
    (of_decide_eq_true (by kernel_rfl)) (by unfold Func.isWrapper; first | (rw [if_pos (by decide +kernel)]; kernel_rfl) | (rw [if_neg (by decide +kernel)]; exact ⟨rfl, rfl⟩))
    (fun os started H enc _ => lifted os started H enc)
theorem carded : Rows.ValueSignsCardSaid :=
  Claim7.holds_tied_plain_at .later [] [.data, .data, .data] true (true, "bb69a14ecfbc10d91511e1de1cac401641993d3163807c3ed32958c36fab5aed") true
    over (fun _ h => by cases h) (by kernel_rfl) (fun _ h => by cases h) valueSigns_row_tie rfl ⟨rfl, rfl⟩ (by kernel_rfl) rfl
    (fun f fn hf hfn => by
      obtain rfl : f = 4 := Option.some.inj ((show Tryd.prog.funcNamed Tryd.f4.name = some 4 by kernel_rfl).symm.trans hf) |>.symm
      obtain rfl : fn = Tryd.f4 := (Option.some.inj (Tryd.func4.symm.trans hfn)).symm
      exact ⟨by kernel_rfl, fun j t ht => by
        rw [Tryd.params4] at ht
        have hm : t ∈ [30, 9, 9] := by simpa using Array.mem_of_getElem? ht
        have hall : ([30, 9, 9].all fun u => !Tryd.prog.wantsStandIn u) = true := by kernel_rfl
        exact (show Tryd.prog.wantsStandIn t = false by simpa using List.all_eq_true.1 hall t hm)⟩)
    (by kernel_rfl)
#print axioms carded
end Go.Proofs.YtifpjhghbafcjaaDoor.valueSigns
namespace Go.Proofs.YtifpjhghbafcjaaDoor
/-- The tied card, under a short name, for the claim. -/
theorem valueSigns_holds : Rows.ValueSignsCardSaid := valueSigns.carded
end Go.Proofs.YtifpjhghbafcjaaDoor

