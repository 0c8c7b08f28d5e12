/- The row of ValueSums. Merged: SValueSums, X3Base, X3Ord, X3Val, X3Law, X3Add, PureValueSums, RValueSums. -/
import Derived.Test.YtifpjhghbafcjaaDoorPx9
import Derived.Test.YtifpjhghbafcjaaDoorO
import Derived.Test.YtifpjhghbafcjaaDoorPx0
import Derived.Test.YtifpjhghbafcjaaDoorHBase
import Derived.Lib.Bytealg
import Derived.Test.YtifpjhghbafcjaaDoorPx3
import Derived.Test.YtifpjhghbafcjaaDoorPx2
import Derived.Test.YtifpjhghbafcjaaDoorPx4
import Derived.Test.YtifpjhghbafcjaaDoorPx8
import Derived.Test.YtifpjhghbafcjaaDoorRows
import Derived.WalkKit
import Derived.ProofKit
import Derived.OpenShut
import Derived.ShutString
import Derived.ChangeOld
import Derived.Below
import Derived.SizedLaws
import Derived.Test.YtifpjhghbafcjaaDoorHLaid
import Derived.Test.YtifpjhghbafcjaaDoorCards
import Derived.Test.YtifpjhghbafcjaaDoorTie
import Derived.SevenTiedAt
import Derived.LaidMore
import Derived.Stop.Joined
-- Written by wip/tools/myprint.py: the plain statement of ValueSums.
namespace Go.Proofs.YtifpjhghbafcjaaDoor.P
open Go.RowKit Go.Proofs.YtifpjhghbafcjaaDoorW.PrintWords
def thresherlaw03_ValueSums.PureG : Prop := ∀ (x0 : Int) (x1 : S24), (Lit.int .u8 x0).wf = true → gd24 x1 → ∃ k, thresherlaw03_ValueSums.f k x0 x1.f0.f0 x1.f0.f1 x1.f1.f0 x1.f1.f1 x1.f2.f0 x1.f2.f1 = some true
end Go.Proofs.YtifpjhghbafcjaaDoor.P

/- Values, and the types that they fit. -/
namespace Go.Proofs.YtifpjhghbafcjaaDoor.P
open Go.RowKit Go.Proofs.YtifpjhghbafcjaaDoorW.PrintWords Go.Proofs.YtifpjhghbafcjaaDoorW.PrintLast Go.Proofs.YtifpjhghbafcjaaDoorW.PrintMore
set_option linter.unusedVariables false
set_option linter.unusedSimpArgs false

abbrev XV := S23
/-- Does a value fit a type? -/
def fitT (t : Int) (v : XV) : Bool := if t = 1 ∨ t = 2 then v.f1.toList == ([] : List UInt8) else if t = 3 then (if v.f0 = 0 then decide ((v.f1.size : Int) ≤ 60) else false) else false
/-- The value made to fit a type. -/
def fit1 (t : Int) (v : XV) : XV := if t = 3 then ⟨0, if (v.f1.size : Int) > 60 then v.f1.extract 0 60 else v.f1⟩ else ⟨v.f0, ⟨#[]⟩⟩
theorem fitT_fit1 (t : Int) (v : XV) (h1 : 1 ≤ t) (h3 : t ≤ 3) : fitT t (fit1 t v) = true := by
  unfold fitT fit1
  by_cases e : t = 3
  · subst e
    simp only [if_true, if_pos rfl]
    rw [if_neg (by omega)]
    rw [decide_eq_true_iff]
    split
    · simp only [ByteArray.size_extract]; omega
    · omega
  · rw [if_pos (by omega), if_neg e]
    simp [ByteArray.toList_eq]
theorem bytes_eq {a b : ByteArray} (h : a.toList = b.toList) : a = b := by
  rw [ByteArray.toList_eq, ByteArray.toList_eq] at h
  exact ByteArray.ext (Array.toList_inj.mp h)
theorem XV.same {a b : XV} : (!(a.f0 == b.f0) || (!(a.f1.toList == b.f1.toList))) = true ↔ a ≠ b := by
  constructor
  · rintro h rfl
    simp at h
  · intro h
    by_cases h0 : a.f0 = b.f0
    · by_cases h1 : a.f1.toList = b.f1.toList
      · exact absurd (by cases a; cases b; simp only at h0 h1; rw [h0, bytes_eq h1]) h
      · simp [h1]
    · simp [h0]
instance : DecidableEq XV := fun a b => if h : (!(a.f0 == b.f0) || (!(a.f1.toList == b.f1.toList))) = true then isFalse (XV.same.mp h) else isTrue (Classical.byContradiction fun e => h (XV.same.mpr e))
end Go.Proofs.YtifpjhghbafcjaaDoor.P

/- The order of values and of rows. -/
namespace Go.Proofs.YtifpjhghbafcjaaDoor.P
open Go.RowKit Go.Proofs.YtifpjhghbafcjaaDoorW.PrintWords Go.Proofs.YtifpjhghbafcjaaDoorW.PrintLast Go.Proofs.YtifpjhghbafcjaaDoorW.PrintMore
set_option linter.unusedVariables false
set_option linter.unusedSimpArgs false

theorem cb_rng : ∀ a b : List UInt8, Lib.compareBytes a b = -1 ∨ Lib.compareBytes a b = 0 ∨ Lib.compareBytes a b = 1
  | [], [] => by simp [Lib.compareBytes]
  | [], _ :: _ => by simp [Lib.compareBytes]
  | _ :: _, [] => by simp [Lib.compareBytes]
  | a :: xs, b :: ys => by
    unfold Lib.compareBytes
    split
    · simp
    · split
      · simp
      · exact cb_rng xs ys
theorem u8_tri (a b : UInt8) : (a < b ∧ ¬ b < a) ∨ (b < a ∧ ¬ a < b) ∨ (a = b ∧ ¬ a < b ∧ ¬ b < a) := by
  rcases Nat.lt_trichotomy a.toNat b.toNat with h | h | h
  · exact Or.inl ⟨UInt8.lt_iff_toNat_lt.mpr h, fun h2 => by have := UInt8.lt_iff_toNat_lt.mp h2; omega⟩
  · have e : a = b := UInt8.toNat_inj.mp h
    subst e
    exact Or.inr (Or.inr ⟨rfl, fun h2 => by have := UInt8.lt_iff_toNat_lt.mp h2; omega, fun h2 => by have := UInt8.lt_iff_toNat_lt.mp h2; omega⟩)
  · exact Or.inr (Or.inl ⟨UInt8.lt_iff_toNat_lt.mpr h, fun h2 => by have := UInt8.lt_iff_toNat_lt.mp h2; omega⟩)
theorem cb_anti : ∀ a b : List UInt8, Lib.compareBytes b a = - Lib.compareBytes a b
  | [], [] => by simp [Lib.compareBytes]
  | [], _ :: _ => by simp [Lib.compareBytes]
  | _ :: _, [] => by simp [Lib.compareBytes]
  | a :: xs, b :: ys => by
    unfold Lib.compareBytes
    rcases u8_tri a b with ⟨h1, h2⟩ | ⟨h1, h2⟩ | ⟨h0, h1, h2⟩
    · rw [if_neg h2, if_pos h1, if_pos h1]; rfl
    · rw [if_pos h1, if_neg h2, if_pos h1]
    · rw [if_neg h2, if_neg h1, if_neg h1, if_neg h2]; exact cb_anti xs ys
theorem cb_zero : ∀ a b : List UInt8, Lib.compareBytes a b = 0 ↔ a = b
  | [], [] => by simp [Lib.compareBytes]
  | [], _ :: _ => by simp [Lib.compareBytes]
  | _ :: _, [] => by simp [Lib.compareBytes]
  | a :: xs, b :: ys => by
    unfold Lib.compareBytes
    rcases u8_tri a b with ⟨h1, h2⟩ | ⟨h1, h2⟩ | ⟨h0, h1, h2⟩
    · rw [if_pos h1]
      exact ⟨fun h => by omega, fun h => absurd h1 (by rw [(List.cons.inj h).1] at h2 ⊢; rw [(List.cons.inj h).1] at h1; exact h2)⟩
    · rw [if_neg h2, if_pos h1]
      exact ⟨fun h => by omega, fun h => absurd h1 (by rw [(List.cons.inj h).1] at h1; rw [(List.cons.inj h).1] at h2; exact absurd h1 h2)⟩
    · rw [if_neg h1, if_neg h2, cb_zero xs ys, h0]
      exact ⟨fun h => by rw [h], fun h => (List.cons.inj h).2⟩
theorem cb_trans : ∀ a b c : List UInt8, Lib.compareBytes a b ≤ 0 → Lib.compareBytes b c ≤ 0 → Lib.compareBytes a c ≤ 0
  | [], _, [], _, _ => by simp [Lib.compareBytes]
  | [], _, _ :: _, _, _ => by simp [Lib.compareBytes]
  | _ :: _, [], _, h, _ => by simp [Lib.compareBytes] at h
  | _ :: _, _ :: _, [], _, h => by simp [Lib.compareBytes] at h
  | a :: xs, b :: ys, c :: zs, h1, h2 => by
    unfold Lib.compareBytes at h1 h2 ⊢
    rcases u8_tri a b with ⟨p1, p2⟩ | ⟨p1, p2⟩ | ⟨p0, p1, p2⟩
    · rcases u8_tri b c with ⟨q1, q2⟩ | ⟨q1, q2⟩ | ⟨q0, q1, q2⟩
      · rw [if_pos (UInt8.lt_trans p1 q1)]; omega
      · rw [if_neg q2, if_pos q1] at h2; omega
      · subst q0; rw [if_pos p1]; omega
    · rw [if_neg p2, if_pos p1] at h1; omega
    · subst p0
      rw [if_neg p1, if_neg p2] at h1
      rcases u8_tri a c with ⟨q1, q2⟩ | ⟨q1, q2⟩ | ⟨q0, q1, q2⟩
      · rw [if_pos q1]; omega
      · rw [if_neg q2, if_pos q1] at h2; omega
      · rw [if_neg q1, if_neg q2] at h2 ⊢
        exact cb_trans xs ys zs h1 h2

/-- A value's number is one of 64 bits. -/
def GV (v : XV) : Prop := -9223372036854775808 ≤ v.f0 ∧ v.f0 ≤ 9223372036854775807
def sgn (x y : Int) : Int := if x < y then -1 else if x > y then 1 else 0
def un (x : Int) : Int := x % 18446744073709551616
def cmpV (t : Int) (a b : XV) : Int := if fitT t a = true ∧ fitT t b = true then (if t = 3 then Lib.compareBytes a.f1.data.toList b.f1.data.toList else if t = 2 then sgn (un a.f0) (un b.f0) else sgn a.f0 b.f0) else 0
theorem sgn_rng (x y : Int) : sgn x y = -1 ∨ sgn x y = 0 ∨ sgn x y = 1 := by unfold sgn; split <;> (try split) <;> simp
theorem cmpV_rng (t : Int) (a b : XV) : cmpV t a b = -1 ∨ cmpV t a b = 0 ∨ cmpV t a b = 1 := by
  unfold cmpV
  split
  · split
    · exact cb_rng _ _
    · split <;> exact sgn_rng _ _
  · simp
theorem cmpV_anti (t : Int) (a b : XV) : cmpV t b a = - cmpV t a b := by
  unfold cmpV
  by_cases h : fitT t a = true ∧ fitT t b = true
  · rw [if_pos h, if_pos h.symm]
    split
    · exact cb_anti _ _
    · split <;> (unfold sgn; split <;> split <;> (try split) <;> omega)
  · rw [if_neg h, if_neg (fun q => h q.symm)]
    rfl
theorem fit_empty {t : Int} {a : XV} (h : fitT t a = true) (h3 : t ≠ 3) : a.f1 = ⟨#[]⟩ := by
  unfold fitT at h
  split at h
  · have h2 : a.f1.toList = [] := by simpa using h
    exact bytes_eq (by rw [h2]; simp [ByteArray.toList_eq])
  · first | exact absurd h (by simp) | (rw [if_neg h3] at h; exact absurd h (by simp))
theorem fit_zero {t : Int} {a : XV} (h : fitT t a = true) (h3 : t = 3) : a.f0 = 0 := by
  subst h3
  unfold fitT at h
  rw [if_neg (by omega), if_pos rfl] at h
  split at h
  · assumption
  · exact absurd h (by simp)
theorem XV.ext2 {a b : XV} (h0 : a.f0 = b.f0) (h1 : a.f1 = b.f1) : a = b := by cases a; cases b; simp only at h0 h1; rw [h0, h1]
theorem cmpV_zero (t : Int) (a b : XV) (ha : fitT t a = true) (hb : fitT t b = true) (ga : GV a) (gb : GV b) : cmpV t a b = 0 ↔ a = b := by
  unfold cmpV
  rw [if_pos ⟨ha, hb⟩]
  obtain ⟨g1, g2⟩ := ga
  obtain ⟨g3, g4⟩ := gb
  by_cases e : t = 3
  · rw [if_pos e, cb_zero]
    exact ⟨fun h => XV.ext2 (by rw [fit_zero ha e, fit_zero hb e]) (ByteArray.ext (Array.toList_inj.mp h)), fun h => by rw [h]⟩
  · rw [if_neg e]
    have key : a = b ↔ a.f0 = b.f0 := ⟨fun h => by rw [h], fun h => XV.ext2 h (by rw [fit_empty ha e, fit_empty hb e])⟩
    rw [key]
    split
    · unfold sgn un; split <;> (try split) <;> omega
    · unfold sgn; split <;> (try split) <;> omega
theorem sgn_trans (x y z : Int) : sgn x y ≤ 0 → sgn y z ≤ 0 → sgn x z ≤ 0 := by
  unfold sgn
  intro h1 h2
  split
  · omega
  · split
    · exfalso
      by_cases p : x < y
      · by_cases q : y < z
        · omega
        · rw [if_neg q] at h2
          by_cases r : y > z
          · rw [if_pos r] at h2; omega
          · omega
      · rw [if_neg p] at h1
        by_cases r : x > y
        · rw [if_pos r] at h1; omega
        · by_cases q : y < z
          · omega
          · rw [if_neg q] at h2
            by_cases r : y > z
            · rw [if_pos r] at h2; omega
            · omega
    · omega
def cmpC (t : Int) (a b : XV) : Int := if t = 3 then Lib.compareBytes a.f1.data.toList b.f1.data.toList else if t = 2 then sgn (un a.f0) (un b.f0) else sgn a.f0 b.f0
theorem cmpV_fit {t : Int} {a b : XV} (ha : fitT t a = true) (hb : fitT t b = true) : cmpV t a b = cmpC t a b := by
  unfold cmpV cmpC
  rw [if_pos ⟨ha, hb⟩]
theorem cmpV_trans (t : Int) (a b c : XV) (ha : fitT t a = true) (hb : fitT t b = true) (hc : fitT t c = true) : cmpV t a b ≤ 0 → cmpV t b c ≤ 0 → cmpV t a c ≤ 0 := by
  rw [cmpV_fit ha hb, cmpV_fit hb hc, cmpV_fit ha hc]
  unfold cmpC
  by_cases e : t = 3
  · rw [if_pos e, if_pos e, if_pos e]
    exact cb_trans _ _ _
  · rw [if_neg e, if_neg e, if_neg e]
    by_cases e2 : t = 2
    · rw [if_pos e2, if_pos e2, if_pos e2]
      exact sgn_trans _ _ _
    · rw [if_neg e2, if_neg e2, if_neg e2]
      exact sgn_trans _ _ _

end Go.Proofs.YtifpjhghbafcjaaDoor.P

/- value.Compare tells the order of values. -/
namespace Go.Proofs.YtifpjhghbafcjaaDoor.P
open Go.RowKit Go.Proofs.YtifpjhghbafcjaaDoorW.PrintWords Go.Proofs.YtifpjhghbafcjaaDoorW.PrintLast Go.Proofs.YtifpjhghbafcjaaDoorW.PrintMore
set_option linter.unusedVariables false
set_option linter.unusedSimpArgs false

theorem vfits_f (k : Nat) (t n : Int) (s : ByteArray) : value_Fits.f (k + 1) t n s = some (fitT t ⟨n, s⟩) := by
  unfold value_Fits.f fitT
  by_cases h1 : t = 1
  · rw [if_pos h1, if_pos (Or.inl h1)]
    subst h1
    rfl
  · rw [if_neg h1]
    by_cases h2 : t = 2
    · rw [if_pos (Or.inr h2)]
      subst h2
      rfl
    · rw [if_neg (by omega), show (t == 2) = false by simpa using h2]
      simp only [value_Fits.j0, Bool.false_eq_true, if_false]
      by_cases h3 : t = 3
      · rw [if_pos h3, if_pos h3]
        split <;> rfl
      · rw [if_neg h3, if_neg h3]
theorem vfits_ev (t n : Int) (s : ByteArray) : Ev (fun k => value_Fits.f k t n s) (fitT t ⟨n, s⟩) := Ev.succ ⟨0, fun k _ => vfits_f k t n s⟩
theorem cmpu_f (x y : Int) : cmp_Compare_uint64.f x y = some (sgn x y) := by
  simp only [cmp_Compare_uint64.f, cmp_isNaN_uint64.f, bne_self_eq_false, Option.bind_some, Bool.false_eq_true, if_false]
  unfold sgn
  split
  · rfl
  · split <;> rfl
theorem cmpi_f (x y : Int) : cmp_Compare_int64.f x y = some (sgn x y) := by
  simp only [cmp_Compare_int64.f, cmp_isNaN_int64.f, bne_self_eq_false, Option.bind_some, Bool.false_eq_true, if_false]
  unfold sgn
  split
  · rfl
  · split <;> rfl
theorem vcmp_ev (t : Int) (a b : XV) : Ev (fun k => value_Compare.f k t a.f0 a.f1 b.f0 b.f1) (cmpV t a b) := by
  simp only [value_Compare.f]
  refine Ev.bind (vfits_ev t a.f0 a.f1) ?_
  by_cases ha : fitT t a = true
  · refine Ev.pos ha (Ev.bind (vfits_ev t b.f0 b.f1) (Ev.succ ?_))
    simp only [value_Compare.j0]
    by_cases hb : fitT t b = true
    · rw [cmpV_fit ha hb]
      refine Ev.neg (fun h => ?_) ?_
      · rw [show fitT t ⟨b.f0, b.f1⟩ = true from hb] at h
        exact absurd h (by simp)
      · by_cases e3 : t = 3
        · refine (Ev.pos e3 (Ev.bindc rfl (Ev.now _))).eq ?_
          unfold cmpC
          rw [if_pos e3]
        · refine Ev.neg e3 ?_
          by_cases e2 : t = 2
          · refine (Ev.pos e2 (Ev.bindc (cmpu_f _ _) (Ev.now _))).eq ?_
            unfold cmpC
            rw [if_neg e3, if_pos e2]
            rfl
          · refine (Ev.neg e2 (Ev.bindc (cmpi_f _ _) (Ev.now _))).eq ?_
            unfold cmpC
            rw [if_neg e3, if_neg e2]
    · refine (Ev.pos ?_ (Ev.now _)).eq ?_
      · rw [show fitT t ⟨b.f0, b.f1⟩ = false from Bool.eq_false_iff.mpr hb]
        rfl
      · unfold cmpV
        rw [if_neg (fun h => hb h.2)]
  · refine Ev.neg ha (Ev.succ ?_)
    simp only [value_Compare.j0]
    refine (Ev.pos (by simp) (Ev.now _)).eq ?_
    unfold cmpV
    rw [if_neg (fun h => ha h.1)]
end Go.Proofs.YtifpjhghbafcjaaDoor.P

/- The document's example; a type out of a byte; a value made to fit. -/
namespace Go.Proofs.YtifpjhghbafcjaaDoor.P
open Go.RowKit Go.Proofs.YtifpjhghbafcjaaDoorW.PrintWords Go.Proofs.YtifpjhghbafcjaaDoorW.PrintLast Go.Proofs.YtifpjhghbafcjaaDoorW.PrintMore
set_option linter.unusedVariables false
set_option linter.unusedSimpArgs false

theorem arr_toList (l : List UInt8) : (⟨l.toArray⟩ : ByteArray).toList = l := by rw [ByteArray.toList_eq]
theorem dd_step (u : Nat) (h : ¬ u < 10) : Lib.decDigits u = Lib.decDigits (u / 10) ++ [UInt8.ofNat (48 + u % 10)] := by rw [Lib.decDigits, dif_neg h]
theorem dd_max : Lib.decDigits 18446744073709551615 = [49, 56, 52, 52, 54, 55, 52, 52, 48, 55, 51, 55, 48, 57, 53, 53, 49, 54, 49, 53] := by
  repeat rw [dd_step _ (by decide)]
  rw [Lib.decDigits_one (by decide)]
  decide
theorem shown_ev : Ev (fun k => thresherlaw03_shown.f k) true := by
  have e : value_Text.f 2 (-1) (⟨#[]⟩ : ByteArray) = some ⟨([49, 56, 52, 52, 54, 55, 52, 52, 48, 55, 51, 55, 48, 57, 53, 53, 49, 54, 49, 53] : List UInt8).toArray⟩ := by
    unfold value_Text.f
    rw [if_neg (by decide), if_pos rfl, if_pos (show (⟨#[]⟩ : ByteArray).size = 0 from rfl), show (-1 % 18446744073709551616 : Int).toNat = 18446744073709551615 from rfl, dd_max]
  simp only [thresherlaw03_shown.f]
  refine Ev.bindc e (Ev.pos (arr_toList _) (Ev.bind (vcmp_ev 2 (⟨-1, ⟨#[]⟩⟩ : XV) ⟨1, ⟨#[]⟩⟩) ((Ev.now _).eq ?_)))
  have h1 : fitT 2 (⟨-1, ⟨#[]⟩⟩ : XV) = true := by simp [fitT, ByteArray.toList_eq]
  have h2 : fitT 2 (⟨1, ⟨#[]⟩⟩ : XV) = true := by simp [fitT, ByteArray.toList_eq]
  rw [cmpV_fit h1 h2]
  rfl
/-- One of the three types. -/
def kd3 (x : Int) : Int := 1 + x % 3
theorem kd3_rng (x : Int) : 1 ≤ kd3 x ∧ kd3 x ≤ 3 := by unfold kd3; omega
theorem kind_f (x : Int) (h0 : 0 ≤ x) (h1 : x ≤ 255) : thresherlaw03_kind.f x = some (kd3 x) := by
  unfold thresherlaw03_kind.f kd3
  rw [w64 (x := x) (by omega) (by omega), Int.tmod_eq_emod_of_nonneg h0, w64 (by omega) (by omega)]
theorem fit_f (t : Int) (v : XV) : thresherlaw03_fit.f t v.f0 v.f1 = some ((fit1 t v).f0, (fit1 t v).f1) := by
  unfold thresherlaw03_fit.f fit1
  by_cases e : t = 3
  · rw [if_pos e, if_pos e]
    by_cases q : (v.f1.size : Int) > 60
    · rw [if_pos q, if_pos (by omega), if_pos (by omega)]; simp [q]
    · rw [if_neg q]; simp [q]
  · rw [if_neg e, if_neg e]
theorem fit1_GV (t : Int) (v : XV) (h : GV v) : GV (fit1 t v) := by
  unfold fit1
  split
  · exact ⟨by show (_ : Int) ≤ 0; omega, by show (0 : Int) ≤ _; omega⟩
  · exact h
end Go.Proofs.YtifpjhghbafcjaaDoor.P

/- The sum of two values. -/
namespace Go.Proofs.YtifpjhghbafcjaaDoor.P
open Go.RowKit Go.Proofs.YtifpjhghbafcjaaDoorW.PrintWords Go.Proofs.YtifpjhghbafcjaaDoorW.PrintLast Go.Proofs.YtifpjhghbafcjaaDoorW.PrintMore
set_option linter.unusedVariables false
set_option linter.unusedSimpArgs false

def addV (t : Int) (a b : XV) : XV := if fitT t a = true ∧ fitT t b = true then (if t = 3 then b else ⟨wrap64 (a.f0 + b.f0), ⟨#[]⟩⟩) else ⟨0, ⟨#[]⟩⟩
theorem addV_fit (t : Int) (a b : XV) (ha : fitT t a = true) (hb : fitT t b = true) : addV t a b = if t = 3 then b else ⟨wrap64 (a.f0 + b.f0), ⟨#[]⟩⟩ := by
  unfold addV
  exact if_pos ⟨ha, hb⟩
theorem addV_not (t : Int) (a b : XV) (h : ¬ (fitT t a = true ∧ fitT t b = true)) : addV t a b = ⟨0, ⟨#[]⟩⟩ := by
  unfold addV
  exact if_neg h
theorem add_ev (t : Int) (a b : XV) : Ev (fun k => value_Add.f k t a.f0 a.f1 b.f0 b.f1) ((addV t a b).f0, (addV t a b).f1) := by
  simp only [value_Add.f]
  refine Ev.bind (vfits_ev t a.f0 a.f1) ?_
  by_cases ha : fitT t a = true
  · refine Ev.pos ha (Ev.bind (vfits_ev t b.f0 b.f1) (Ev.succ ?_))
    simp only [value_Add.j0]
    by_cases hb : fitT t b = true
    · refine Ev.neg (fun h => ?_) ?_
      · rw [show fitT t ⟨b.f0, b.f1⟩ = true from hb] at h
        exact absurd h (by simp)
      · have e := addV_fit t a b ha hb
        by_cases e3 : t = 3
        · rw [if_pos e3] at e
          rw [e]
          exact Ev.pos e3 (Ev.now _)
        · rw [if_neg e3] at e
          rw [e]
          exact Ev.neg e3 (Ev.now _)
    · rw [addV_not t a b (fun h => hb h.2)]
      refine Ev.pos ?_ (Ev.now _)
      rw [show fitT t ⟨b.f0, b.f1⟩ = false from Bool.eq_false_iff.mpr hb]
      rfl
  · rw [addV_not t a b (fun h => ha h.1)]
    refine Ev.neg ha (Ev.succ ?_)
    simp only [value_Add.j0]
    exact Ev.pos (by simp) (Ev.now _)
theorem fit_num (t : Int) (h : t = 1 ∨ t = 2) (x : Int) : fitT t ⟨x, ⟨#[]⟩⟩ = true := by
  unfold fitT
  rw [if_pos h]
  simp [ByteArray.toList_eq]
theorem add_num (t : Int) (h : t = 1 ∨ t = 2) (x y : Int) : addV t ⟨x, ⟨#[]⟩⟩ ⟨y, ⟨#[]⟩⟩ = ⟨wrap64 (x + y), ⟨#[]⟩⟩ := by
  rw [addV_fit t _ _ (fit_num t h x) (fit_num t h y), if_neg (by omega)]
theorem add_text (a b : XV) (ha : fitT 3 a = true) (hb : fitT 3 b = true) : addV 3 a b = b := by
  rw [addV_fit 3 a b ha hb, if_pos rfl]
theorem wrap_assoc (x y z : Int) : wrap64 (wrap64 (x + y) + z) = wrap64 (x + wrap64 (y + z)) := by
  unfold wrap64
  omega
end Go.Proofs.YtifpjhghbafcjaaDoor.P

/- Sums go round, and do not hang on the order in which they are made, but of texts, of which the last one stays: the plain law. -/
namespace Go.Proofs.YtifpjhghbafcjaaDoor.Pure
open Go.RowKit Go.Proofs.YtifpjhghbafcjaaDoor.P Go.Proofs.YtifpjhghbafcjaaDoorW.PrintWords Go.Proofs.YtifpjhghbafcjaaDoorW.PrintLast
set_option linter.unusedVariables false
theorem j0_ev (b : Bool) (h : b = true) : Ev (fun k => thresherlaw03_ValueSums.j0 k b) true := by
  refine Ev.succ ?_
  simp only [thresherlaw03_ValueSums.j0]
  exact (Ev.now _).eq h
theorem ValueSums : thresherlaw03_ValueSums.PureG := by
  intro t l ht ⟨⟨g1, _⟩, ⟨g2, _⟩, ⟨g3, _⟩⟩
  obtain ⟨t0, t1⟩ := wf_u8 ht
  have n1 : GV l.f0 := wf_i64 g1
  have n2 : GV l.f1 := wf_i64 g2
  have n3 : GV l.f2 := wf_i64 g3
  obtain ⟨k1, k3⟩ := kd3_rng t
  obtain ⟨k, hk⟩ : ∃ k, k = kd3 t := ⟨_, rfl⟩
  rw [← hk] at k1 k3
  apply Ev.rounds
  simp only [thresherlaw03_ValueSums.f]
  have kf := kind_f t (by omega) (by omega)
  rw [← hk] at kf
  clear hk
  refine Ev.bind shown_ev (Ev.bindc kf (Ev.bindc (fit_f k l.f0) (Ev.bindc (fit_f k l.f1) (Ev.bindc (fit_f k l.f2) ?_))))
  by_cases e3 : k = 3
  · subst e3
    have fa := fitT_fit1 3 l.f0 k1 k3
    have fb := fitT_fit1 3 l.f1 k1 k3
    have fc := fitT_fit1 3 l.f2 k1 k3
    obtain ⟨a, ha⟩ : ∃ a, a = fit1 3 l.f0 := ⟨_, rfl⟩
    obtain ⟨b, hb⟩ : ∃ b, b = fit1 3 l.f1 := ⟨_, rfl⟩
    obtain ⟨c, hc⟩ : ∃ c, c = fit1 3 l.f2 := ⟨_, rfl⟩
    rw [← ha] at fa ⊢
    rw [← hb] at fb ⊢
    rw [← hc] at fc ⊢
    have c1 := add_ev 3 a b
    have c2 := add_ev 3 b c
    have c3 := add_ev 3 a c
    rw [add_text a b fa fb] at c1
    rw [add_text b c fb fc] at c2
    rw [add_text a c fa fc] at c3
    exact Ev.bind c1 (Ev.bind c2 (Ev.bind c2 (Ev.bind c3 (Ev.neg (by simp) (Ev.pos rfl (Ev.pos rfl ((Ev.now _).eq (by simp))))))))
  · have h12 : k = 1 ∨ k = 2 := by omega
    have ea : ∀ v : XV, fit1 k v = ⟨v.f0, ⟨#[]⟩⟩ := fun v => by unfold fit1; rw [if_neg e3]
    rw [ea, ea, ea]
    obtain ⟨x, hx⟩ : ∃ x, x = l.f0.f0 := ⟨_, rfl⟩
    obtain ⟨y, hy⟩ : ∃ y, y = l.f1.f0 := ⟨_, rfl⟩
    obtain ⟨z, hz⟩ : ∃ z, z = l.f2.f0 := ⟨_, rfl⟩
    have n1' : -9223372036854775808 ≤ x ∧ x ≤ 9223372036854775807 := by rw [hx]; exact n1
    rw [← hx, ← hy, ← hz]
    clear hx hy hz n1 n2 n3 g1 g2 g3
    have c1 := add_ev k ⟨x, ⟨#[]⟩⟩ ⟨y, ⟨#[]⟩⟩
    have c2 := add_ev k ⟨wrap64 (x + y), ⟨#[]⟩⟩ ⟨z, ⟨#[]⟩⟩
    have c3 := add_ev k ⟨y, ⟨#[]⟩⟩ ⟨z, ⟨#[]⟩⟩
    have c4 := add_ev k ⟨x, ⟨#[]⟩⟩ ⟨wrap64 (y + z), ⟨#[]⟩⟩
    have c5 := add_ev k ⟨y, ⟨#[]⟩⟩ ⟨x, ⟨#[]⟩⟩
    have c6 := add_ev k ⟨x, ⟨#[]⟩⟩ ⟨0, ⟨#[]⟩⟩
    rw [add_num k h12] at c1 c2 c3 c4 c5 c6
    rw [wrap_assoc] at c2
    rw [Int.add_comm y x] at c5
    rw [Int.add_zero, w64 n1'.1 n1'.2] at c6
    refine Ev.bind c1 (Ev.bind c2 (Ev.bind c3 (Ev.bind c4 (Ev.neg (by simp) (Ev.neg e3 (Ev.pos rfl (Ev.bind c1 (Ev.bind c5 (Ev.pos (by simp) (Ev.bind c1 (Ev.pos rfl (Ev.bind c6 ?_))))))))))))
    exact j0_ev _ (by simp)
end Go.Proofs.YtifpjhghbafcjaaDoor.Pure

-- Written by wip/tools/myprint.py: the row of ValueSums, out of its plain law and its walk.
namespace Go.Proofs.YtifpjhghbafcjaaDoor.valueSums
open Go.ChangeShapes Go.WideShapes Go.ChangeAt Go.RowKit Go.Proofs.YtifpjhghbafcjaaDoor.P Go.Proofs.YtifpjhghbafcjaaDoorW.PrintWords
set_option linter.unusedVariables false
set_option linter.unusedSimpArgs false
theorem own : ownKnob Tryd.prog.godebug = none := by kernel_rfl
theorem laidOut : laidOutB Tryd.prog = true := by kernel_rfl
set_option maxRecDepth 100000 in
theorem lifted (os : Os) (started : os.Started) (H : Type) (enc : TypeId × Value → H) :
    ReturnsInHanded {} Tryd.checked os 6 .any (fun w args => (Rows.valueSumsSpec.pre enc Tryd.prog Tryd.f6 Rows.valueSumsRow.domain false w args ∧ laidMetH Tryd.prog laid3 w) ∧ sizedMet enc Tryd.prog Tryd.f6 (OpenSpec.ofChange Rows.valueSumsSpec) false w args) (Rows.valueSumsSpec.post enc Tryd.prog Tryd.f6 false true false false) := by
  refine returnsInHanded_of_change_and (C := Tryd.checked) (X := fun w _ => laidMetH Tryd.prog laid3 w) (fun _ _ _ hh h => h.of_heap hh) own started (by kernel_rfl) Tryd.func6
    (ChangeSpec.witness_shaped (enc := enc) (C := Tryd.checked) (os := os) (X := fun w _ => laidMetH Tryd.prog laid3 w) false (World.doorLaid Tryd.prog 62 os) #[.int .u8 0, .agg #[.int .i64 0, .string ByteArray.empty, .int .i64 0, .string ByteArray.empty, .int .i64 0, .string ByteArray.empty]] 8 rfl (World.shaped_of_RefB (by kernel_rfl) (by kernel_rfl)) (by kernel_rfl) (by kernel_rfl) (by kernel_rfl) (door3_met os _)) ?_
  intro W base args ds gs before hval0 hW hcnd hsz0 hL _
  have htab := tabs_of_laid hL
  have hval : ∀ (j : Nat) t v, Tryd.f6.params[j]? = some t → args[j]? = some v → Value.okWide Tryd.prog W .any base t v := hval0
  have hW' := hW
  obtain ⟨p, q, hA0, hV, rfl, hfz, hnd⟩ := hW
  have hA : DataW.TrodAll enc Tryd.prog W 0 (fun _ => true) true Tryd.f6.params.toList args.toList ds p := hA0
  rw [Tryd.params6] at hA hval
  obtain ⟨v0, vs0, d0, ds0, p0, q0, hargs, rfl, rfl, h0, r0⟩ := trodAll_cons hA
  obtain ⟨v1, vs1, d1, ds1, p1, q1, rfl, rfl, rfl, h1, r1⟩ := trodAll_cons r0
  obtain ⟨rfl, rfl, rfl⟩ := trodAll_nil r1
  obtain rfl : args = #[v0, v1] := by cases args; simp_all
  obtain ⟨rfl, rfl⟩ := trodVars_none hV
  have lt0 : ∀ x ∈ p0, x.block < W.heap.size := by obtain ⟨m, hm⟩ := h0; exact DataW.trod_lt m _ _ _ hm
  obtain ⟨x0, K0, g0⟩ := ((opens_int Tryd.underlying5)).arg h0
  obtain ⟨b0, rfl⟩ := okWide_int Tryd.underlying5 (hval 0 5 v0 rfl rfl)
  have e0 : b0 = x0 := by simpa [Value.cells, Kd.int, Kd.scalar] using K0
  subst e0
  have lt1 : ∀ x ∈ p1, x.block < W.heap.size := by obtain ⟨m, hm⟩ := h1; exact DataW.trod_lt m _ _ _ hm
  obtain ⟨x1, K1, g1⟩ := (op24).arg h1
  obtain ⟨cs1, rfl⟩ := okWide_aggA Tryd.underlying24 (hval 1 24 v1 rfl rfl)
  have e1 := k24_open K1
  replace e1 := agg_of e1
  obtain ⟨k, hk⟩ := Pure.ValueSums b0 x1 g0 g1
  have call : Calls Tryd.prog 6 #[.int .u8 b0, .agg cs1] W fun e W' => e = .returned (.bool true) ∧ Below W.heap.size W W' := by
    rw [e1]
    refine (thresherlaw03_ValueSums.calls k _ _ _ _ _ _ _ true W hk htab).mono ?_
    rintro e w' ⟨rfl, hd⟩
    exact ⟨rfl, hd⟩
  refine call.mono fun e W' ⟨he, bel⟩ => ?_
  subst he
  exact ⟨_, rfl, _, _, _, [], _, [], hW', trodAll_mk1 (shut_bool Tryd.underlying4 _), (trodAll_cons_mk (Below.trod laidOut (by kernel_rfl) (of_decide_eq_true (by kernel_rfl)) h0 bel lt0) (trodAll_cons_mk (Below.trod laidOut (by kernel_rfl) (of_decide_eq_true (by kernel_rfl)) h1 bel lt1) trodAll_mk0)), rfl, bel.frame _, fun h => by cases h⟩
theorem over : Rows.valueSumsRow.holds Tryd.pinned (OpenSpec.ofChange Rows.valueSumsSpec) :=
  OpenClaim.holds_of_wide 6 Tryd.f6 rfl rfl rfl rfl rfl rfl rfl ⟨rfl, rfl, rfl, rfl, rfl⟩ rfl rfl rfl rfl rfl (by kernel_rfl) Tryd.func6 (by kernel_rfl)
    (of_decide_eq_true (by kernel_rfl)) (by unfold Func.isWrapper; first | (rw [if_pos (by decide +kernel)]; kernel_rfl) | (rw [if_neg (by decide +kernel)]; exact ⟨rfl, rfl⟩))
    (fun os started H enc _ => lifted os started H enc)
theorem carded : Rows.ValueSumsCardSaid :=
  Claim7.holds_tied_plain_at .later [] [.data, .data, .data] true (true, "bb69a14ecfbc10d91511e1de1cac401641993d3163807c3ed32958c36fab5aed") true
    over (fun _ h => by cases h) (by kernel_rfl) (fun _ h => by cases h) valueSums_row_tie rfl ⟨rfl, rfl⟩ (by kernel_rfl) rfl
    (fun f fn hf hfn => by
      obtain rfl : f = 6 := Option.some.inj ((show Tryd.prog.funcNamed Tryd.f6.name = some 6 by kernel_rfl).symm.trans hf) |>.symm
      obtain rfl : fn = Tryd.f6 := (Option.some.inj (Tryd.func6.symm.trans hfn)).symm
      exact ⟨by kernel_rfl, fun j t ht => by
        rw [Tryd.params6] at ht
        have hm : t ∈ [5, 24] := by simpa using Array.mem_of_getElem? ht
        have hall : ([5, 24].all fun u => !Tryd.prog.wantsStandIn u) = true := by kernel_rfl
        exact (show Tryd.prog.wantsStandIn t = false by simpa using List.all_eq_true.1 hall t hm)⟩)
    (by kernel_rfl)
#print axioms carded
end Go.Proofs.YtifpjhghbafcjaaDoor.valueSums
namespace Go.Proofs.YtifpjhghbafcjaaDoor
/-- The tied card, under a short name, for the claim. -/
theorem valueSums_holds : Rows.ValueSumsCardSaid := valueSums.carded
end Go.Proofs.YtifpjhghbafcjaaDoor

