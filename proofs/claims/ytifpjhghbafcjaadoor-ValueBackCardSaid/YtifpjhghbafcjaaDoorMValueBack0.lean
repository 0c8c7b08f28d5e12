/- The row of ValueBack. Merged: SValueBack, X3Base, X3Ord, X3Val, X3Law, X3Dig, X3Txt, X3Read, PureValueBack, RValueBack. -/
import Derived.Test.YtifpjhghbafcjaaDoorPx13
import Derived.Test.YtifpjhghbafcjaaDoorO
import Derived.Test.YtifpjhghbafcjaaDoorPx0
import Derived.Test.YtifpjhghbafcjaaDoorHBase
import Derived.Lib.Bytealg
import Derived.Test.YtifpjhghbafcjaaDoorPx3
import Derived.Test.YtifpjhghbafcjaaDoorPx2
import Derived.Test.YtifpjhghbafcjaaDoorPx4
import Derived.Test.YtifpjhghbafcjaaDoorHRead
import Derived.Test.YtifpjhghbafcjaaDoorRows
import Derived.WalkKit
import Derived.ProofKit
import Derived.OpenShut
import Derived.ShutString
import Derived.ChangeOld
import Derived.Below
import Derived.SizedLaws
import Derived.Test.YtifpjhghbafcjaaDoorHLaidE
import Derived.Test.YtifpjhghbafcjaaDoorCards
import Derived.Test.YtifpjhghbafcjaaDoorTie
import Derived.SevenTiedAt
import Derived.LaidMore
import Derived.Stop.Joined
-- Written by wip/tools/myprint.py: the plain statement of ValueBack.
namespace Go.Proofs.YtifpjhghbafcjaaDoor.P
open Go.RowKit Go.Proofs.YtifpjhghbafcjaaDoorW.PrintWords
def thresherlaw03_ValueBack.PureG : Prop := ∀ (x0 : Int) (x1 : S35), (Lit.int .u8 x0).wf = true → gd35 x1 → ∃ k, thresherlaw03_ValueBack.f k x0 x1.f0.f0 x1.f0.f1 x1.f1.f0 x1.f1.f1 = some true
end Go.Proofs.YtifpjhghbafcjaaDoor.P

/- Values, and the types that they fit. -/
namespace Go.Proofs.YtifpjhghbafcjaaDoor.P
open Go.RowKit Go.Proofs.YtifpjhghbafcjaaDoorW.PrintWords Go.Proofs.YtifpjhghbafcjaaDoorW.PrintLast Go.Proofs.YtifpjhghbafcjaaDoorW.PrintMore
set_option linter.unusedVariables false
set_option linter.unusedSimpArgs false

abbrev XV := S23
/-- Does a value fit a type? -/
def fitT (t : Int) (v : XV) : Bool := if t = 1 ∨ t = 2 then v.f1.toList == ([] : List UInt8) else if t = 3 then (if v.f0 = 0 then decide ((v.f1.size : Int) ≤ 60) else false) else false
/-- The value made to fit a type. -/
def fit1 (t : Int) (v : XV) : XV := if t = 3 then ⟨0, if (v.f1.size : Int) > 60 then v.f1.extract 0 60 else v.f1⟩ else ⟨v.f0, ⟨#[]⟩⟩
theorem fitT_fit1 (t : Int) (v : XV) (h1 : 1 ≤ t) (h3 : t ≤ 3) : fitT t (fit1 t v) = true := by
  unfold fitT fit1
  by_cases e : t = 3
  · subst e
    simp only [if_true, if_pos rfl]
    rw [if_neg (by omega)]
    rw [decide_eq_true_iff]
    split
    · simp only [ByteArray.size_extract]; omega
    · omega
  · rw [if_pos (by omega), if_neg e]
    simp [ByteArray.toList_eq]
theorem bytes_eq {a b : ByteArray} (h : a.toList = b.toList) : a = b := by
  rw [ByteArray.toList_eq, ByteArray.toList_eq] at h
  exact ByteArray.ext (Array.toList_inj.mp h)
theorem XV.same {a b : XV} : (!(a.f0 == b.f0) || (!(a.f1.toList == b.f1.toList))) = true ↔ a ≠ b := by
  constructor
  · rintro h rfl
    simp at h
  · intro h
    by_cases h0 : a.f0 = b.f0
    · by_cases h1 : a.f1.toList = b.f1.toList
      · exact absurd (by cases a; cases b; simp only at h0 h1; rw [h0, bytes_eq h1]) h
      · simp [h1]
    · simp [h0]
instance : DecidableEq XV := fun a b => if h : (!(a.f0 == b.f0) || (!(a.f1.toList == b.f1.toList))) = true then isFalse (XV.same.mp h) else isTrue (Classical.byContradiction fun e => h (XV.same.mpr e))
end Go.Proofs.YtifpjhghbafcjaaDoor.P

/- The order of values and of rows. -/
namespace Go.Proofs.YtifpjhghbafcjaaDoor.P
open Go.RowKit Go.Proofs.YtifpjhghbafcjaaDoorW.PrintWords Go.Proofs.YtifpjhghbafcjaaDoorW.PrintLast Go.Proofs.YtifpjhghbafcjaaDoorW.PrintMore
set_option linter.unusedVariables false
set_option linter.unusedSimpArgs false

theorem cb_rng : ∀ a b : List UInt8, Lib.compareBytes a b = -1 ∨ Lib.compareBytes a b = 0 ∨ Lib.compareBytes a b = 1
  | [], [] => by simp [Lib.compareBytes]
  | [], _ :: _ => by simp [Lib.compareBytes]
  | _ :: _, [] => by simp [Lib.compareBytes]
  | a :: xs, b :: ys => by
    unfold Lib.compareBytes
    split
    · simp
    · split
      · simp
      · exact cb_rng xs ys
theorem u8_tri (a b : UInt8) : (a < b ∧ ¬ b < a) ∨ (b < a ∧ ¬ a < b) ∨ (a = b ∧ ¬ a < b ∧ ¬ b < a) := by
  rcases Nat.lt_trichotomy a.toNat b.toNat with h | h | h
  · exact Or.inl ⟨UInt8.lt_iff_toNat_lt.mpr h, fun h2 => by have := UInt8.lt_iff_toNat_lt.mp h2; omega⟩
  · have e : a = b := UInt8.toNat_inj.mp h
    subst e
    exact Or.inr (Or.inr ⟨rfl, fun h2 => by have := UInt8.lt_iff_toNat_lt.mp h2; omega, fun h2 => by have := UInt8.lt_iff_toNat_lt.mp h2; omega⟩)
  · exact Or.inr (Or.inl ⟨UInt8.lt_iff_toNat_lt.mpr h, fun h2 => by have := UInt8.lt_iff_toNat_lt.mp h2; omega⟩)
theorem cb_anti : ∀ a b : List UInt8, Lib.compareBytes b a = - Lib.compareBytes a b
  | [], [] => by simp [Lib.compareBytes]
  | [], _ :: _ => by simp [Lib.compareBytes]
  | _ :: _, [] => by simp [Lib.compareBytes]
  | a :: xs, b :: ys => by
    unfold Lib.compareBytes
    rcases u8_tri a b with ⟨h1, h2⟩ | ⟨h1, h2⟩ | ⟨h0, h1, h2⟩
    · rw [if_neg h2, if_pos h1, if_pos h1]; rfl
    · rw [if_pos h1, if_neg h2, if_pos h1]
    · rw [if_neg h2, if_neg h1, if_neg h1, if_neg h2]; exact cb_anti xs ys
theorem cb_zero : ∀ a b : List UInt8, Lib.compareBytes a b = 0 ↔ a = b
  | [], [] => by simp [Lib.compareBytes]
  | [], _ :: _ => by simp [Lib.compareBytes]
  | _ :: _, [] => by simp [Lib.compareBytes]
  | a :: xs, b :: ys => by
    unfold Lib.compareBytes
    rcases u8_tri a b with ⟨h1, h2⟩ | ⟨h1, h2⟩ | ⟨h0, h1, h2⟩
    · rw [if_pos h1]
      exact ⟨fun h => by omega, fun h => absurd h1 (by rw [(List.cons.inj h).1] at h2 ⊢; rw [(List.cons.inj h).1] at h1; exact h2)⟩
    · rw [if_neg h2, if_pos h1]
      exact ⟨fun h => by omega, fun h => absurd h1 (by rw [(List.cons.inj h).1] at h1; rw [(List.cons.inj h).1] at h2; exact absurd h1 h2)⟩
    · rw [if_neg h1, if_neg h2, cb_zero xs ys, h0]
      exact ⟨fun h => by rw [h], fun h => (List.cons.inj h).2⟩
theorem cb_trans : ∀ a b c : List UInt8, Lib.compareBytes a b ≤ 0 → Lib.compareBytes b c ≤ 0 → Lib.compareBytes a c ≤ 0
  | [], _, [], _, _ => by simp [Lib.compareBytes]
  | [], _, _ :: _, _, _ => by simp [Lib.compareBytes]
  | _ :: _, [], _, h, _ => by simp [Lib.compareBytes] at h
  | _ :: _, _ :: _, [], _, h => by simp [Lib.compareBytes] at h
  | a :: xs, b :: ys, c :: zs, h1, h2 => by
    unfold Lib.compareBytes at h1 h2 ⊢
    rcases u8_tri a b with ⟨p1, p2⟩ | ⟨p1, p2⟩ | ⟨p0, p1, p2⟩
    · rcases u8_tri b c with ⟨q1, q2⟩ | ⟨q1, q2⟩ | ⟨q0, q1, q2⟩
      · rw [if_pos (UInt8.lt_trans p1 q1)]; omega
      · rw [if_neg q2, if_pos q1] at h2; omega
      · subst q0; rw [if_pos p1]; omega
    · rw [if_neg p2, if_pos p1] at h1; omega
    · subst p0
      rw [if_neg p1, if_neg p2] at h1
      rcases u8_tri a c with ⟨q1, q2⟩ | ⟨q1, q2⟩ | ⟨q0, q1, q2⟩
      · rw [if_pos q1]; omega
      · rw [if_neg q2, if_pos q1] at h2; omega
      · rw [if_neg q1, if_neg q2] at h2 ⊢
        exact cb_trans xs ys zs h1 h2

/-- A value's number is one of 64 bits. -/
def GV (v : XV) : Prop := -9223372036854775808 ≤ v.f0 ∧ v.f0 ≤ 9223372036854775807
def sgn (x y : Int) : Int := if x < y then -1 else if x > y then 1 else 0
def un (x : Int) : Int := x % 18446744073709551616
def cmpV (t : Int) (a b : XV) : Int := if fitT t a = true ∧ fitT t b = true then (if t = 3 then Lib.compareBytes a.f1.data.toList b.f1.data.toList else if t = 2 then sgn (un a.f0) (un b.f0) else sgn a.f0 b.f0) else 0
theorem sgn_rng (x y : Int) : sgn x y = -1 ∨ sgn x y = 0 ∨ sgn x y = 1 := by unfold sgn; split <;> (try split) <;> simp
theorem cmpV_rng (t : Int) (a b : XV) : cmpV t a b = -1 ∨ cmpV t a b = 0 ∨ cmpV t a b = 1 := by
  unfold cmpV
  split
  · split
    · exact cb_rng _ _
    · split <;> exact sgn_rng _ _
  · simp
theorem cmpV_anti (t : Int) (a b : XV) : cmpV t b a = - cmpV t a b := by
  unfold cmpV
  by_cases h : fitT t a = true ∧ fitT t b = true
  · rw [if_pos h, if_pos h.symm]
    split
    · exact cb_anti _ _
    · split <;> (unfold sgn; split <;> split <;> (try split) <;> omega)
  · rw [if_neg h, if_neg (fun q => h q.symm)]
    rfl
theorem fit_empty {t : Int} {a : XV} (h : fitT t a = true) (h3 : t ≠ 3) : a.f1 = ⟨#[]⟩ := by
  unfold fitT at h
  split at h
  · have h2 : a.f1.toList = [] := by simpa using h
    exact bytes_eq (by rw [h2]; simp [ByteArray.toList_eq])
  · first | exact absurd h (by simp) | (rw [if_neg h3] at h; exact absurd h (by simp))
theorem fit_zero {t : Int} {a : XV} (h : fitT t a = true) (h3 : t = 3) : a.f0 = 0 := by
  subst h3
  unfold fitT at h
  rw [if_neg (by omega), if_pos rfl] at h
  split at h
  · assumption
  · exact absurd h (by simp)
theorem XV.ext2 {a b : XV} (h0 : a.f0 = b.f0) (h1 : a.f1 = b.f1) : a = b := by cases a; cases b; simp only at h0 h1; rw [h0, h1]
theorem cmpV_zero (t : Int) (a b : XV) (ha : fitT t a = true) (hb : fitT t b = true) (ga : GV a) (gb : GV b) : cmpV t a b = 0 ↔ a = b := by
  unfold cmpV
  rw [if_pos ⟨ha, hb⟩]
  obtain ⟨g1, g2⟩ := ga
  obtain ⟨g3, g4⟩ := gb
  by_cases e : t = 3
  · rw [if_pos e, cb_zero]
    exact ⟨fun h => XV.ext2 (by rw [fit_zero ha e, fit_zero hb e]) (ByteArray.ext (Array.toList_inj.mp h)), fun h => by rw [h]⟩
  · rw [if_neg e]
    have key : a = b ↔ a.f0 = b.f0 := ⟨fun h => by rw [h], fun h => XV.ext2 h (by rw [fit_empty ha e, fit_empty hb e])⟩
    rw [key]
    split
    · unfold sgn un; split <;> (try split) <;> omega
    · unfold sgn; split <;> (try split) <;> omega
theorem sgn_trans (x y z : Int) : sgn x y ≤ 0 → sgn y z ≤ 0 → sgn x z ≤ 0 := by
  unfold sgn
  intro h1 h2
  split
  · omega
  · split
    · exfalso
      by_cases p : x < y
      · by_cases q : y < z
        · omega
        · rw [if_neg q] at h2
          by_cases r : y > z
          · rw [if_pos r] at h2; omega
          · omega
      · rw [if_neg p] at h1
        by_cases r : x > y
        · rw [if_pos r] at h1; omega
        · by_cases q : y < z
          · omega
          · rw [if_neg q] at h2
            by_cases r : y > z
            · rw [if_pos r] at h2; omega
            · omega
    · omega
def cmpC (t : Int) (a b : XV) : Int := if t = 3 then Lib.compareBytes a.f1.data.toList b.f1.data.toList else if t = 2 then sgn (un a.f0) (un b.f0) else sgn a.f0 b.f0
theorem cmpV_fit {t : Int} {a b : XV} (ha : fitT t a = true) (hb : fitT t b = true) : cmpV t a b = cmpC t a b := by
  unfold cmpV cmpC
  rw [if_pos ⟨ha, hb⟩]
theorem cmpV_trans (t : Int) (a b c : XV) (ha : fitT t a = true) (hb : fitT t b = true) (hc : fitT t c = true) : cmpV t a b ≤ 0 → cmpV t b c ≤ 0 → cmpV t a c ≤ 0 := by
  rw [cmpV_fit ha hb, cmpV_fit hb hc, cmpV_fit ha hc]
  unfold cmpC
  by_cases e : t = 3
  · rw [if_pos e, if_pos e, if_pos e]
    exact cb_trans _ _ _
  · rw [if_neg e, if_neg e, if_neg e]
    by_cases e2 : t = 2
    · rw [if_pos e2, if_pos e2, if_pos e2]
      exact sgn_trans _ _ _
    · rw [if_neg e2, if_neg e2, if_neg e2]
      exact sgn_trans _ _ _

end Go.Proofs.YtifpjhghbafcjaaDoor.P

/- value.Compare tells the order of values. -/
namespace Go.Proofs.YtifpjhghbafcjaaDoor.P
open Go.RowKit Go.Proofs.YtifpjhghbafcjaaDoorW.PrintWords Go.Proofs.YtifpjhghbafcjaaDoorW.PrintLast Go.Proofs.YtifpjhghbafcjaaDoorW.PrintMore
set_option linter.unusedVariables false
set_option linter.unusedSimpArgs false

theorem vfits_f (k : Nat) (t n : Int) (s : ByteArray) : value_Fits.f (k + 1) t n s = some (fitT t ⟨n, s⟩) := by
  unfold value_Fits.f fitT
  by_cases h1 : t = 1
  · rw [if_pos h1, if_pos (Or.inl h1)]
    subst h1
    rfl
  · rw [if_neg h1]
    by_cases h2 : t = 2
    · rw [if_pos (Or.inr h2)]
      subst h2
      rfl
    · rw [if_neg (by omega), show (t == 2) = false by simpa using h2]
      simp only [value_Fits.j0, Bool.false_eq_true, if_false]
      by_cases h3 : t = 3
      · rw [if_pos h3, if_pos h3]
        split <;> rfl
      · rw [if_neg h3, if_neg h3]
theorem vfits_ev (t n : Int) (s : ByteArray) : Ev (fun k => value_Fits.f k t n s) (fitT t ⟨n, s⟩) := Ev.succ ⟨0, fun k _ => vfits_f k t n s⟩
theorem cmpu_f (x y : Int) : cmp_Compare_uint64.f x y = some (sgn x y) := by
  simp only [cmp_Compare_uint64.f, cmp_isNaN_uint64.f, bne_self_eq_false, Option.bind_some, Bool.false_eq_true, if_false]
  unfold sgn
  split
  · rfl
  · split <;> rfl
theorem cmpi_f (x y : Int) : cmp_Compare_int64.f x y = some (sgn x y) := by
  simp only [cmp_Compare_int64.f, cmp_isNaN_int64.f, bne_self_eq_false, Option.bind_some, Bool.false_eq_true, if_false]
  unfold sgn
  split
  · rfl
  · split <;> rfl
theorem vcmp_ev (t : Int) (a b : XV) : Ev (fun k => value_Compare.f k t a.f0 a.f1 b.f0 b.f1) (cmpV t a b) := by
  simp only [value_Compare.f]
  refine Ev.bind (vfits_ev t a.f0 a.f1) ?_
  by_cases ha : fitT t a = true
  · refine Ev.pos ha (Ev.bind (vfits_ev t b.f0 b.f1) (Ev.succ ?_))
    simp only [value_Compare.j0]
    by_cases hb : fitT t b = true
    · rw [cmpV_fit ha hb]
      refine Ev.neg (fun h => ?_) ?_
      · rw [show fitT t ⟨b.f0, b.f1⟩ = true from hb] at h
        exact absurd h (by simp)
      · by_cases e3 : t = 3
        · refine (Ev.pos e3 (Ev.bindc rfl (Ev.now _))).eq ?_
          unfold cmpC
          rw [if_pos e3]
        · refine Ev.neg e3 ?_
          by_cases e2 : t = 2
          · refine (Ev.pos e2 (Ev.bindc (cmpu_f _ _) (Ev.now _))).eq ?_
            unfold cmpC
            rw [if_neg e3, if_pos e2]
            rfl
          · refine (Ev.neg e2 (Ev.bindc (cmpi_f _ _) (Ev.now _))).eq ?_
            unfold cmpC
            rw [if_neg e3, if_neg e2]
    · refine (Ev.pos ?_ (Ev.now _)).eq ?_
      · rw [show fitT t ⟨b.f0, b.f1⟩ = false from Bool.eq_false_iff.mpr hb]
        rfl
      · unfold cmpV
        rw [if_neg (fun h => hb h.2)]
  · refine Ev.neg ha (Ev.succ ?_)
    simp only [value_Compare.j0]
    refine (Ev.pos (by simp) (Ev.now _)).eq ?_
    unfold cmpV
    rw [if_neg (fun h => ha h.1)]
end Go.Proofs.YtifpjhghbafcjaaDoor.P

/- The document's example; a type out of a byte; a value made to fit. -/
namespace Go.Proofs.YtifpjhghbafcjaaDoor.P
open Go.RowKit Go.Proofs.YtifpjhghbafcjaaDoorW.PrintWords Go.Proofs.YtifpjhghbafcjaaDoorW.PrintLast Go.Proofs.YtifpjhghbafcjaaDoorW.PrintMore
set_option linter.unusedVariables false
set_option linter.unusedSimpArgs false

theorem arr_toList (l : List UInt8) : (⟨l.toArray⟩ : ByteArray).toList = l := by rw [ByteArray.toList_eq]
theorem dd_step (u : Nat) (h : ¬ u < 10) : Lib.decDigits u = Lib.decDigits (u / 10) ++ [UInt8.ofNat (48 + u % 10)] := by rw [Lib.decDigits, dif_neg h]
theorem dd_max : Lib.decDigits 18446744073709551615 = [49, 56, 52, 52, 54, 55, 52, 52, 48, 55, 51, 55, 48, 57, 53, 53, 49, 54, 49, 53] := by
  repeat rw [dd_step _ (by decide)]
  rw [Lib.decDigits_one (by decide)]
  decide
theorem shown_ev : Ev (fun k => thresherlaw03_shown.f k) true := by
  have e : value_Text.f 2 (-1) (⟨#[]⟩ : ByteArray) = some ⟨([49, 56, 52, 52, 54, 55, 52, 52, 48, 55, 51, 55, 48, 57, 53, 53, 49, 54, 49, 53] : List UInt8).toArray⟩ := by
    unfold value_Text.f
    rw [if_neg (by decide), if_pos rfl, if_pos (show (⟨#[]⟩ : ByteArray).size = 0 from rfl), show (-1 % 18446744073709551616 : Int).toNat = 18446744073709551615 from rfl, dd_max]
  simp only [thresherlaw03_shown.f]
  refine Ev.bindc e (Ev.pos (arr_toList _) (Ev.bind (vcmp_ev 2 (⟨-1, ⟨#[]⟩⟩ : XV) ⟨1, ⟨#[]⟩⟩) ((Ev.now _).eq ?_)))
  have h1 : fitT 2 (⟨-1, ⟨#[]⟩⟩ : XV) = true := by simp [fitT, ByteArray.toList_eq]
  have h2 : fitT 2 (⟨1, ⟨#[]⟩⟩ : XV) = true := by simp [fitT, ByteArray.toList_eq]
  rw [cmpV_fit h1 h2]
  rfl
/-- One of the three types. -/
def kd3 (x : Int) : Int := 1 + x % 3
theorem kd3_rng (x : Int) : 1 ≤ kd3 x ∧ kd3 x ≤ 3 := by unfold kd3; omega
theorem kind_f (x : Int) (h0 : 0 ≤ x) (h1 : x ≤ 255) : thresherlaw03_kind.f x = some (kd3 x) := by
  unfold thresherlaw03_kind.f kd3
  rw [w64 (x := x) (by omega) (by omega), Int.tmod_eq_emod_of_nonneg h0, w64 (by omega) (by omega)]
theorem fit_f (t : Int) (v : XV) : thresherlaw03_fit.f t v.f0 v.f1 = some ((fit1 t v).f0, (fit1 t v).f1) := by
  unfold thresherlaw03_fit.f fit1
  by_cases e : t = 3
  · rw [if_pos e, if_pos e]
    by_cases q : (v.f1.size : Int) > 60
    · rw [if_pos q, if_pos (by omega), if_pos (by omega)]; simp [q]
    · rw [if_neg q]; simp [q]
  · rw [if_neg e, if_neg e]
theorem fit1_GV (t : Int) (v : XV) (h : GV v) : GV (fit1 t v) := by
  unfold fit1
  split
  · exact ⟨by show (_ : Int) ≤ 0; omega, by show (0 : Int) ≤ _; omega⟩
  · exact h
end Go.Proofs.YtifpjhghbafcjaaDoor.P

/- What is written of a number. -/
namespace Go.Proofs.YtifpjhghbafcjaaDoor.P
open Go.RowKit Go.Proofs.YtifpjhghbafcjaaDoorW.PrintWords Go.Proofs.YtifpjhghbafcjaaDoorW.PrintLast Go.Proofs.YtifpjhghbafcjaaDoorW.PrintMore
set_option linter.unusedVariables false
set_option linter.unusedSimpArgs false

theorem dig_rng (d : Nat) (h : d < 10) : 48 ≤ (UInt8.ofNat (48 + d)).toNat ∧ (UInt8.ofNat (48 + d)).toNat ≤ 57 := by
  rw [UInt8.toNat_ofNat']
  omega
theorem dd_dig (u : Nat) : ∀ c ∈ Lib.decDigits u, 48 ≤ c.toNat ∧ c.toNat ≤ 57 := by
  induction u using Nat.strongRecOn with
  | _ u ih =>
    by_cases h : u < 10
    · rw [Lib.decDigits_one h]
      intro c hc
      rw [List.mem_singleton.mp hc]
      exact dig_rng u h
    · rw [dd_step u h]
      intro c hc
      rcases List.mem_append.mp hc with hc | hc
      · exact ih (u / 10) (by omega) c hc
      · rw [List.mem_singleton.mp hc]
        exact dig_rng _ (by omega)
theorem dd_ne (u : Nat) : Lib.decDigits u ≠ [] := by
  by_cases h : u < 10
  · rw [Lib.decDigits_one h]; simp
  · rw [dd_step u h]; simp
theorem text_int (n : Int) (h0 : -9223372036854775808 ≤ n) (h1 : n ≤ 9223372036854775807) : value_Text.f 1 n ⟨#[]⟩ = some ⟨(Lib.itoa n).toArray⟩ := by
  unfold value_Text.f
  rw [if_pos rfl, if_pos (show (⟨#[]⟩ : ByteArray).size = 0 from rfl), if_pos ⟨h0, h1⟩]
theorem text_uint (n : Int) : value_Text.f 2 n ⟨#[]⟩ = some ⟨(Lib.decDigits (n % 18446744073709551616).toNat).toArray⟩ := by
  unfold value_Text.f
  rw [if_neg (by decide), if_pos rfl, if_pos (show (⟨#[]⟩ : ByteArray).size = 0 from rfl)]
theorem itoa_dd (n : Int) (h0 : -9223372036854775808 ≤ n) (h1 : n ≤ 9223372036854775807) : (Lib.itoa n == Lib.decDigits (n % 18446744073709551616).toNat) = decide (n ≥ 0) := by
  unfold Lib.itoa
  by_cases h : n < 0
  · rw [if_pos h, decide_eq_false (by omega)]
    obtain ⟨u, hu⟩ : ∃ u, u = (n % 18446744073709551616).toNat := ⟨_, rfl⟩
    rw [← hu, beq_eq_false_iff_ne]
    intro e
    have := dd_dig u 45 (by rw [← e]; simp)
    simp at this
  · rw [if_neg h, decide_eq_true (by omega), show n % 18446744073709551616 = n by omega]
    simp
/-- The order of bytes, as Go's '<' has it. -/
theorem cb_less : ∀ a b : List UInt8, Op.bytesLess a b = decide (Lib.compareBytes a b < 0)
  | [], [] => by simp [Op.bytesLess, Lib.compareBytes]
  | [], _ :: _ => by simp [Op.bytesLess, Lib.compareBytes]
  | _ :: _, [] => by simp [Op.bytesLess, Lib.compareBytes]
  | a :: xs, b :: ys => by
    unfold Op.bytesLess Lib.compareBytes
    rcases u8_tri a b with ⟨h1, h2⟩ | ⟨h1, h2⟩ | ⟨h0, h1, h2⟩
    · rw [if_pos h1]; simp [h1]
    · rw [if_neg h2, if_pos h1]
      have : (a == b) = false := by
        rw [beq_eq_false_iff_ne]; rintro rfl; exact h2 h1
      simp [h2, this]
    · rw [if_neg h1, if_neg h2, cb_less xs ys]
      subst h0
      simp [h1]
theorem cb_longer : ∀ a : List UInt8, ∀ c : UInt8, Lib.compareBytes a (a ++ [c]) = -1
  | [], c => by simp [Lib.compareBytes]
  | x :: xs, c => by
    rw [List.cons_append]
    unfold Lib.compareBytes
    have h : ¬ x < x := fun h => by have := UInt8.lt_iff_toNat_lt.mp h; omega
    rw [if_neg h, if_neg h]
    exact cb_longer xs c
end Go.Proofs.YtifpjhghbafcjaaDoor.P

/- What is written of any value: its bytes. -/
namespace Go.Proofs.YtifpjhghbafcjaaDoor.P
open Go.RowKit Go.Proofs.YtifpjhghbafcjaaDoorW.PrintWords Go.Proofs.YtifpjhghbafcjaaDoorW.PrintLast Go.Proofs.YtifpjhghbafcjaaDoorW.PrintMore
set_option linter.unusedVariables false
set_option linter.unusedSimpArgs false

theorem bt_arr (l : List UInt8) (i : Int) (h0 : 0 ≤ i) (h : i < (l.length : Int)) : bt (⟨l.toArray⟩ : ByteArray) i = ((l[i.toNat]'(by omega)).toNat : Int) := by
  have hs : i.toNat < (⟨l.toArray⟩ : ByteArray).size := by show i.toNat < l.toArray.size; simp; omega
  rw [← bt_at _ _ hs]
  rfl
theorem arr_size (l : List UInt8) : ((⟨l.toArray⟩ : ByteArray).size : Int) = (l.length : Int) := by show (l.toArray.size : Int) = _; simp
theorem dd_len : ∀ k u : Nat, u < 10 ^ (k + 1) → (Lib.decDigits u).length ≤ k + 1
  | 0, u, h => by rw [Lib.decDigits_one (by simpa using h)]; simp
  | k + 1, u, h => by
    by_cases h1 : u < 10
    · rw [Lib.decDigits_one h1]; simp
    · rw [dd_step u h1, List.length_append]
      have := dd_len k (u / 10) (by rw [Nat.pow_succ] at h; omega)
      simp
      omega
theorem dd_len20 (u : Nat) (h : u < 18446744073709551616) : (Lib.decDigits u).length ≤ 20 := dd_len 19 u (by omega)
theorem dd_pos (u : Nat) : 1 ≤ (Lib.decDigits u).length := by
  have := dd_ne u
  rcases h : Lib.decDigits u with _ | ⟨c, l⟩
  · exact absurd h this
  · simp
theorem hex_rng (d : Nat) (h : d < 16) : 48 ≤ (hexU d).toNat ∧ (hexU d).toNat ≤ 102 := by
  unfold hexU
  rw [UInt8.toNat_ofNat']
  split <;> omega
theorem quo1_rng (x : UInt8) : ∀ c ∈ quo1 x, 32 ≤ c.toNat ∧ c.toNat ≤ 126 ∧ c.toNat ≠ 34 := by
  intro c hc
  cases h : esc x with
  | true =>
    rw [quo1_esc x h] at hc
    have := x.toNat_lt
    have h1 := hex_rng (x.toNat / 16) (by omega)
    have h2 := hex_rng (x.toNat % 16) (by omega)
    simp only [List.mem_cons, List.not_mem_nil, or_false] at hc
    rcases hc with rfl | rfl | rfl
    · decide
    · omega
    · omega
  | false =>
    rw [quo1_plain x h, List.mem_singleton] at hc
    subst hc
    simp only [esc, Bool.or_eq_false_iff, decide_eq_false_iff_not] at h
    omega
theorem flat_rng (l : List UInt8) : ∀ c ∈ l.flatMap quo1, 32 ≤ c.toNat ∧ c.toNat ≤ 126 ∧ c.toNat ≠ 34 := by
  intro c hc
  obtain ⟨x, _, hx⟩ := List.mem_flatMap.mp hc
  exact quo1_rng x c hx
end Go.Proofs.YtifpjhghbafcjaaDoor.P

/- What is written is read again as itself. -/
namespace Go.Proofs.YtifpjhghbafcjaaDoor.P
open Go.RowKit Go.Proofs.YtifpjhghbafcjaaDoorW.PrintWords Go.Proofs.YtifpjhghbafcjaaDoorW.PrintLast
set_option linter.unusedVariables false
set_option linter.unusedSimpArgs false

theorem pm_app (M : Nat) (r : List UInt8) : ∀ (l : List UInt8) (acc v : Nat), Lib.parseUintM M acc l = .ok v → Lib.parseUintM M acc (l ++ r) = Lib.parseUintM M v r
  | [], acc, v, h => by
    simp only [Lib.parseUintM] at h
    rw [Lib.NumEnd.ok.inj h, List.nil_append]
  | c :: l, acc, v, h => by
    rw [List.cons_append]
    obtain ⟨R, hR⟩ : ∃ R, R = Lib.parseUintM M v r := ⟨_, rfl⟩
    rw [← hR]
    unfold Lib.parseUintM at h ⊢
    by_cases h1 : 48 ≤ c.toNat ∧ c.toNat ≤ 57
    · rw [if_pos h1] at h ⊢
      by_cases h2 : 1844674407370955162 ≤ acc
      · rw [if_pos h2] at h; cases h
      · rw [if_neg h2] at h ⊢
        by_cases h3 : M < acc * 10 + (c.toNat - 48)
        · rw [if_pos h3] at h; cases h
        · rw [if_neg h3] at h ⊢
          rw [hR]
          exact pm_app M r l _ v h
    · rw [if_neg h1] at h; cases h
theorem dig_nat (d : Nat) (h : d < 10) : (UInt8.ofNat (48 + d)).toNat = 48 + d := by rw [UInt8.toNat_ofNat']; omega
theorem pm_dd (M : Nat) (hM : M ≤ 18446744073709551615) (u : Nat) : u ≤ M → Lib.parseUintM M 0 (Lib.decDigits u) = .ok u := by
  induction u using Nat.strongRecOn with
  | _ u ih =>
    intro hu
    by_cases h : u < 10
    · rw [Lib.decDigits_one h]
      simp only [Lib.parseUintM]
      rw [dig_nat u h, if_pos (by omega), if_neg (by omega), if_neg (by omega)]
      congr 1
      omega
    · rw [dd_step u h, pm_app M _ _ _ _ (ih (u / 10) (by omega) (by omega))]
      simp only [Lib.parseUintM]
      rw [dig_nat (u % 10) (by omega), if_pos (by omega), if_neg (by omega), if_neg (by omega)]
      congr 1
      omega
theorem pu_dd (u : Nat) (h : u < 18446744073709551616) : Lib.parseUintB 64 (Lib.decDigits u) = .ok u := by
  unfold Lib.parseUintB
  rw [if_neg (dd_ne u)]
  exact pm_dd _ (by decide) u (by omega)
theorem pi_itoa (n : Int) (h0 : -9223372036854775808 ≤ n) (h1 : n ≤ 9223372036854775807) : Lib.parseIntB 64 (Lib.itoa n) = .ok n := by
  unfold Lib.itoa
  by_cases h : n < 0
  · rw [if_pos h]
    unfold Lib.parseIntB
    simp only []
    rw [if_pos (by right; rfl), pu_dd n.natAbs (by omega)]
    simp only []
    rw [if_neg (by intro hh; exact hh.1 rfl), if_neg (by omega), if_pos (show UInt8.toNat 45 = 45 from rfl)]
    congr 1
    omega
  · rw [if_neg h]
    have hd := dd_dig n.toNat
    have hp := pu_dd n.toNat (by omega)
    rcases hl : Lib.decDigits n.toNat with _ | ⟨c, r⟩
    · exact absurd hl (dd_ne _)
    · rw [hl] at hd hp
      have hc := hd c (List.mem_cons_self ..)
      unfold Lib.parseIntB
      simp only []
      rw [if_neg (by omega), hp]
      simp only []
      rw [if_neg (by intro hh; have := hh.2; omega), if_neg (by intro hh; have := hh.1; omega), if_neg (by omega)]
      congr 1
      omega
theorem hexv_hexU (d : Nat) (h : d < 16) : hexv (hexU d).toNat = some d := by
  have : ∀ d : Fin 16, hexv (hexU d.val).toNat = some d.val := by decide +kernel
  exact this ⟨d, h⟩
theorem hexr_hexU (c : UInt8) : hexr 0 [hexU (c.toNat / 16), hexU (c.toNat % 16)] = some c.toNat := by
  have := c.toNat_lt
  rw [hexr_some _ (c.toNat / 16) _ _ (hexv_hexU _ (by omega)), hexr_some _ (c.toNat % 16) _ _ (hexv_hexU _ (by omega))]
  simp only [hexr]
  congr 1
  omega
theorem dec_flat : ∀ l : List UInt8, dec (l.flatMap quo1) = some l
  | [] => by rw [List.flatMap_nil]; exact dec_nil
  | c :: l => by
    have ih := dec_flat l
    rw [List.flatMap_cons]
    cases h : esc c with
    | true =>
      rw [quo1_esc c h]
      show dec (92 :: hexU (c.toNat / 16) :: hexU (c.toNat % 16) :: l.flatMap quo1) = _
      rw [dec_esc 92 _ _ c.toNat _ rfl (hexr_hexU c), ih]
      simp
    | false =>
      rw [quo1_plain c h]
      show dec (c :: l.flatMap quo1) = _
      rw [dec_plain c _ (by simp only [esc, Bool.or_eq_false_iff, decide_eq_false_iff_not] at h; exact h.2), ih]
      rfl
theorem textL_quo (l : List UInt8) : textL (quoL l) = (l, true) := by
  have e1 : Lib.hasPrefix (quoL l) [34] = true := by simp [Lib.hasPrefix, quoL]
  have e2 : Lib.trimPrefix (quoL l) [34] = l.flatMap quo1 ++ [34] := by unfold Lib.trimPrefix; rw [if_pos e1]; rfl
  have e3 : Lib.hasSuffix (l.flatMap quo1 ++ [34]) [34] = true := by
    unfold Lib.hasSuffix
    rw [List.isSuffixOf_iff_suffix]
    exact List.suffix_append _ _
  have e4 : Lib.trimSuffix (l.flatMap quo1 ++ [34]) [34] = l.flatMap quo1 := by
    unfold Lib.trimSuffix
    rw [if_pos e3]
    simp
  unfold textL
  rw [e2, e4, e1, e3, dec_flat]
  rfl
/-- The text of a value that fits: not empty, and it is read as the value. -/
theorem text_fit (k : Int) (k1 : 1 ≤ k) (k3 : k ≤ 3) (a : XV) (h : fitT k a = true) (g : GV a) : ∃ s : ByteArray, value_Text.f k a.f0 a.f1 = some s ∧ s.size ≠ 0 ∧ s.size ≤ 1000 ∧ value_Read.p k s = some (a.f0, a.f1) := by
  by_cases e3 : k = 3
  · subst e3
    have a0 : a.f0 = 0 := fit_zero h rfl
    have a1 : a.f1.size ≤ 60 := by
      unfold fitT at h
      rw [if_neg (by decide), if_pos rfl, if_pos a0, decide_eq_true_iff] at h
      omega
    have hl : a.f1.data.toList.length ≤ 60 := by simpa using a1
    have hq := quo_len a.f1.data.toList
    have hn : (quoL a.f1.data.toList).length = (a.f1.data.toList.flatMap quo1).length + 2 := by simp [quoL]
    refine ⟨⟨(quoL a.f1.data.toList).toArray⟩, ?_, ?_, ?_, ?_⟩
    · unfold value_Text.f
      rw [if_neg (by decide), if_neg (by decide), if_pos rfl, if_pos ⟨a0, a1⟩]
    · show (quoL a.f1.data.toList).toArray.size ≠ 0
      simp only [List.size_toArray]
      omega
    · show (quoL a.f1.data.toList).toArray.size ≤ 1000
      simp only [List.size_toArray]
      omega
    · unfold value_Read.p
      rw [if_neg (by decide), if_neg (by decide)]
      show (if (textL (quoL a.f1.data.toList)).2 = true then some (0, (⟨(textL (quoL a.f1.data.toList)).1.toArray⟩ : ByteArray)) else none) = _
      rw [textL_quo, if_pos rfl, a0]
  · have a1 : a.f1 = ⟨#[]⟩ := fit_empty h e3
    rw [a1]
    by_cases e1 : k = 1
    · subst e1
      refine ⟨⟨(Lib.itoa a.f0).toArray⟩, text_int a.f0 g.1 g.2, ?_, ?_, ?_⟩
      · show (Lib.itoa a.f0).toArray.size ≠ 0
        simp only [List.size_toArray]
        unfold Lib.itoa
        split
        · simp
        · have := dd_pos a.f0.toNat; omega
      · show (Lib.itoa a.f0).toArray.size ≤ 1000
        simp only [List.size_toArray]
        have := g.1
        have := g.2
        unfold Lib.itoa
        split
        · have := dd_len20 a.f0.natAbs (by omega)
          rw [List.length_cons]; omega
        · have := dd_len20 a.f0.toNat (by omega)
          omega
      · unfold value_Read.p
        rw [if_pos rfl]
        show (match Lib.parseIntB 64 (Lib.itoa a.f0) with | .ok v => some (v, (⟨#[]⟩ : ByteArray)) | _ => none) = _
        rw [pi_itoa a.f0 g.1 g.2]
    · obtain rfl : k = 2 := by omega
      have hu : (a.f0 % 18446744073709551616).toNat < 18446744073709551616 := by omega
      refine ⟨⟨(Lib.decDigits (a.f0 % 18446744073709551616).toNat).toArray⟩, text_uint a.f0, ?_, ?_, ?_⟩
      · show (Lib.decDigits (a.f0 % 18446744073709551616).toNat).toArray.size ≠ 0
        simp only [List.size_toArray]
        have := dd_pos (a.f0 % 18446744073709551616).toNat
        omega
      · show (Lib.decDigits (a.f0 % 18446744073709551616).toNat).toArray.size ≤ 1000
        simp only [List.size_toArray]
        have := dd_len20 _ hu
        omega
      · unfold value_Read.p
        rw [if_neg (by decide), if_pos rfl]
        show (match Lib.parseUintB 64 (Lib.decDigits (a.f0 % 18446744073709551616).toNat) with | .ok u => some (wrap64 (u : Int), (⟨#[]⟩ : ByteArray)) | _ => none) = _
        rw [pu_dd _ hu]
        have g0 := g.1
        have g1 := g.2
        have e : wrap64 (((a.f0 % 18446744073709551616).toNat : Nat) : Int) = a.f0 := by
          rw [Int.toNat_of_nonneg (by omega)]
          unfold wrap64
          omega
        simp only [e]
theorem read_fit {k : Int} {s : ByteArray} {a : XV} (ht : value_Text.f k a.f0 a.f1 = some s) (h0 : s.size ≠ 0) (h1 : s.size ≤ 1000) (hp : value_Read.p k s = some (a.f0, a.f1)) : value_Read.f k s = some (a.f0, a.f1, true) := by
  unfold value_Read.f
  rw [if_pos h1, hp]
  simp only
  rw [if_pos ⟨h0, ht⟩]
/-- The text of a value that does not fit. -/
theorem text_not (k : Int) (k1 : 1 ≤ k) (k3 : k ≤ 3) (a : XV) (h : fitT k a = false) : value_Text.f k a.f0 a.f1 = some ⟨#[]⟩ := by
  unfold fitT at h
  unfold value_Text.f
  by_cases e3 : k = 3
  · subst e3
    rw [if_neg (by decide), if_pos rfl] at h
    rw [if_neg (by decide), if_neg (by decide), if_pos rfl]
    by_cases e : a.f0 = 0
    · rw [if_pos e, decide_eq_false_iff_not] at h
      rw [if_neg (by omega)]
    · rw [if_neg (fun hh => e hh.1)]
  · have h12 : k = 1 ∨ k = 2 := by omega
    rw [if_pos h12] at h
    have hs : a.f1.size ≠ 0 := by
      intro e
      have : a.f1.toList = [] := by
        rw [ByteArray.toList_eq]
        exact List.length_eq_zero_iff.1 (by simpa using e)
      rw [this] at h
      cases h
    rcases h12 with rfl | rfl
    · rw [if_pos rfl, if_neg hs]
    · rw [if_neg (by decide), if_pos rfl, if_neg hs]
end Go.Proofs.YtifpjhghbafcjaaDoor.P

/- A value that fits is written, and read again, as itself alone; one that does not fit is not written: the plain law. -/
namespace Go.Proofs.YtifpjhghbafcjaaDoor.Pure
open Go.RowKit Go.Proofs.YtifpjhghbafcjaaDoor.P Go.Proofs.YtifpjhghbafcjaaDoorW.PrintWords Go.Proofs.YtifpjhghbafcjaaDoorW.PrintLast
set_option linter.unusedVariables false
def some3 (v : XV) : XV := ⟨v.f0, if (v.f1.size : Int) > 100 then v.f1.extract 0 100 else v.f1⟩
theorem some_f (v : XV) : thresherlaw03_some.f v.f0 v.f1 = some ((some3 v).f0, (some3 v).f1) := by
  unfold thresherlaw03_some.f some3
  by_cases h : (v.f1.size : Int) > 100
  · rw [if_pos h, if_pos (by omega), if_pos (by omega), if_pos h]
  · rw [if_neg h, if_neg h]
theorem xv_same (a b : XV) : (a.f0 == b.f0 && (a.f1.toList == b.f1.toList)) = true ↔ a = b := by
  rw [Bool.and_eq_true, beq_iff_eq, beq_iff_eq]
  constructor
  · rintro ⟨h1, h2⟩
    obtain ⟨a0, a1⟩ := a
    obtain ⟨b0, b1⟩ := b
    simp only at h1 h2
    rw [h1, bytes_eq h2]
  · rintro rfl
    exact ⟨rfl, rfl⟩
theorem fit1_self (k : Int) (k1 : 1 ≤ k) (k3 : k ≤ 3) (c : XV) : fitT k c = true ↔ c = fit1 k c := by
  constructor
  · intro h
    unfold fit1
    by_cases e3 : k = 3
    · rw [if_pos e3]
      subst e3
      have a0 := fit_zero h rfl
      unfold fitT at h
      rw [if_neg (by decide), if_pos rfl, if_pos a0, decide_eq_true_iff] at h
      rw [if_neg (by omega)]
      obtain ⟨c0, c1⟩ := c
      simp only at a0
      rw [a0]
    · rw [if_neg e3]
      have a1 := fit_empty h e3
      obtain ⟨c0, c1⟩ := c
      simp only at a1
      rw [a1]
  · intro h
    rw [h]
    exact fitT_fit1 k c k1 k3
theorem j0_ev (k : Int) (k1 : 1 ≤ k) (k3 : k ≤ 3) (v u a : XV) (h : fitT k a = true) : Ev (fun n => thresherlaw03_ValueBack.j0 n true k false v.f0 v.f1 u.f0 u.f1 a.f0 a.f1) true := by
  refine Ev.succ ?_
  simp only [thresherlaw03_ValueBack.j0]
  have j1 : Ev (fun n => thresherlaw03_ValueBack.j1 n true) true := by
    refine Ev.succ ?_
    simp only [thresherlaw03_ValueBack.j1]
    exact Ev.now _
  refine Ev.neg (by simp) (Ev.bindc (some_f v) (Ev.pos trivial ?_))
  obtain ⟨c, hc⟩ : ∃ c, c = some3 v := ⟨_, rfl⟩
  rw [← hc]
  clear hc
  refine Ev.bind (vfits_ev k a.f0 a.f1) (Ev.pos h (Ev.bind (vfits_ev k c.f0 c.f1) (Ev.bindc (fit_f k c) (Ev.pos ?_ (Ev.bind (vfits_ev k c.f0 c.f1) ?_)))))
  · rw [beq_iff_eq, Bool.eq_iff_iff, xv_same]
    exact fit1_self k k1 k3 c
  · by_cases hf : fitT k c = true
    · exact Ev.pos hf j1
    · refine Ev.neg hf (Ev.bindc (text_not k k1 k3 c (by simpa using hf)) ?_)
      have e : ((⟨#[]⟩ : ByteArray).toList == ([] : List UInt8)) = true := by rw [ByteArray.toList_eq]; rfl
      rw [e]
      exact j1
theorem ValueBack : thresherlaw03_ValueBack.PureG := by
  intro t l ht ⟨⟨g1, _⟩, ⟨g2, _⟩⟩
  obtain ⟨t0, t1⟩ := wf_u8 ht
  have n1 : GV l.f0 := wf_i64 g1
  have n2 : GV l.f1 := wf_i64 g2
  obtain ⟨k1, k3⟩ := kd3_rng t
  obtain ⟨k, hk⟩ : ∃ k, k = kd3 t := ⟨_, rfl⟩
  rw [← hk] at k1 k3
  apply Ev.rounds
  simp only [thresherlaw03_ValueBack.f]
  have kf := kind_f t (by omega) (by omega)
  rw [← hk] at kf
  clear hk
  have fa := fitT_fit1 k l.f0 k1 k3
  have fb := fitT_fit1 k l.f1 k1 k3
  have ga := fit1_GV k l.f0 n1
  have gb := fit1_GV k l.f1 n2
  refine Ev.bind shown_ev (Ev.bindc kf (Ev.bindc (fit_f k l.f0) (Ev.bindc (fit_f k l.f1) ?_)))
  obtain ⟨a, ha⟩ : ∃ a, a = fit1 k l.f0 := ⟨_, rfl⟩
  obtain ⟨b, hb⟩ : ∃ b, b = fit1 k l.f1 := ⟨_, rfl⟩
  rw [← ha] at fa ga ⊢
  rw [← hb] at fb gb ⊢
  clear ha hb
  obtain ⟨s, s1, s2, s3, s4⟩ := text_fit k k1 k3 a fa ga
  obtain ⟨q, q1, q2, q3, q4⟩ := text_fit k k1 k3 b fb gb
  refine Ev.bindc s1 (Ev.bindc (read_fit s1 s2 s3 s4) (Ev.pos rfl (Ev.neg ?_ (Ev.neg ?_ (Ev.bindc q1 ?_)))))
  · simp
  · intro e
    have := congrArg List.length e
    rw [ByteArray.toList_eq] at this
    exact s2 (by simpa using this)
  · have hsame : ((q.toList == s.toList) != (a.f0 == b.f0 && (a.f1.toList == b.f1.toList))) = false := by
      have e : (q.toList == s.toList) = (a.f0 == b.f0 && (a.f1.toList == b.f1.toList)) := by
        rw [Bool.eq_iff_iff, xv_same, beq_iff_eq]
        constructor
        · intro e
          have e2 : q = s := bytes_eq e
          rw [e2, s4] at q4
          have h1 := congrArg Prod.fst (Option.some.inj q4)
          have h2 := congrArg Prod.snd (Option.some.inj q4)
          obtain ⟨a0, a1⟩ := a
          obtain ⟨b0, b1⟩ := b
          simp only at h1 h2
          rw [h1, h2]
        · rintro rfl
          rw [s1] at q1
          rw [Option.some.inj q1]
      rw [e]
      simp
    rw [hsame]
    exact j0_ev k k1 k3 l.f0 l.f1 a fa
end Go.Proofs.YtifpjhghbafcjaaDoor.Pure

-- Written by wip/tools/myprint.py: the row of ValueBack, out of its plain law and its walk.
namespace Go.Proofs.YtifpjhghbafcjaaDoor.valueBack
open Go.ChangeShapes Go.WideShapes Go.ChangeAt Go.RowKit Go.Proofs.YtifpjhghbafcjaaDoor.P Go.Proofs.YtifpjhghbafcjaaDoorW.PrintWords
set_option linter.unusedVariables false
set_option linter.unusedSimpArgs false
theorem own : ownKnob Tryd.prog.godebug = none := by kernel_rfl
theorem laidOut : laidOutB Tryd.prog = true := by kernel_rfl
set_option maxRecDepth 100000 in
theorem lifted (os : Os) (started : os.Started) (H : Type) (enc : TypeId × Value → H) :
    ReturnsInHanded {} Tryd.checked os 7 .any (fun w args => (Rows.valueBackSpec.pre enc Tryd.prog Tryd.f7 Rows.valueBackRow.domain false w args ∧ laidMetH Tryd.prog laid5 w) ∧ sizedMet enc Tryd.prog Tryd.f7 (OpenSpec.ofChange Rows.valueBackSpec) false w args) (Rows.valueBackSpec.post enc Tryd.prog Tryd.f7 false true false false) := by
  refine returnsInHanded_of_change_and (C := Tryd.checked) (X := fun w _ => laidMetH Tryd.prog laid5 w) (fun _ _ _ hh h => h.of_heap hh) own started (by kernel_rfl) Tryd.func7
    (ChangeSpec.witness_shaped (enc := enc) (C := Tryd.checked) (os := os) (X := fun w _ => laidMetH Tryd.prog laid5 w) false (World.doorLaid Tryd.prog 62 os) #[.int .u8 0, .agg #[.int .i64 0, .string ByteArray.empty, .int .i64 0, .string ByteArray.empty]] 8 rfl (World.shaped_of_RefB (by kernel_rfl) (by kernel_rfl)) (by kernel_rfl) (by kernel_rfl) (by kernel_rfl) (door5_met os _)) ?_
  intro W base args ds gs before hval0 hW hcnd hsz0 hL _
  have htab := tabsE_of_laid hL
  have hval : ∀ (j : Nat) t v, Tryd.f7.params[j]? = some t → args[j]? = some v → Value.okWide Tryd.prog W .any base t v := hval0
  have hW' := hW
  obtain ⟨p, q, hA0, hV, rfl, hfz, hnd⟩ := hW
  have hA : DataW.TrodAll enc Tryd.prog W 0 (fun _ => true) true Tryd.f7.params.toList args.toList ds p := hA0
  rw [Tryd.params7] at hA hval
  obtain ⟨v0, vs0, d0, ds0, p0, q0, hargs, rfl, rfl, h0, r0⟩ := trodAll_cons hA
  obtain ⟨v1, vs1, d1, ds1, p1, q1, rfl, rfl, rfl, h1, r1⟩ := trodAll_cons r0
  obtain ⟨rfl, rfl, rfl⟩ := trodAll_nil r1
  obtain rfl : args = #[v0, v1] := by cases args; simp_all
  obtain ⟨rfl, rfl⟩ := trodVars_none hV
  have lt0 : ∀ x ∈ p0, x.block < W.heap.size := by obtain ⟨m, hm⟩ := h0; exact DataW.trod_lt m _ _ _ hm
  obtain ⟨x0, K0, g0⟩ := ((opens_int Tryd.underlying5)).arg h0
  obtain ⟨b0, rfl⟩ := okWide_int Tryd.underlying5 (hval 0 5 v0 rfl rfl)
  have e0 : b0 = x0 := by simpa [Value.cells, Kd.int, Kd.scalar] using K0
  subst e0
  have lt1 : ∀ x ∈ p1, x.block < W.heap.size := by obtain ⟨m, hm⟩ := h1; exact DataW.trod_lt m _ _ _ hm
  obtain ⟨x1, K1, g1⟩ := (op35).arg h1
  obtain ⟨cs1, rfl⟩ := okWide_aggA Tryd.underlying35 (hval 1 35 v1 rfl rfl)
  have e1 := k35_open K1
  replace e1 := agg_of e1
  obtain ⟨k, hk⟩ := Pure.ValueBack b0 x1 g0 g1
  have call : Calls Tryd.prog 7 #[.int .u8 b0, .agg cs1] W fun e W' => e = .returned (.bool true) ∧ Below W.heap.size W W' := by
    rw [e1]
    refine (thresherlaw03_ValueBack.calls k _ _ _ _ _ true W hk htab).mono ?_
    rintro e w' ⟨rfl, hd⟩
    exact ⟨rfl, hd⟩
  refine call.mono fun e W' ⟨he, bel⟩ => ?_
  subst he
  exact ⟨_, rfl, _, _, _, [], _, [], hW', trodAll_mk1 (shut_bool Tryd.underlying4 _), (trodAll_cons_mk (Below.trod laidOut (by kernel_rfl) (of_decide_eq_true (by kernel_rfl)) h0 bel lt0) (trodAll_cons_mk (Below.trod laidOut (by kernel_rfl) (of_decide_eq_true (by kernel_rfl)) h1 bel lt1) trodAll_mk0)), rfl, bel.frame _, fun h => by cases h⟩
theorem over : Rows.valueBackRow.holds Tryd.pinned (OpenSpec.ofChange Rows.valueBackSpec) :=
  OpenClaim.holds_of_wide 7 Tryd.f7 rfl rfl rfl rfl rfl rfl rfl ⟨rfl, rfl, rfl, rfl, rfl⟩ rfl rfl rfl rfl rfl (by kernel_rfl) Tryd.func7 (by kernel_rfl)
    (of_decide_eq_true (by kernel_rfl)) (by unfold Func.isWrapper; first | (rw [if_pos (by decide +kernel)]; kernel_rfl) | (rw [if_neg (by decide +kernel)]; exact ⟨rfl, rfl⟩))
    (fun os started H enc _ => lifted os started H enc)
theorem carded : Rows.ValueBackCardSaid :=
  Claim7.holds_tied_plain_at .later [] [.data, .data, .data, .sentinel, .sentinel] true (true, "bb69a14ecfbc10d91511e1de1cac401641993d3163807c3ed32958c36fab5aed") true
    over (fun _ h => by cases h) (by kernel_rfl) (fun _ h => by cases h) valueBack_row_tie rfl ⟨rfl, rfl⟩ (by kernel_rfl) rfl
    (fun f fn hf hfn => by
      obtain rfl : f = 7 := Option.some.inj ((show Tryd.prog.funcNamed Tryd.f7.name = some 7 by kernel_rfl).symm.trans hf) |>.symm
      obtain rfl : fn = Tryd.f7 := (Option.some.inj (Tryd.func7.symm.trans hfn)).symm
      exact ⟨by kernel_rfl, fun j t ht => by
        rw [Tryd.params7] at ht
        have hm : t ∈ [5, 35] := by simpa using Array.mem_of_getElem? ht
        have hall : ([5, 35].all fun u => !Tryd.prog.wantsStandIn u) = true := by kernel_rfl
        exact (show Tryd.prog.wantsStandIn t = false by simpa using List.all_eq_true.1 hall t hm)⟩)
    (by kernel_rfl)
#print axioms carded
end Go.Proofs.YtifpjhghbafcjaaDoor.valueBack
namespace Go.Proofs.YtifpjhghbafcjaaDoor
/-- The tied card, under a short name, for the claim. -/
theorem valueBack_holds : Rows.ValueBackCardSaid := valueBack.carded
end Go.Proofs.YtifpjhghbafcjaaDoor

