/- The row of AggParts. Merged: SAggParts, XBase, XFit, XMade, XOrd, XFitOk, XFits, XRVal, XShape, XVal, XRCmp, XRowOk, XAgg, XSort, XAggB, XAggFit, XAggJoin, XSixty, PureAggParts, RAggParts. -/
import Derived.Test.YtapaldcdoahfeaaQAggPartsPx14
import Derived.Test.YtapaldcdoahfeaaQAggPartsO
import Derived.Test.YtapaldcdoahfeaaQAggPartsPx0
import Derived.Test.YtapaldcdoahfeaaQAggPartsHBase
import Derived.Test.YtapaldcdoahfeaaQAggPartsPx5
import Derived.Lib.Bytealg
import Derived.Test.YtapaldcdoahfeaaQAggPartsPx6
import Derived.Test.YtapaldcdoahfeaaQAggPartsPx7
import Derived.Test.YtapaldcdoahfeaaQAggPartsPx4
import Derived.Test.YtapaldcdoahfeaaQAggPartsPx3
import Derived.Test.YtapaldcdoahfeaaQAggPartsPx8
import Derived.Test.YtapaldcdoahfeaaQAggPartsHAggC
import Derived.Test.YtapaldcdoahfeaaQAggPartsPx9
import Derived.Test.YtapaldcdoahfeaaQAggPartsPx10
import Derived.Test.YtapaldcdoahfeaaQAggPartsPx12
import Derived.Test.YtapaldcdoahfeaaQAggPartsHAggE
import Derived.Test.YtapaldcdoahfeaaRows
import Derived.WalkKit
import Derived.ProofKit
import Derived.OpenShut
import Derived.ShutString
import Derived.ChangeOld
import Derived.Below
import Derived.SizedLaws
-- Written by wip/tools/myprint.py: the plain statement of AggParts.
namespace Go.Proofs.Ytapaldcdoahfeaa.P
open Go.RowKit Go.Proofs.YtapaldcdoahfeaaW.PrintWords
def thresherlaw20_AggParts.PureG : Prop := ∀ (x0 : S24) (x1 : List (S33)) (x2 : S49), gd24 x0 → (x1.length ≤ maxLen ∧ ∀ a ∈ x1, gd33 a) → gd49 x2 → ∃ k, thresherlaw20_AggParts.f k x0.f0.f0 x0.f0.f1 x0.f0.f2 x0.f0.f3 x0.f0.f4 x0.f0.f5 x0.f0.f6 x0.f0.f7 x0.f1 x0.f2 x0.f3 x0.f4 x1 x2.f0 x2.f1 = some true
end Go.Proofs.Ytapaldcdoahfeaa.P

/- Words of the laws about rows. -/
namespace Go.Proofs.Ytapaldcdoahfeaa.P
open Go.RowKit Go.Proofs.YtapaldcdoahfeaaW.PrintWords Go.Proofs.YtapaldcdoahfeaaW.PrintLast Go.Proofs.YtapaldcdoahfeaaW.PrintMore
set_option linter.unusedVariables false
set_option linter.unusedSimpArgs false

abbrev XV := S40
abbrev rdV (l : List XV) (i : Int) : XV := rd_T40 l i
abbrev rdR (l : List (List XV)) (i : Int) : List XV := rd_L7 l i
theorem rd_lt (l : List Int) (i : Nat) (h : i < l.length) : rd l i = l[i] := by unfold rd; simp [List.getD, h]
theorem rdV_lt (l : List XV) (i : Nat) (h : i < l.length) : rd_T40 l i = l[i] := by unfold rd_T40; simp [List.getD, h]
theorem rdV_ge (l : List XV) (i : Nat) (h : l.length ≤ i) : rd_T40 l i = ⟨0, ⟨#[]⟩⟩ := by unfold rd_T40; simp [List.getD, h]; rfl
theorem rdR_lt (l : List (List XV)) (i : Nat) (h : i < l.length) : rd_L7 l i = l[i] := by unfold rd_L7; simp [List.getD, h]

/-- A schema that may be. -/
structure Sch (T : List Int) (K M G : Int) : Prop where
  n1 : 1 ≤ T.length
  n8 : T.length ≤ 8
  ty : ∀ t ∈ T, 1 ≤ t ∧ t ≤ 3
  k1 : 1 ≤ K
  kn : K ≤ T.length
  m1 : 1 ≤ M
  m3 : M ≤ 3
  g1 : 1 ≤ G
  g8 : G ≤ 8
theorem Sch.rdt {T : List Int} {K M G : Int} (h : Sch T K M G) (i : Nat) (hi : i < T.length) : 1 ≤ rd T i ∧ rd T i ≤ 3 := by
  rw [rd_lt T i hi]; exact h.ty _ (List.getElem_mem hi)

/-- Does a value fit a type? -/
def fitT (t : Int) (v : XV) : Bool := if t = 1 ∨ t = 2 then v.f1.toList == ([] : List UInt8) else if t = 3 then (if v.f0 = 0 then decide ((v.f1.size : Int) ≤ 60) else false) else false
def rowOkB (T : List Int) (r : List XV) : Bool := decide (T.length = r.length) && (List.range T.length).all fun (i : Nat) => fitT (rd T i) (rdV r i)
/-- The value made to fit a type. -/
def fit1 (t : Int) (v : XV) : XV := if t = 3 then ⟨0, if (v.f1.size : Int) > 60 then v.f1.extract 0 60 else v.f1⟩ else ⟨v.f0, ⟨#[]⟩⟩
def fitRow (T : List Int) (r : List XV) : List XV := (List.range' 0 T.length).map fun (i : Nat) => fit1 (rd T i) (rdV r i)
theorem fitRow_length (T : List Int) (r : List XV) : (fitRow T r).length = T.length := by simp [fitRow]
theorem rdV_fitRow (T : List Int) (r : List XV) (i : Nat) (hi : i < T.length) : rdV (fitRow T r) i = fit1 (rd T i) (rdV r i) := by
  show rd_T40 _ _ = _
  rw [rdV_lt _ i (by rw [fitRow_length]; exact hi)]
  simp [fitRow]
theorem fitT_fit1 (t : Int) (v : XV) (h1 : 1 ≤ t) (h3 : t ≤ 3) : fitT t (fit1 t v) = true := by
  unfold fitT fit1
  by_cases e : t = 3
  · subst e
    simp only [if_true, if_pos rfl]
    rw [if_neg (by omega)]
    rw [decide_eq_true_iff]
    split
    · simp only [ByteArray.size_extract]; omega
    · omega
  · rw [if_pos (by omega), if_neg e]
    simp [ByteArray.toList_eq]
theorem bytes_eq {a b : ByteArray} (h : a.toList = b.toList) : a = b := by
  rw [ByteArray.toList_eq, ByteArray.toList_eq] at h
  exact ByteArray.ext (Array.toList_inj.mp h)
theorem XV.same {a b : XV} : (!(a.f0 == b.f0) || (!(a.f1.toList == b.f1.toList))) = true ↔ a ≠ b := by
  constructor
  · rintro h rfl
    simp at h
  · intro h
    by_cases h0 : a.f0 = b.f0
    · by_cases h1 : a.f1.toList = b.f1.toList
      · exact absurd (by cases a; cases b; simp only at h0 h1; rw [h0, bytes_eq h1]) h
      · simp [h1]
    · simp [h0]
instance : DecidableEq XV := fun a b => if h : (!(a.f0 == b.f0) || (!(a.f1.toList == b.f1.toList))) = true then isFalse (XV.same.mp h) else isTrue (Classical.byContradiction fun e => h (XV.same.mpr e))
end Go.Proofs.Ytapaldcdoahfeaa.P

/- A row made to fit. -/
namespace Go.Proofs.Ytapaldcdoahfeaa.P
open Go.RowKit Go.Proofs.YtapaldcdoahfeaaW.PrintWords Go.Proofs.YtapaldcdoahfeaaW.PrintLast Go.Proofs.YtapaldcdoahfeaaW.PrintMore
set_option linter.unusedVariables false
set_option linter.unusedSimpArgs false

theorem fit_turn (T : List Int) (K M G : Int) (r : List XV) (i : Nat) (acc : List XV) (v0 : Int) (v1 : ByteArray) (hi : i < T.length) (hT : T.length ≤ 1000000) (ha : acc.length = i) {R : List XV} (h : Ev (fun k => thresherref04_Fit.l0 k r (acc ++ [fit1 (rd T i) ⟨v0, v1⟩]) ((i + 1 : Nat) : Int) T K M G) R) : Ev (fun k => thresherref04_Fit.j1 k r acc i T K M G v0 v1) R := by
  refine Ev.succ ?_
  simp only [thresherref04_Fit.j1]
  simp (disch := omega) only [w64]
  refine Ev.pos (by omega) (Ev.pos (by omega) ?_)
  unfold fit1 at h
  by_cases e : rd T i = 3
  · rw [if_pos e] at h
    refine Ev.pos e ?_
    by_cases s : (v1.size : Int) > 60
    · simp only [if_pos s] at h
      exact Ev.pos s (Ev.pos (by omega) (Ev.pos (by omega) (Ev.pos (by omega) h)))
    · simp only [if_neg s] at h
      exact Ev.neg s (Ev.pos (by omega) h)
  · rw [if_neg e] at h
    exact Ev.neg e (Ev.pos (by omega) h)
theorem fit_loop (T : List Int) (K M G : Int) (r : List XV) (hT : T.length ≤ 1000000) : ∀ (d i : Nat) (acc : List XV), i + d = T.length → acc.length = i → Ev (fun k => thresherref04_Fit.l0 k r acc i T K M G) (acc ++ (List.range' i d).map fun (j : Nat) => fit1 (rd T j) (rdV r j))
  | 0, i, acc, hi, ha => by
    refine Ev.succ ?_
    simp only [thresherref04_Fit.l0]
    exact Ev.neg (by omega) ((Ev.now _).eq (by simp))
  | d + 1, i, acc, hi, ha => by
    refine Ev.succ ?_
    simp only [thresherref04_Fit.l0]
    refine Ev.pos (by omega) ?_
    have hl : (acc ++ [fit1 (rd T i) (rdV r i)]).length = i + 1 := by simp; omega
    have h := (fit_loop T K M G r hT d (i + 1) (acc ++ [fit1 (rd T i) (rdV r i)]) (by omega) hl).eq (r' := acc ++ (List.range' i (d + 1)).map fun (j : Nat) => fit1 (rd T j) (rdV r j)) (by rw [List.append_assoc, List.range'_succ]; rfl)
    by_cases e : i < r.length
    · exact Ev.pos (by omega) (Ev.pos (by omega) (fit_turn T K M G r i acc _ _ (by omega) hT ha h))
    · refine Ev.neg (by omega) (fit_turn T K M G r i acc _ _ (by omega) hT ha ?_)
      have e2 : rdV r i = ⟨0, ⟨#[]⟩⟩ := rdV_ge r i (by omega)
      rw [e2] at h
      exact h
theorem fit_ev (T : List Int) (K M G : Int) (r : List XV) (hT : T.length ≤ 1000000) : Ev (fun k => thresherref04_Fit.f k T K M G r) (fitRow T r) := by
  simp only [thresherref04_Fit.f]
  exact fit_loop T K M G r hT T.length 0 [] (by omega) rfl
end Go.Proofs.Ytapaldcdoahfeaa.P

/- A schema made of any numbers. -/
namespace Go.Proofs.Ytapaldcdoahfeaa.P
open Go.RowKit Go.Proofs.YtapaldcdoahfeaaW.PrintWords Go.Proofs.YtapaldcdoahfeaaW.PrintLast Go.Proofs.YtapaldcdoahfeaaW.PrintMore
set_option linter.unusedVariables false
set_option linter.unusedSimpArgs false

def U8 (x : Int) : Prop := 0 ≤ x ∧ x ≤ 255
theorem made_one {x : Int} {m : Int} (h : U8 x) (hm : 0 < m) (hm2 : m ≤ 1000) : wrap64 (1 + Int.tmod (wrap64 x) m) = 1 + x % m ∧ 1 ≤ 1 + x % m ∧ 1 + x % m ≤ m := by
  obtain ⟨h0, h1⟩ := h
  have e1 : wrap64 x = x := w64 (by omega) (by omega)
  have h2 := Int.emod_nonneg x (show m ≠ 0 by omega)
  have h3 := Int.emod_lt_of_pos x hm
  rw [e1, Int.tmod_eq_emod_of_nonneg h0]
  exact ⟨w64 (by omega) (by omega), by omega, by omega⟩
theorem made_loop (x0 x1 x2 x3 x4 x5 x6 x7 K M G : Int) (hx : ∀ x ∈ [x0, x1, x2, x3, x4, x5, x6, x7], U8 x) (n : Nat) (hn : n ≤ 8) : ∀ (d i : Nat) (T : List Int), i + d = n → T.length = i → (∀ t ∈ T, 1 ≤ t ∧ t ≤ 3) → ∃ T', Ev (fun k => thresherref04_Made.l0 k n i x0 x1 x2 x3 x4 x5 x6 x7 T K M G) (T', K, M, G) ∧ T'.length = n ∧ ∀ t ∈ T', 1 ≤ t ∧ t ≤ 3
  | 0, i, T, hi, hT, ht => by
    refine ⟨T, Ev.succ ?_, by omega, ht⟩
    simp only [thresherref04_Made.l0]
    exact Ev.neg (by omega) (Ev.now _)
  | d + 1, i, T, hi, hT, ht => by
    have hr : U8 (rd [x0, x1, x2, x3, x4, x5, x6, x7] i) := by
      rw [rd_lt _ i (by simp; omega)]
      exact hx _ (List.getElem_mem _)
    obtain ⟨e, l1, l2⟩ := made_one (m := 3) hr (by omega) (by omega)
    obtain ⟨T', h1, h2, h3⟩ := made_loop x0 x1 x2 x3 x4 x5 x6 x7 K M G hx n hn d (i + 1) (T ++ [1 + rd [x0, x1, x2, x3, x4, x5, x6, x7] i % 3]) (by omega) (by simp; omega) (by
      intro t h
      rcases List.mem_append.mp h with h | h
      · exact ht t h
      · rw [List.mem_singleton.mp h]; exact ⟨l1, l2⟩)
    refine ⟨T', Ev.succ ?_, h2, h3⟩
    simp only [thresherref04_Made.l0]
    rw [e]
    clear e
    simp (disch := omega) only [w64]
    exact Ev.pos (by omega) (Ev.pos (by omega) (Ev.pos (by omega) (Ev.pos (by omega) h1)))
theorem made_ev (x0 x1 x2 x3 x4 x5 x6 x7 a b c d : Int) (h0 : U8 x0) (h1 : U8 x1) (h2 : U8 x2) (h3 : U8 x3) (h4 : U8 x4) (h5 : U8 x5) (h6 : U8 x6) (h7 : U8 x7) (ha : U8 a) (hb : U8 b) (hc : U8 c) (hd : U8 d) : ∃ T K M G, Ev (fun k => thresherref04_Made.f k x0 x1 x2 x3 x4 x5 x6 x7 a b c d) (T, K, M, G) ∧ Sch T K M G := by
  obtain ⟨ea, a1, a2⟩ := made_one (m := 8) ha (by omega) (by omega)
  obtain ⟨n, hn⟩ : ∃ n : Nat, 1 + a % 8 = n := ⟨(1 + a % 8).toNat, by omega⟩
  obtain ⟨eb, b1, b2⟩ := made_one (m := 1 + a % 8) hb (by omega) (by omega)
  obtain ⟨ec, c1, c2⟩ := made_one (m := 3) hc (by omega) (by omega)
  obtain ⟨ed, d1, d2⟩ := made_one (m := 8) hd (by omega) (by omega)
  simp only [thresherref04_Made.f, ea, eb, ec, ed]
  clear ea eb ec ed
  rw [hn] at b1 b2 a1 a2 ⊢
  obtain ⟨T, e, l, t⟩ := made_loop x0 x1 x2 x3 x4 x5 x6 x7 (1 + b % n) (1 + c % 3) (1 + d % 8) (by
    intro x hx
    simp only [List.mem_cons, List.not_mem_nil, or_false] at hx
    rcases hx with rfl | rfl | rfl | rfl | rfl | rfl | rfl | rfl <;> assumption) n (by omega) n 0 [] (by omega) rfl (by simp)
  exact ⟨T, _, _, _, Ev.neg (by omega) e, ⟨by omega, by omega, t, b1, by omega, c1, c2, d1, d2⟩⟩
end Go.Proofs.Ytapaldcdoahfeaa.P

/- The order of values and of rows. -/
namespace Go.Proofs.Ytapaldcdoahfeaa.P
open Go.RowKit Go.Proofs.YtapaldcdoahfeaaW.PrintWords Go.Proofs.YtapaldcdoahfeaaW.PrintLast Go.Proofs.YtapaldcdoahfeaaW.PrintMore
set_option linter.unusedVariables false
set_option linter.unusedSimpArgs false

theorem u8_tri (a b : UInt8) : (a < b ∧ ¬ b < a) ∨ (b < a ∧ ¬ a < b) ∨ (a = b ∧ ¬ a < b ∧ ¬ b < a) := by
  rcases Nat.lt_trichotomy a.toNat b.toNat with h | h | h
  · exact Or.inl ⟨UInt8.lt_iff_toNat_lt.mpr h, fun h2 => by have := UInt8.lt_iff_toNat_lt.mp h2; omega⟩
  · have e : a = b := UInt8.toNat_inj.mp h
    subst e
    exact Or.inr (Or.inr ⟨rfl, fun h2 => by have := UInt8.lt_iff_toNat_lt.mp h2; omega, fun h2 => by have := UInt8.lt_iff_toNat_lt.mp h2; omega⟩)
  · exact Or.inr (Or.inl ⟨UInt8.lt_iff_toNat_lt.mpr h, fun h2 => by have := UInt8.lt_iff_toNat_lt.mp h2; omega⟩)
theorem cb_anti : ∀ a b : List UInt8, Lib.compareBytes b a = - Lib.compareBytes a b
  | [], [] => by simp [Lib.compareBytes]
  | [], _ :: _ => by simp [Lib.compareBytes]
  | _ :: _, [] => by simp [Lib.compareBytes]
  | a :: xs, b :: ys => by
    unfold Lib.compareBytes
    rcases u8_tri a b with ⟨h1, h2⟩ | ⟨h1, h2⟩ | ⟨h0, h1, h2⟩
    · rw [if_neg h2, if_pos h1, if_pos h1]; rfl
    · rw [if_pos h1, if_neg h2, if_pos h1]
    · rw [if_neg h2, if_neg h1, if_neg h1, if_neg h2]; exact cb_anti xs ys
theorem cb_zero : ∀ a b : List UInt8, Lib.compareBytes a b = 0 ↔ a = b
  | [], [] => by simp [Lib.compareBytes]
  | [], _ :: _ => by simp [Lib.compareBytes]
  | _ :: _, [] => by simp [Lib.compareBytes]
  | a :: xs, b :: ys => by
    unfold Lib.compareBytes
    rcases u8_tri a b with ⟨h1, h2⟩ | ⟨h1, h2⟩ | ⟨h0, h1, h2⟩
    · rw [if_pos h1]
      exact ⟨fun h => by omega, fun h => absurd h1 (by rw [(List.cons.inj h).1] at h2 ⊢; rw [(List.cons.inj h).1] at h1; exact h2)⟩
    · rw [if_neg h2, if_pos h1]
      exact ⟨fun h => by omega, fun h => absurd h1 (by rw [(List.cons.inj h).1] at h1; rw [(List.cons.inj h).1] at h2; exact absurd h1 h2)⟩
    · rw [if_neg h1, if_neg h2, cb_zero xs ys, h0]
      exact ⟨fun h => by rw [h], fun h => (List.cons.inj h).2⟩
theorem cb_trans : ∀ a b c : List UInt8, Lib.compareBytes a b ≤ 0 → Lib.compareBytes b c ≤ 0 → Lib.compareBytes a c ≤ 0
  | [], _, [], _, _ => by simp [Lib.compareBytes]
  | [], _, _ :: _, _, _ => by simp [Lib.compareBytes]
  | _ :: _, [], _, h, _ => by simp [Lib.compareBytes] at h
  | _ :: _, _ :: _, [], _, h => by simp [Lib.compareBytes] at h
  | a :: xs, b :: ys, c :: zs, h1, h2 => by
    unfold Lib.compareBytes at h1 h2 ⊢
    rcases u8_tri a b with ⟨p1, p2⟩ | ⟨p1, p2⟩ | ⟨p0, p1, p2⟩
    · rcases u8_tri b c with ⟨q1, q2⟩ | ⟨q1, q2⟩ | ⟨q0, q1, q2⟩
      · rw [if_pos (UInt8.lt_trans p1 q1)]; omega
      · rw [if_neg q2, if_pos q1] at h2; omega
      · subst q0; rw [if_pos p1]; omega
    · rw [if_neg p2, if_pos p1] at h1; omega
    · subst p0
      rw [if_neg p1, if_neg p2] at h1
      rcases u8_tri a c with ⟨q1, q2⟩ | ⟨q1, q2⟩ | ⟨q0, q1, q2⟩
      · rw [if_pos q1]; omega
      · rw [if_neg q2, if_pos q1] at h2; omega
      · rw [if_neg q1, if_neg q2] at h2 ⊢
        exact cb_trans xs ys zs h1 h2

/-- A value's number is one of 64 bits. -/
def GV (v : XV) : Prop := -9223372036854775808 ≤ v.f0 ∧ v.f0 ≤ 9223372036854775807
def sgn (x y : Int) : Int := if x < y then -1 else if x > y then 1 else 0
def un (x : Int) : Int := x % 18446744073709551616
def cmpV (t : Int) (a b : XV) : Int := if fitT t a = true ∧ fitT t b = true then (if t = 3 then Lib.compareBytes a.f1.data.toList b.f1.data.toList else if t = 2 then sgn (un a.f0) (un b.f0) else sgn a.f0 b.f0) else 0
theorem cmpV_anti (t : Int) (a b : XV) : cmpV t b a = - cmpV t a b := by
  unfold cmpV
  by_cases h : fitT t a = true ∧ fitT t b = true
  · rw [if_pos h, if_pos h.symm]
    split
    · exact cb_anti _ _
    · split <;> (unfold sgn; split <;> split <;> (try split) <;> omega)
  · rw [if_neg h, if_neg (fun q => h q.symm)]
    rfl
theorem fit_empty {t : Int} {a : XV} (h : fitT t a = true) (h3 : t ≠ 3) : a.f1 = ⟨#[]⟩ := by
  unfold fitT at h
  split at h
  · have h2 : a.f1.toList = [] := by simpa using h
    exact bytes_eq (by rw [h2]; simp [ByteArray.toList_eq])
  · first | exact absurd h (by simp) | (rw [if_neg h3] at h; exact absurd h (by simp))
theorem fit_zero {t : Int} {a : XV} (h : fitT t a = true) (h3 : t = 3) : a.f0 = 0 := by
  subst h3
  unfold fitT at h
  rw [if_neg (by omega), if_pos rfl] at h
  split at h
  · assumption
  · exact absurd h (by simp)
theorem XV.ext2 {a b : XV} (h0 : a.f0 = b.f0) (h1 : a.f1 = b.f1) : a = b := by cases a; cases b; simp only at h0 h1; rw [h0, h1]
theorem cmpV_zero (t : Int) (a b : XV) (ha : fitT t a = true) (hb : fitT t b = true) (ga : GV a) (gb : GV b) : cmpV t a b = 0 ↔ a = b := by
  unfold cmpV
  rw [if_pos ⟨ha, hb⟩]
  obtain ⟨g1, g2⟩ := ga
  obtain ⟨g3, g4⟩ := gb
  by_cases e : t = 3
  · rw [if_pos e, cb_zero]
    exact ⟨fun h => XV.ext2 (by rw [fit_zero ha e, fit_zero hb e]) (ByteArray.ext (Array.toList_inj.mp h)), fun h => by rw [h]⟩
  · rw [if_neg e]
    have key : a = b ↔ a.f0 = b.f0 := ⟨fun h => by rw [h], fun h => XV.ext2 h (by rw [fit_empty ha e, fit_empty hb e])⟩
    rw [key]
    split
    · unfold sgn un; split <;> (try split) <;> omega
    · unfold sgn; split <;> (try split) <;> omega
theorem sgn_trans (x y z : Int) : sgn x y ≤ 0 → sgn y z ≤ 0 → sgn x z ≤ 0 := by
  unfold sgn
  intro h1 h2
  split
  · omega
  · split
    · exfalso
      by_cases p : x < y
      · by_cases q : y < z
        · omega
        · rw [if_neg q] at h2
          by_cases r : y > z
          · rw [if_pos r] at h2; omega
          · omega
      · rw [if_neg p] at h1
        by_cases r : x > y
        · rw [if_pos r] at h1; omega
        · by_cases q : y < z
          · omega
          · rw [if_neg q] at h2
            by_cases r : y > z
            · rw [if_pos r] at h2; omega
            · omega
    · omega
def cmpC (t : Int) (a b : XV) : Int := if t = 3 then Lib.compareBytes a.f1.data.toList b.f1.data.toList else if t = 2 then sgn (un a.f0) (un b.f0) else sgn a.f0 b.f0
theorem cmpV_fit {t : Int} {a b : XV} (ha : fitT t a = true) (hb : fitT t b = true) : cmpV t a b = cmpC t a b := by
  unfold cmpV cmpC
  rw [if_pos ⟨ha, hb⟩]
theorem cmpV_trans (t : Int) (a b c : XV) (ha : fitT t a = true) (hb : fitT t b = true) (hc : fitT t c = true) : cmpV t a b ≤ 0 → cmpV t b c ≤ 0 → cmpV t a c ≤ 0 := by
  rw [cmpV_fit ha hb, cmpV_fit hb hc, cmpV_fit ha hc]
  unfold cmpC
  by_cases e : t = 3
  · rw [if_pos e, if_pos e, if_pos e]
    exact cb_trans _ _ _
  · rw [if_neg e, if_neg e, if_neg e]
    by_cases e2 : t = 2
    · rw [if_pos e2, if_pos e2, if_pos e2]
      exact sgn_trans _ _ _
    · rw [if_neg e2, if_neg e2, if_neg e2]
      exact sgn_trans _ _ _

/-- Rows by m of their values from i on. -/
def cmpFrom (T : List Int) (a b : List XV) : Nat → Nat → Int
  | 0, _ => 0
  | m + 1, i => if cmpV (rd T i) (rdV a i) (rdV b i) = 0 then cmpFrom T a b m (i + 1) else cmpV (rd T i) (rdV a i) (rdV b i)
def cmpRow (T : List Int) (K : Int) (a b : List XV) : Int := cmpFrom T a b (min (min (min K.toNat T.length) a.length) b.length) 0
theorem cmpFrom_anti (T : List Int) (a b : List XV) : ∀ m i, cmpFrom T b a m i = - cmpFrom T a b m i
  | 0, i => by simp [cmpFrom]
  | m + 1, i => by
    unfold cmpFrom
    rw [cmpV_anti _ (rdV a i) (rdV b i), cmpFrom_anti T a b m (i + 1)]
    by_cases h : cmpV (rd T i) (rdV a i) (rdV b i) = 0
    · rw [if_pos (by omega), if_pos h]
    · rw [if_neg (by omega), if_neg h]
def FitAt (T : List Int) (a : List XV) (m i : Nat) : Prop := ∀ j : Nat, i ≤ j → j < i + m → fitT (rd T j) (rdV a j) = true ∧ GV (rdV a j)
end Go.Proofs.Ytapaldcdoahfeaa.P

/- A row made to fit fits. -/
namespace Go.Proofs.Ytapaldcdoahfeaa.P
open Go.RowKit Go.Proofs.YtapaldcdoahfeaaW.PrintWords Go.Proofs.YtapaldcdoahfeaaW.PrintLast Go.Proofs.YtapaldcdoahfeaaW.PrintMore
set_option linter.unusedVariables false
set_option linter.unusedSimpArgs false

theorem rdV_of (P : XV → Prop) (r : List XV) (h0 : P ⟨0, ⟨#[]⟩⟩) (h : ∀ v ∈ r, P v) (i : Nat) : P (rdV r i) := by
  by_cases hi : i < r.length
  · show P (rd_T40 r i)
    rw [rdV_lt r i hi]
    exact h _ (List.getElem_mem hi)
  · show P (rd_T40 r i)
    rw [rdV_ge r i (by omega)]
    exact h0
theorem fit1_GV (t : Int) (v : XV) (h : GV v) : GV (fit1 t v) := by
  unfold fit1
  split
  · exact ⟨by simp, by simp⟩
  · exact h
theorem fitRow_at {T : List Int} {K M G : Int} (hS : Sch T K M G) (r : List XV) (hr : ∀ v ∈ r, GV v) (m : Nat) (hm : m ≤ T.length) : FitAt T (fitRow T r) m 0 := by
  intro j _ hj
  rw [rdV_fitRow T r j (by omega)]
  obtain ⟨h1, h2⟩ := hS.rdt j (by omega)
  exact ⟨fitT_fit1 _ _ h1 h2, fit1_GV _ _ (rdV_of GV r ⟨by simp, by simp⟩ hr j)⟩
theorem rdV_take (r : List XV) (n j : Nat) (h : j < n) : rdV (r.take n) j = rdV r j := by
  show rd_T40 _ _ = rd_T40 _ _
  by_cases hi : j < r.length
  · rw [rdV_lt _ j (by rw [List.length_take]; omega), rdV_lt r j hi, List.getElem_take]
  · rw [rdV_ge _ j (by rw [List.length_take]; omega), rdV_ge r j (by omega)]
end Go.Proofs.Ytapaldcdoahfeaa.P

/- Rows made to fit. -/
namespace Go.Proofs.Ytapaldcdoahfeaa.P
open Go.RowKit Go.Proofs.YtapaldcdoahfeaaW.PrintWords Go.Proofs.YtapaldcdoahfeaaW.PrintLast Go.Proofs.YtapaldcdoahfeaaW.PrintMore
set_option linter.unusedVariables false
set_option linter.unusedSimpArgs false

theorem fits_loop (T : List Int) (K M G : Int) (l : List (List XV)) (n : Nat) (hn : n ≤ 1000000) (hT : T.length ≤ 1000000) : ∀ (d i : Nat) (acc : List (List XV)), i + d = min l.length n → acc.length = i → Ev (fun k => thresherref04_Fits.l0 k l n acc i T K M G) (acc ++ ((l.take n).drop i).map (fitRow T))
  | 0, i, acc, hi, ha => by
    refine Ev.succ ?_
    simp only [thresherref04_Fits.l0]
    have e : (l.take n).drop i = [] := List.drop_of_length_le (by simp; omega)
    rw [e]
    by_cases h : (i : Int) < l.length
    · exact Ev.pos h (Ev.neg (by omega) ((Ev.now _).eq (by simp)))
    · exact Ev.neg h ((Ev.now _).eq (by simp))
  | d + 1, i, acc, hi, ha => by
    have h1 : i < l.length := by omega
    have h2 : i < n := by omega
    refine Ev.succ ?_
    simp only [thresherref04_Fits.l0]
    have e : (l.take n).drop i = l[i] :: (l.take n).drop (i + 1) := by
      rw [List.drop_eq_getElem_cons (by simp; omega)]
      simp
    rw [rdR_lt l i h1, e]
    simp (disch := omega) only [w64]
    refine Ev.pos (by omega) (Ev.pos (by omega) (Ev.pos (by omega) (Ev.bind (fit_ev T K M G _ hT) (Ev.pos (by omega) ?_))))
    refine (fits_loop T K M G l n hn hT d (i + 1) (acc ++ [fitRow T l[i]]) (by omega) (by simp; omega)).eq ?_
    simp
theorem fits_ev (T : List Int) (K M G : Int) (l : List (List XV)) (n : Nat) (hn : n ≤ 1000000) (hT : T.length ≤ 1000000) : Ev (fun k => thresherref04_Fits.f k T K M G l n) ((l.take n).map (fitRow T)) := by
  simp only [thresherref04_Fits.f]
  exact fits_loop T K M G l n hn hT (min l.length n) 0 [] (by omega) rfl
end Go.Proofs.Ytapaldcdoahfeaa.P

/- The document's Compare of values tells the same order. -/
namespace Go.Proofs.Ytapaldcdoahfeaa.P
open Go.RowKit Go.Proofs.YtapaldcdoahfeaaW.PrintWords Go.Proofs.YtapaldcdoahfeaaW.PrintLast Go.Proofs.YtapaldcdoahfeaaW.PrintMore
set_option linter.unusedVariables false
set_option linter.unusedSimpArgs false

/-- Values as Go has them. -/
def GR (r : List XV) : Prop := ∀ v ∈ r, GV v ∧ v.f1.size ≤ 9223372036854775807
theorem GR.rdV {r : List XV} (h : GR r) (i : Nat) : GV (rdV r i) ∧ (P.rdV r i).f1.size ≤ 9223372036854775807 := by
  by_cases hi : i < r.length
  · show GV (rd_T40 r i) ∧ (rd_T40 r i).f1.size ≤ _
    rw [rdV_lt r i hi]
    exact h _ (List.getElem_mem hi)
  · show GV (rd_T40 r i) ∧ (rd_T40 r i).f1.size ≤ _
    rw [rdV_ge r i (by omega)]
    exact ⟨⟨by simp, by simp⟩, by decide⟩
end Go.Proofs.Ytapaldcdoahfeaa.P

/- A schema of a shape. -/
namespace Go.Proofs.Ytapaldcdoahfeaa.P
open Go.RowKit Go.Proofs.YtapaldcdoahfeaaW.PrintWords Go.Proofs.YtapaldcdoahfeaaW.PrintLast Go.Proofs.YtapaldcdoahfeaaW.PrintMore
theorem u8_of {x : Int} (h : (Lit.int .u8 x).wf = true) : U8 x := wf_u8 h
theorem shape_ev {x : S24} (h : gd24 x) : ∃ T K M G, Ev (fun k => thresherref04_Made.f k x.f0.f0 x.f0.f1 x.f0.f2 x.f0.f3 x.f0.f4 x.f0.f5 x.f0.f6 x.f0.f7 x.f1 x.f2 x.f3 x.f4) (T, K, M, G) ∧ Sch T K M G := by
  obtain ⟨⟨h0, h1, h2, h3, h4, h5, h6, h7⟩, ha, hb, hc, hd⟩ := h
  exact made_ev _ _ _ _ _ _ _ _ _ _ _ _ (u8_of h0) (u8_of h1) (u8_of h2) (u8_of h3) (u8_of h4) (u8_of h5) (u8_of h6) (u8_of h7) (u8_of ha) (u8_of hb) (u8_of hc) (u8_of hd)
end Go.Proofs.Ytapaldcdoahfeaa.P

/- value.Compare tells the order of values. -/
namespace Go.Proofs.Ytapaldcdoahfeaa.P
open Go.RowKit Go.Proofs.YtapaldcdoahfeaaW.PrintWords Go.Proofs.YtapaldcdoahfeaaW.PrintLast Go.Proofs.YtapaldcdoahfeaaW.PrintMore
set_option linter.unusedVariables false
set_option linter.unusedSimpArgs false

theorem vfits_f (k : Nat) (t n : Int) (s : ByteArray) : value_Fits.f (k + 1) t n s = some (fitT t ⟨n, s⟩) := by
  unfold value_Fits.f fitT
  by_cases h1 : t = 1
  · rw [if_pos h1, if_pos (Or.inl h1)]
    subst h1
    rfl
  · rw [if_neg h1]
    by_cases h2 : t = 2
    · rw [if_pos (Or.inr h2)]
      subst h2
      rfl
    · rw [if_neg (by omega), show (t == 2) = false by simpa using h2]
      simp only [value_Fits.j0, Bool.false_eq_true, if_false]
      by_cases h3 : t = 3
      · rw [if_pos h3, if_pos h3]
        split <;> rfl
      · rw [if_neg h3, if_neg h3]
theorem vfits_ev (t n : Int) (s : ByteArray) : Ev (fun k => value_Fits.f k t n s) (fitT t ⟨n, s⟩) := Ev.succ ⟨0, fun k _ => vfits_f k t n s⟩
theorem cmpu_f (x y : Int) : cmp_Compare_uint64.f x y = some (sgn x y) := by
  simp only [cmp_Compare_uint64.f, cmp_isNaN_uint64.f, bne_self_eq_false, Option.bind_some, Bool.false_eq_true, if_false]
  unfold sgn
  split
  · rfl
  · split <;> rfl
theorem cmpi_f (x y : Int) : cmp_Compare_int64.f x y = some (sgn x y) := by
  simp only [cmp_Compare_int64.f, cmp_isNaN_int64.f, bne_self_eq_false, Option.bind_some, Bool.false_eq_true, if_false]
  unfold sgn
  split
  · rfl
  · split <;> rfl
theorem vcmp_ev (t : Int) (a b : XV) : Ev (fun k => value_Compare.f k t a.f0 a.f1 b.f0 b.f1) (cmpV t a b) := by
  simp only [value_Compare.f]
  refine Ev.bind (vfits_ev t a.f0 a.f1) ?_
  by_cases ha : fitT t a = true
  · refine Ev.pos ha (Ev.bind (vfits_ev t b.f0 b.f1) (Ev.succ ?_))
    simp only [value_Compare.j0]
    by_cases hb : fitT t b = true
    · rw [cmpV_fit ha hb]
      refine Ev.neg (fun h => ?_) ?_
      · rw [show fitT t ⟨b.f0, b.f1⟩ = true from hb] at h
        exact absurd h (by simp)
      · by_cases e3 : t = 3
        · refine (Ev.pos e3 (Ev.bindc rfl (Ev.now _))).eq ?_
          unfold cmpC
          rw [if_pos e3]
        · refine Ev.neg e3 ?_
          by_cases e2 : t = 2
          · refine (Ev.pos e2 (Ev.bindc (cmpu_f _ _) (Ev.now _))).eq ?_
            unfold cmpC
            rw [if_neg e3, if_pos e2]
            rfl
          · refine (Ev.neg e2 (Ev.bindc (cmpi_f _ _) (Ev.now _))).eq ?_
            unfold cmpC
            rw [if_neg e3, if_neg e2]
    · refine (Ev.pos ?_ (Ev.now _)).eq ?_
      · rw [show fitT t ⟨b.f0, b.f1⟩ = false from Bool.eq_false_iff.mpr hb]
        rfl
      · unfold cmpV
        rw [if_neg (fun h => hb h.2)]
  · refine Ev.neg ha (Ev.succ ?_)
    simp only [value_Compare.j0]
    refine (Ev.pos (by simp) (Ev.now _)).eq ?_
    unfold cmpV
    rw [if_neg (fun h => ha h.1)]
end Go.Proofs.Ytapaldcdoahfeaa.P

/- The document's Compare of rows tells the same order. -/
namespace Go.Proofs.Ytapaldcdoahfeaa.P
open Go.RowKit Go.Proofs.YtapaldcdoahfeaaW.PrintWords Go.Proofs.YtapaldcdoahfeaaW.PrintLast Go.Proofs.YtapaldcdoahfeaaW.PrintMore
set_option linter.unusedVariables false
set_option linter.unusedSimpArgs false

end Go.Proofs.Ytapaldcdoahfeaa.P

/- Rows that fit, as far as they go: their order. -/
namespace Go.Proofs.Ytapaldcdoahfeaa.P
open Go.RowKit Go.Proofs.YtapaldcdoahfeaaW.PrintWords Go.Proofs.YtapaldcdoahfeaaW.PrintLast Go.Proofs.YtapaldcdoahfeaaW.PrintMore
set_option linter.unusedVariables false
set_option linter.unusedSimpArgs false

structure RowOk (T : List Int) (a : List XV) : Prop where
  len : a.length ≤ T.length
  fit : FitAt T a a.length 0
  gr : GR a
theorem FitAt.mono {T : List Int} {a : List XV} {m m' : Nat} (h : FitAt T a m 0) (hm : m' ≤ m) : FitAt T a m' 0 := fun j h1 h2 => h j h1 (by omega)
theorem fit1_size (t : Int) (v : XV) (h : v.f1.size ≤ 9223372036854775807) : (fit1 t v).f1.size ≤ 9223372036854775807 := by
  unfold fit1
  split
  · show (if (v.f1.size : Int) > 60 then v.f1.extract 0 60 else v.f1).size ≤ _
    split
    · rw [ByteArray.size_extract]; omega
    · exact h
  · show (0 : Nat) ≤ _; omega
theorem fitRow_ok {T : List Int} {K M G : Int} (hS : Sch T K M G) (r : List XV) (hr : GR r) : RowOk T (fitRow T r) := by
  refine ⟨by rw [fitRow_length]; omega, by rw [fitRow_length]; exact fitRow_at hS r (fun v h => (hr v h).1) _ (Nat.le_refl _), fun v hv => ?_⟩
  obtain ⟨i, hi, rfl⟩ := List.getElem_of_mem hv
  have hi2 : i < T.length := by rwa [fitRow_length] at hi
  have e := rdV_fitRow T r i hi2
  rw [show rdV (fitRow T r) i = (fitRow T r)[i] from rdV_lt _ i hi] at e
  rw [e]
  have := hr.rdV i
  exact ⟨fit1_GV _ _ this.1, fit1_size _ _ this.2⟩
theorem RowOk.take {T : List Int} {a : List XV} (h : RowOk T a) (n : Nat) : RowOk T (a.take n) := by
  have hl : (a.take n).length ≤ a.length := by rw [List.length_take]; omega
  refine ⟨by have := h.len; omega, fun j h1 h2 => ?_, fun v hv => h.gr v (List.mem_of_mem_take hv)⟩
  rw [List.length_take] at h2
  rw [rdV_take a n j (by omega)]
  exact h.fit j h1 (by omega)
theorem cmpRow_anti (T : List Int) (K : Int) (a b : List XV) : cmpRow T K b a = - cmpRow T K a b := by
  unfold cmpRow
  rw [cmpFrom_anti, show min (min (min K.toNat T.length) b.length) a.length = min (min (min K.toNat T.length) a.length) b.length by omega]
theorem cmpRow_self (T : List Int) (K : Int) (a : List XV) : cmpRow T K a a = 0 := by have := cmpRow_anti T K a a; omega
/-- A row that fits, and has all its key. -/
structure Full (T : List Int) (K : Int) (a : List XV) : Prop where
  ok : RowOk T a
  key : min K.toNat T.length ≤ a.length
theorem fitRow_full {T : List Int} {K M G : Int} (hS : Sch T K M G) (r : List XV) (hr : GR r) : Full T K (fitRow T r) := ⟨fitRow_ok hS r hr, by rw [fitRow_length]; omega⟩
/-- Rows in order. -/
def InOrd (T : List Int) (K : Int) (l : List (List XV)) : Prop := l.Pairwise (fun a b => cmpRow T K a b ≤ 0)
theorem InOrd.at {T : List Int} {K : Int} {l : List (List XV)} (h : InOrd T K l) {i j : Nat} (hij : i ≤ j) (hj : j < l.length) : cmpRow T K (rdR l i) (rdR l j) ≤ 0 := by
  rw [show rdR l i = l[i] from rdR_lt l i (by omega), show rdR l j = l[j] from rdR_lt l j hj]
  rcases Nat.eq_or_lt_of_le hij with e | h1
  · subst e; rw [cmpRow_self]; omega
  · exact List.pairwise_iff_getElem.mp h i j (by omega) hj h1
end Go.Proofs.Ytapaldcdoahfeaa.P

/- The aggregates, plain: what agg.Rows tells, and that the order of rows does not matter. -/
namespace Go.Proofs.Ytapaldcdoahfeaa.P
open Go.RowKit Go.Proofs.YtapaldcdoahfeaaW.PrintWords Go.Proofs.YtapaldcdoahfeaaW.PrintLast Go.Proofs.YtapaldcdoahfeaaW.PrintMore
set_option linter.unusedVariables false
set_option linter.unusedSimpArgs false

abbrev XC := S42
abbrev XG := S33
/-- The one that q puts first; the first one, if they are the same. -/
def pickV (q : XV → XV → Int) (a b : XV) : XV := if q b a < 0 then b else a
def plusV (a b : XV) : XV := ⟨wrap64 (a.f0 + b.f0), ⟨#[]⟩⟩
def joinV (kd t : Int) (a b : XV) : XV := if kd ≤ 2 then plusV a b else if kd = 3 then pickV (cmpV t) a b else pickV (fun x y => cmpV t y x) a b
def bothV (kd t : Int) (c : XC) (v : XV) : XC := if c.f0 = true then ⟨true, joinV kd t c.f1 v⟩ else ⟨true, v⟩
def foldV (kd t col : Int) (c : XC) (rows : List (List XV)) : XC := rows.foldl (fun c r => bothV kd t c (aggOf kd (rd_T40 r col))) c
def oneV (T : List Int) (rows : List (List XV)) (x : XG) : XC := foldV x.f0 (rd T x.f1) x.f1 (aggFirst x.f0) rows
def OkAgg (T : List Int) (x : XG) : Prop := 1 ≤ x.f0 ∧ x.f0 ≤ 4 ∧ 0 ≤ x.f1 ∧ x.f1 < (T.length : Int)

theorem aggJ_ev (kd t : Int) (a b : XV) : Ev (fun k => aggJ k kd t a b) ((joinV kd t a b).f0, (joinV kd t a b).f1) := by
  unfold aggJ joinV
  by_cases h2 : kd ≤ 2
  · simp only [if_pos h2]
    exact Ev.now _
  · simp only [if_neg h2]
    by_cases h3 : kd = 3
    · simp only [if_pos h3]
      unfold agg_least.f pickV
      refine Ev.bind (vcmp_ev t b a) ?_
      by_cases h : cmpV t b a < 0
      · simp only [if_pos h]; exact Ev.now _
      · simp only [if_neg h]; exact Ev.now _
    · simp only [if_neg h3]
      unfold agg_most.f pickV
      refine Ev.bind (vcmp_ev t b a) ?_
      have e := cmpV_anti t a b
      by_cases h : cmpV t b a > 0
      · rw [if_pos (show cmpV t a b < 0 by omega)]
        simp only [if_pos h]; exact Ev.now _
      · rw [if_neg (show ¬ cmpV t a b < 0 by omega)]
        simp only [if_neg h]; exact Ev.now _
theorem aggBoth_ev (kd t : Int) (c : XC) (v : XV) : Ev (fun k => aggBoth k kd t c v) (bothV kd t c v) := by
  unfold aggBoth bothV
  by_cases h : c.f0 = true
  · simp only [if_pos h]
    exact Ev.bind (aggJ_ev kd t c.f1 v) (Ev.now _)
  · simp only [if_neg h]
    exact Ev.now _
theorem aggFold_ev (kd t col : Int) : ∀ (rows : List (List XV)) (c : XC), (∀ r ∈ rows, col < (r.length : Int)) → Ev (fun k => aggFold k kd t col c rows) (foldV kd t col c rows)
  | [], c, _ => Ev.now _
  | r :: rs, c, h => by
    simp only [aggFold]
    refine Ev.pos (h r List.mem_cons_self) (Ev.bind (aggBoth_ev kd t c _) ?_)
    exact aggFold_ev kd t col rs _ (fun r' hr' => h r' (List.mem_cons_of_mem _ hr'))
theorem aggAll_ev (T : List Int) (rows : List (List XV)) (hw : ∀ r ∈ rows, r.length = T.length) : ∀ l : List XG, (∀ x ∈ l, OkAgg T x) → Ev (fun k => aggAll k T rows l) (l.map (oneV T rows))
  | [], _ => Ev.now _
  | x :: l, h => by
    obtain ⟨h1, h2, h3, h4⟩ := h x List.mem_cons_self
    simp only [aggAll]
    refine Ev.bind (a := oneV T rows x) ?_ (Ev.bind (aggAll_ev T rows hw l (fun y hy => h y (List.mem_cons_of_mem _ hy))) (Ev.now _))
    unfold aggOne
    exact Ev.pos ⟨h1, h2, h3, h4⟩ (aggFold_ev _ _ _ _ _ (fun r hr => by rw [hw r hr]; exact h4))
theorem agg_ev (T : List Int) (a b d : Int) (rows : List (List XV)) (hw : ∀ r ∈ rows, r.length = T.length) (hn : rows.length ≤ 1000) (l : List XG) (hl : l.length ≤ 1000) (h : ∀ x ∈ l, OkAgg T x) : Ev (fun k => agg_Rows.f k T a b d l rows) (l.map (oneV T rows)) := by
  unfold agg_Rows.f
  exact Ev.pos ⟨by omega, by omega⟩ (aggAll_ev T rows hw l h)

theorem wrap_add (x y z : Int) : wrap64 (wrap64 (x + y) + z) = wrap64 (wrap64 (x + z) + y) := by unfold wrap64; omega
theorem wrap_add2 (x y : Int) : wrap64 (x + y) = wrap64 (y + x) := by rw [Int.add_comm]
/-- Two that are put into a third one, whatever it is: in either order. -/
theorem pickV_comm (q : XV → XV → Int) (x y z : XV) (ht : ∀ a b c, (a = x ∨ a = y ∨ a = z) → (b = x ∨ b = y ∨ b = z) → (c = x ∨ c = y ∨ c = z) → q a b ≤ 0 → q b c ≤ 0 → q a c ≤ 0) (ha : ∀ a b, q b a = - q a b) (h0 : q x y = 0 → x = y) : pickV q (pickV q z x) y = pickV q (pickV q z y) x := by
  have a1 := ha x z
  have a2 := ha y z
  have a3 := ha x y
  unfold pickV
  by_cases c1 : q x z < 0
  · rw [if_pos c1]
    by_cases c2 : q y z < 0
    · rw [if_pos c2]
      by_cases c3 : q y x < 0
      · rw [if_pos c3, if_neg (by omega)]
      · rw [if_neg c3]
        by_cases c4 : q x y < 0
        · rw [if_pos c4]
        · rw [if_neg c4]
          exact h0 (by omega)
    · rw [if_neg c2, if_pos c1]
      by_cases c3 : q y x < 0
      · exfalso
        have := ht z y x (by simp) (by simp) (by simp) (by omega) (by omega)
        omega
      · rw [if_neg c3]
  · rw [if_neg c1]
    by_cases c2 : q y z < 0
    · rw [if_pos c2]
      by_cases c3 : q x y < 0
      · exfalso
        have := ht z x y (by simp) (by simp) (by simp) (by omega) (by omega)
        omega
      · rw [if_neg c3]
    · rw [if_neg c2, if_neg c1]
theorem pick_unfit {t : Int} {q : XV → XV → Int} (hq : ∀ a b, ¬ (fitT t a = true ∧ fitT t b = true) → q a b = 0) {z : XV} (hz : ¬ fitT t z = true) (x : XV) : pickV q z x = z := by
  unfold pickV
  rw [if_neg (by rw [hq x z (fun h => hz h.2)]; omega)]
theorem cmpV_unfit (t : Int) (a b : XV) (h : ¬ (fitT t a = true ∧ fitT t b = true)) : cmpV t a b = 0 := by
  unfold cmpV
  rw [if_neg h]
theorem joinV_comm (kd t : Int) (x y z : XV) (hx : fitT t x = true) (hy : fitT t y = true) (gx : GV x) (gy : GV y) : joinV kd t (joinV kd t z x) y = joinV kd t (joinV kd t z y) x := by
  unfold joinV
  by_cases h2 : kd ≤ 2
  · simp only [if_pos h2]
    unfold plusV
    rw [wrap_add]
  · simp only [if_neg h2]
    by_cases h3 : kd = 3
    · simp only [if_pos h3]
      by_cases hz : fitT t z = true
      · refine pickV_comm _ x y z (fun a b c ha hb hc => ?_) (fun a b => cmpV_anti t a b) (fun h => (cmpV_zero t x y hx hy gx gy).mp h)
        have f : ∀ a, (a = x ∨ a = y ∨ a = z) → fitT t a = true := fun a h => by rcases h with rfl | rfl | rfl <;> assumption
        exact cmpV_trans t a b c (f a ha) (f b hb) (f c hc)
      · rw [pick_unfit (cmpV_unfit t) hz, pick_unfit (cmpV_unfit t) hz, pick_unfit (cmpV_unfit t) hz]
    · simp only [if_neg h3]
      by_cases hz : fitT t z = true
      · refine pickV_comm _ x y z (fun a b c ha hb hc h1 h2 => ?_) (fun a b => cmpV_anti t b a) (fun h => ((cmpV_zero t y x hy hx gy gx).mp h).symm)
        have f : ∀ a, (a = x ∨ a = y ∨ a = z) → fitT t a = true := fun a h => by rcases h with rfl | rfl | rfl <;> assumption
        exact cmpV_trans t c b a (f c hc) (f b hb) (f a ha) h2 h1
      · have hq : ∀ a b : XV, ¬ (fitT t a = true ∧ fitT t b = true) → (fun x y => cmpV t y x) a b = 0 := fun a b h => cmpV_unfit t b a (fun h' => h ⟨h'.2, h'.1⟩)
        rw [pick_unfit hq hz, pick_unfit hq hz, pick_unfit hq hz]
theorem joinV_comm0 (kd t : Int) (x y : XV) (hx : fitT t x = true) (hy : fitT t y = true) (gx : GV x) (gy : GV y) : joinV kd t x y = joinV kd t y x := by
  unfold joinV
  by_cases h2 : kd ≤ 2
  · simp only [if_pos h2]
    unfold plusV
    rw [wrap_add2]
  · simp only [if_neg h2]
    have e := cmpV_anti t x y
    have z := cmpV_zero t x y hx hy gx gy
    by_cases h3 : kd = 3
    · simp only [if_pos h3]
      unfold pickV
      by_cases c1 : cmpV t y x < 0
      · rw [if_pos c1, if_neg (by omega)]
      · rw [if_neg c1]
        by_cases c2 : cmpV t x y < 0
        · rw [if_pos c2]
        · rw [if_neg c2]; exact z.mp (by omega)
    · simp only [if_neg h3, pickV]
      by_cases c1 : cmpV t x y < 0
      · rw [if_pos c1, if_neg (by omega)]
      · rw [if_neg c1]
        by_cases c2 : cmpV t y x < 0
        · rw [if_pos c2]
        · rw [if_neg c2]; exact z.mp (by omega)
/-- Values that a fold meets: they fit, or the fold is a sum. -/
theorem bothV_comm (kd t : Int) (x y : XV) (c : XC) (h : kd ≤ 2 ∨ (fitT t x = true ∧ fitT t y = true ∧ GV x ∧ GV y)) : bothV kd t (bothV kd t c x) y = bothV kd t (bothV kd t c y) x := by
  obtain ⟨c0, c1⟩ := c
  have key : (∀ z, joinV kd t (joinV kd t z x) y = joinV kd t (joinV kd t z y) x) ∧ joinV kd t x y = joinV kd t y x := by
    rcases h with h | ⟨h1, h2, h3, h4⟩
    · refine ⟨fun z => ?_, ?_⟩
      · simp only [joinV, if_pos h, plusV, wrap_add]
      · simp only [joinV, if_pos h, plusV]; rw [wrap_add2]
    · exact ⟨fun z => joinV_comm kd t x y z h1 h2 h3 h4, joinV_comm0 kd t x y h1 h2 h3 h4⟩
  cases c0 with
  | true => simp only [bothV, if_true]; rw [key.1]
  | false => simp only [bothV, if_true, Bool.false_eq_true, if_false]; rw [key.2]
/-- The order of rows does not matter. -/
theorem oneV_perm {T : List Int} {K M G : Int} (hS : Sch T K M G) {rows rows' : List (List XV)} (hp : rows.Perm rows') (hr : ∀ r ∈ rows, RowOk T r ∧ r.length = T.length) (x : XG) (hx : OkAgg T x) : oneV T rows x = oneV T rows' x := by
  unfold oneV foldV
  refine hp.foldl_eq' (fun a ha b hb z => ?_) _
  refine bothV_comm _ _ _ _ _ ?_
  by_cases h : x.f0 ≤ 2
  · exact Or.inl h
  · right
    obtain ⟨h1, h2, h3, h4⟩ := hx
    obtain ⟨j, hj⟩ : ∃ j : Nat, x.f1 = j := ⟨x.f1.toNat, by omega⟩
    have e : ∀ v : XV, aggOf x.f0 v = v := fun v => by unfold aggOf; rw [if_neg (by omega)]
    rw [e, e, hj]
    have f := fun r (hr_ : r ∈ rows) => (hr r hr_).1.fit j (Nat.zero_le _) (by rw [(hr r hr_).2]; omega)
    exact ⟨(f a ha).1, (f b hb).1, (f a ha).2, (f b hb).2⟩
end Go.Proofs.Ytapaldcdoahfeaa.P

/- The document's Sort puts rows in order. -/
namespace Go.Proofs.Ytapaldcdoahfeaa.P
open Go.RowKit Go.Proofs.YtapaldcdoahfeaaW.PrintWords Go.Proofs.YtapaldcdoahfeaaW.PrintLast Go.Proofs.YtapaldcdoahfeaaW.PrintMore
set_option linter.unusedVariables false
set_option linter.unusedSimpArgs false

/-- A row put in, behind those that are not above it. -/
def insR (T : List Int) (K : Int) (x : List XV) : List (List XV) → List (List XV)
  | [] => [x]
  | y :: l => if cmpRow T K y x > 0 then x :: y :: l else y :: insR T K x l
def sortR (T : List Int) (K : Int) (l acc : List (List XV)) : List (List XV) := l.foldl (fun a x => insR T K x a) acc
end Go.Proofs.Ytapaldcdoahfeaa.P

/- thresherref20: Same, Fit; the example; the schema of a shape: plain. -/
namespace Go.Proofs.Ytapaldcdoahfeaa.P
open Go.RowKit Go.Proofs.YtapaldcdoahfeaaW.PrintWords Go.Proofs.YtapaldcdoahfeaaW.PrintLast Go.Proofs.YtapaldcdoahfeaaW.PrintMore
set_option linter.unusedVariables false
set_option linter.unusedSimpArgs false
theorem shown20_ev : Ev (fun k => thresherlaw20_shown.f k) true := Ev.of thresherlaw20_shown.mono (k := 12) (by kernel_rfl)
theorem made20_ev {x : S24} (h : gd24 x) : ∃ T K M G, Ev (fun k => thresherlaw20_made.f k x.f0.f0 x.f0.f1 x.f0.f2 x.f0.f3 x.f0.f4 x.f0.f5 x.f0.f6 x.f0.f7 x.f1 x.f2 x.f3 x.f4) (T, K, M, G) ∧ Sch T K M G := by
  obtain ⟨T, K, M, G, h1, h2⟩ := shape_ev h
  exact ⟨T, K, M, G, Ev.bind h1 (Ev.now _), h2⟩
theorem same20_loop (a : List XC) (ha : a.length ≤ 1000000) : ∀ (d i : Nat), i + d = a.length → Ev (fun k => thresherref20_Same.l0 k a a i) true
  | 0, i, hi => by
    refine Ev.succ ?_
    simp only [thresherref20_Same.l0]
    exact Ev.neg (by omega) (Ev.now _)
  | d + 1, i, hi => by
    refine Ev.succ ?_
    simp only [thresherref20_Same.l0]
    simp (disch := omega) only [w64]
    exact Ev.pos (by omega) (Ev.pos (by omega) (Ev.pos (by omega) (Ev.neg (by simp) (same20_loop a ha d (i + 1) (by omega)))))
theorem same20_ev (a : List XC) (ha : a.length ≤ 1000000) : Ev (fun k => thresherref20_Same.f k a a) true := by
  simp only [thresherref20_Same.f]
  exact Ev.pos (by simp) (same20_loop a ha a.length 0 (by omega))
end Go.Proofs.Ytapaldcdoahfeaa.P

/- thresherref20.Fit: aggregates that may be: plain. -/
namespace Go.Proofs.Ytapaldcdoahfeaa.P
open Go.RowKit Go.Proofs.YtapaldcdoahfeaaW.PrintWords Go.Proofs.YtapaldcdoahfeaaW.PrintLast Go.Proofs.YtapaldcdoahfeaaW.PrintMore
set_option linter.unusedVariables false
set_option linter.unusedSimpArgs false
theorem bits_three (x : Int) : 0 ≤ Go.bits .and .i64 x 3 ∧ Go.bits .and .i64 x 3 ≤ 3 := by
  have h : (BitVec.ofInt 64 x &&& BitVec.ofInt 64 3).toNat ≤ 3 := by
    rw [BitVec.toNat_and]
    exact Nat.and_le_right
  have e : Go.bits .and .i64 x 3 = IntKind.i64.wrap ((BitVec.ofInt 64 x &&& BitVec.ofInt 64 3).toNat : Int) := rfl
  rw [e, IntKind.wrap_i64]
  omega
def OkFit (T : List Int) (x : XG) : Prop := OkAgg T x ∧ (x.f0 = 2 → rd T x.f1 ≠ 3) ∧ (x.f0 = 1 → x.f1 = 0)
section
variable (T : List Int) (K M G : Int) (hT : 1 ≤ T.length) (hT8 : T.length ≤ 1000000) (l : List XG)
include hT hT8
theorem fit20_j4 (acc : List XG) (i : Nat) (ha : acc.length ≤ 1000) (col q : Int) (h0 : 0 ≤ col) (h1 : col < (T.length : Int)) (q1 : 1 ≤ q) (q4 : q ≤ 4) (h3 : q = 2 → rd T col ≠ 3) (hi : i ≤ 1000)
    (next : ∀ x, OkFit T x → ∃ R, Ev (fun k => thresherref20_Fit.l0 k l 16 (acc ++ [x]) ((i : Int) + 1) T K M G) R ∧ R.length ≤ 16 ∧ ∀ x ∈ R, OkFit T x) :
    ∃ R, Ev (fun k => thresherref20_Fit.j4 k l 16 acc i col q T K M G) R ∧ R.length ≤ 16 ∧ ∀ x ∈ R, OkFit T x := by
  by_cases c : q = 1
  · obtain ⟨R, e, h⟩ := next ⟨q, 0⟩ ⟨⟨q1, q4, Int.le_refl _, by show (0 : Int) < _; omega⟩, fun h => by simp only at h; omega, fun _ => rfl⟩
    refine ⟨R, Ev.succ ?_, h⟩
    simp only [thresherref20_Fit.j4]
    simp (disch := omega) only [w64]
    exact Ev.pos c (Ev.pos (by omega) e)
  · obtain ⟨R, e, h⟩ := next ⟨q, col⟩ ⟨⟨q1, q4, h0, h1⟩, h3, fun h => absurd h c⟩
    refine ⟨R, Ev.succ ?_, h⟩
    simp only [thresherref20_Fit.j4]
    simp (disch := omega) only [w64]
    exact Ev.neg c (Ev.pos (by omega) e)
theorem fit20_j3 (acc : List XG) (i : Nat) (ha : acc.length ≤ 1000) (col q : Int) (b : Bool) (h0 : 0 ≤ col) (h1 : col < (T.length : Int)) (q1 : 1 ≤ q) (q4 : q ≤ 4) (h3 : b = false → q = 2 → rd T col ≠ 3) (hi : i ≤ 1000)
    (next : ∀ x, OkFit T x → ∃ R, Ev (fun k => thresherref20_Fit.l0 k l 16 (acc ++ [x]) ((i : Int) + 1) T K M G) R ∧ R.length ≤ 16 ∧ ∀ x ∈ R, OkFit T x) :
    ∃ R, Ev (fun k => thresherref20_Fit.j3 k l 16 acc i col q b T K M G) R ∧ R.length ≤ 16 ∧ ∀ x ∈ R, OkFit T x := by
  cases b with
  | true =>
    obtain ⟨R, e, h⟩ := fit20_j4 T K M G hT hT8 l acc i ha col 4 h0 h1 (by omega) (by omega) (fun h => by omega) hi next
    refine ⟨R, Ev.succ ?_, h⟩
    simp only [thresherref20_Fit.j3]
    exact Ev.pos trivial e
  | false =>
    obtain ⟨R, e, h⟩ := fit20_j4 T K M G hT hT8 l acc i ha col q h0 h1 q1 q4 (h3 rfl) hi next
    refine ⟨R, Ev.succ ?_, h⟩
    simp only [thresherref20_Fit.j3]
    exact Ev.neg (by simp) e
theorem fit20_j2 (acc : List XG) (i : Nat) (ha : acc.length ≤ 1000) (col : Int) (h0 : 0 ≤ col) (h1 : col < (T.length : Int)) (hi : i ≤ 1000) (hil : i < l.length)
    (next : ∀ x, OkFit T x → ∃ R, Ev (fun k => thresherref20_Fit.l0 k l 16 (acc ++ [x]) ((i : Int) + 1) T K M G) R ∧ R.length ≤ 16 ∧ ∀ x ∈ R, OkFit T x) :
    ∃ R, Ev (fun k => thresherref20_Fit.j2 k l 16 acc i col T K M G) R ∧ R.length ≤ 16 ∧ ∀ x ∈ R, OkFit T x := by
  obtain ⟨q, hq⟩ : ∃ q, q = wrap64 (1 + Go.bits .and .i64 ((rd_T33 l (i : Int)).f0) 3) := ⟨_, rfl⟩
  have hb := bits_three ((rd_T33 l (i : Int)).f0)
  have hqr : 1 ≤ q ∧ q ≤ 4 := by
    rw [hq, w64 (by omega) (by omega)]
    omega
  by_cases c : q = 2
  · obtain ⟨R, e, h⟩ := fit20_j3 T K M G hT hT8 l acc i ha col q (rd T col == 3) h0 h1 hqr.1 hqr.2 (fun hb _ => by simpa using hb) hi next
    refine ⟨R, Ev.succ ?_, h⟩
    simp only [thresherref20_Fit.j2]
    rw [← hq]
    clear hq
    exact Ev.pos (by omega) (Ev.pos (by omega) (Ev.pos c (Ev.pos h0 (Ev.pos h1 e))))
  · obtain ⟨R, e, h⟩ := fit20_j3 T K M G hT hT8 l acc i ha col q false h0 h1 hqr.1 hqr.2 (fun _ h => absurd h c) hi next
    refine ⟨R, Ev.succ ?_, h⟩
    simp only [thresherref20_Fit.j2]
    rw [← hq]
    clear hq
    exact Ev.pos (by omega) (Ev.pos (by omega) (Ev.neg c e))
theorem fit20_loop : ∀ (d i : Nat) (acc : List XG), i + d = min l.length 16 → acc.length = i → (∀ x ∈ acc, OkFit T x) →
    ∃ R, Ev (fun k => thresherref20_Fit.l0 k l 16 acc i T K M G) R ∧ R.length ≤ 16 ∧ ∀ x ∈ R, OkFit T x
  | 0, i, acc, hi, ha, hA => by
    refine ⟨acc, Ev.succ ?_, by omega, hA⟩
    simp only [thresherref20_Fit.l0]
    by_cases c : (i : Int) < (l.length : Int)
    · refine Ev.pos c (Ev.succ ?_)
      simp only [thresherref20_Fit.j1]
      exact Ev.neg (by rw [decide_eq_false (by omega)]; simp) (Ev.now _)
    · refine Ev.neg c (Ev.succ ?_)
      simp only [thresherref20_Fit.j1]
      exact Ev.neg (by simp) (Ev.now _)
  | d + 1, i, acc, hi, ha, hA => by
    have next : ∀ x, OkFit T x → ∃ R, Ev (fun k => thresherref20_Fit.l0 k l 16 (acc ++ [x]) ((i : Int) + 1) T K M G) R ∧ R.length ≤ 16 ∧ ∀ x ∈ R, OkFit T x := fun x hx =>
      fit20_loop d (i + 1) (acc ++ [x]) (by omega) (by rw [List.length_append, ha]; rfl) (fun y hy => by
        rcases List.mem_append.mp hy with h | h
        · exact hA y h
        · rw [List.mem_singleton.mp h]; exact hx)
    obtain ⟨y, hy⟩ : ∃ y, y = Int.tmod ((rd_T33 l (i : Int)).f1) (T.length : Int) := ⟨_, rfl⟩
    have hy1 : -(T.length : Int) < y ∧ y < T.length := by
      rw [hy]
      have a1 := Int.tmod_lt_of_pos ((rd_T33 l (i : Int)).f1) (show 0 < (T.length : Int) by omega)
      have a2 := Int.lt_tmod_of_pos ((rd_T33 l (i : Int)).f1) (show 0 < (T.length : Int) by omega)
      exact ⟨a2, a1⟩
    by_cases c : y < 0
    · obtain ⟨R, e, h⟩ := fit20_j2 T K M G hT hT8 l acc i (by omega) (y + T.length) (by omega) (by omega) (by omega) (by omega) next
      refine ⟨R, Ev.succ ?_, h⟩
      simp only [thresherref20_Fit.l0]
      refine Ev.pos (by omega) (Ev.succ ?_)
      simp only [thresherref20_Fit.j1]
      rw [← hy]
      clear hy
      simp (disch := omega) only [w64]
      exact Ev.pos (by rw [decide_eq_true (by omega)]) (Ev.pos (by omega) (Ev.pos (by omega) (Ev.neg (by omega) (Ev.pos c e))))
    · obtain ⟨R, e, h⟩ := fit20_j2 T K M G hT hT8 l acc i (by omega) y (by omega) (by omega) (by omega) (by omega) next
      refine ⟨R, Ev.succ ?_, h⟩
      simp only [thresherref20_Fit.l0]
      refine Ev.pos (by omega) (Ev.succ ?_)
      simp only [thresherref20_Fit.j1]
      rw [← hy]
      clear hy
      exact Ev.pos (by rw [decide_eq_true (by omega)]) (Ev.pos (by omega) (Ev.pos (by omega) (Ev.neg (by omega) (Ev.neg c e))))
theorem fit20_ev : ∃ R, Ev (fun k => thresherref20_Fit.f k T K M G l 16) R ∧ R.length ≤ 16 ∧ ∀ x ∈ R, OkFit T x := by
  simp only [thresherref20_Fit.f]
  exact fit20_loop T K M G hT hT8 l (min l.length 16) 0 [] (by omega) rfl (by simp)
end
end Go.Proofs.Ytapaldcdoahfeaa.P

/- agg.Join, plain: cells of two parts, joined, are those of all. -/
namespace Go.Proofs.Ytapaldcdoahfeaa.P
open Go.RowKit Go.Proofs.YtapaldcdoahfeaaW.PrintWords Go.Proofs.YtapaldcdoahfeaaW.PrintLast
set_option linter.unusedVariables false
set_option linter.unusedSectionVars false
def both2V (kd t : Int) (c d : XC) : XC := if c.f0 = true then (if d.f0 = true then ⟨true, joinV kd t c.f1 d.f1⟩ else c) else d
theorem aggBoth2_ev (kd t : Int) (c d : XC) : Ev (fun k => aggBoth2 k kd t c d) (both2V kd t c d) := by
  unfold aggBoth2 both2V
  by_cases h : c.f0 = true
  · simp only [if_pos h]
    by_cases h2 : d.f0 = true
    · simp only [if_pos h2]
      exact Ev.bind (aggJ_ev kd t c.f1 d.f1) (Ev.now _)
    · simp only [if_neg h2]
      exact Ev.now _
  · simp only [if_neg h]
    exact Ev.now _
theorem aggJoin_ev (T : List Int) (f g : XG → XC) : ∀ l : List XG, (∀ x ∈ l, OkAgg T x) → Ev (fun k => aggJoin k T l (l.map f) (l.map g)) (l.map fun x => both2V x.f0 (rd T x.f1) (f x) (g x))
  | [], _ => Ev.now _
  | x :: l, h => by
    obtain ⟨h1, h2, h3, h4⟩ := h x List.mem_cons_self
    simp only [aggJoin, List.map_cons]
    exact Ev.pos ⟨h1, h2, h3, h4⟩ (Ev.bind (aggBoth2_ev _ _ _ _) (Ev.bind (aggJoin_ev T f g l (fun y hy => h y (List.mem_cons_of_mem _ hy))) (Ev.now _)))
theorem join_ev (T : List Int) (a b d : Int) (f g : XG → XC) (l : List XG) (hl : l.length ≤ 1000) (h : ∀ x ∈ l, OkAgg T x) : Ev (fun k => agg_Join.f k T a b d l (l.map f) (l.map g)) (l.map fun x => both2V x.f0 (rd T x.f1) (f x) (g x)) := by
  unfold agg_Join.f
  exact Ev.pos (by omega) (aggJoin_ev T f g l h)
theorem pickV_assoc (q : XV → XV → Int) (a b c : XV) (ht : ∀ x y z, (x = a ∨ x = b ∨ x = c) → (y = a ∨ y = b ∨ y = c) → (z = a ∨ z = b ∨ z = c) → q x y ≤ 0 → q y z ≤ 0 → q x z ≤ 0) (ha : ∀ x y, q y x = - q x y) : pickV q (pickV q a b) c = pickV q a (pickV q b c) := by
  have a1 := ha a b
  have a2 := ha b c
  have a3 := ha a c
  have t1 := ht a c b (by simp) (by simp) (by simp)
  have t2 := ht a b c (by simp) (by simp) (by simp)
  have t3 := ht c b a (by simp) (by simp) (by simp)
  unfold pickV
  by_cases c1 : q b a < 0
  · rw [if_pos c1]
    by_cases c2 : q c b < 0
    · rw [if_pos c2, if_pos]
      have := t3 (by omega) (by omega)
      rcases Int.lt_or_eq_of_le this with h | h
      · exact h
      · exfalso
        have := t1 (by omega) (by omega)
        omega
    · rw [if_neg c2, if_pos c1]
  · rw [if_neg c1]
    by_cases c2 : q c b < 0
    · rw [if_pos c2]
    · rw [if_neg c2, if_neg c1, if_neg]
      have := t2 (by omega) (by omega)
      omega
theorem plus_assoc (x y z : XV) : plusV (plusV x y) z = plusV x (plusV y z) := by
  unfold plusV
  simp only [S40.mk.injEq, and_true]
  unfold wrap64
  omega
theorem joinV_assoc (kd t : Int) (a b c : XV) (h : kd ≤ 2 ∨ (fitT t a = true ∧ fitT t b = true ∧ fitT t c = true)) : joinV kd t (joinV kd t a b) c = joinV kd t a (joinV kd t b c) := by
  unfold joinV
  by_cases h2 : kd ≤ 2
  · simp only [if_pos h2]; exact plus_assoc a b c
  · obtain ⟨f1, f2, f3⟩ := h.resolve_left h2
    have f : ∀ x, (x = a ∨ x = b ∨ x = c) → fitT t x = true := fun x h => by rcases h with rfl | rfl | rfl <;> assumption
    simp only [if_neg h2]
    by_cases h3 : kd = 3
    · simp only [if_pos h3]
      exact pickV_assoc _ a b c (fun x y z hx hy hz => cmpV_trans t x y z (f x hx) (f y hy) (f z hz)) (fun x y => cmpV_anti t x y)
    · simp only [if_neg h3]
      exact pickV_assoc _ a b c (fun x y z hx hy hz p1 p2 => cmpV_trans t z y x (f z hz) (f y hy) (f x hx) p2 p1) (fun x y => cmpV_anti t y x)
/-- What a cell may be in the midst of rows. -/
structure CellOk (kd t : Int) (c : XC) : Prop where
  none : c.f0 = false → c = aggFirst kd
  some : c.f0 = true → (kd ≤ 2 ∧ wrap64 c.f1.f0 = c.f1.f0 ∧ c.f1.f1 = ⟨#[]⟩) ∨ (¬ kd ≤ 2 ∧ fitT t c.f1 = true)
theorem joinV_fit {kd t : Int} {a b : XV} (h2 : ¬ kd ≤ 2) (ha : fitT t a = true) (hb : fitT t b = true) : fitT t (joinV kd t a b) = true := by
  unfold joinV
  rw [if_neg h2]
  split <;> (unfold pickV; split <;> assumption)
theorem bothV_ok {kd t : Int} {c : XC} {v : XV} (hc : CellOk kd t c) (hv : kd ≤ 2 ∨ fitT t v = true) : CellOk kd t (bothV kd t c v) := by
  by_cases h2 : kd ≤ 2
  · have c0 : c.f0 = true := by
      by_cases q : c.f0 = true
      · exact q
      · have := hc.none (by simpa using q)
        rw [this]
        unfold aggFirst
        exact decide_eq_true h2
    unfold bothV
    rw [if_pos c0]
    refine ⟨fun h => absurd h (by simp), fun _ => Or.inl ⟨h2, ?_, ?_⟩⟩
    · unfold joinV
      rw [if_pos h2]
      show wrap64 (wrap64 _) = wrap64 _
      unfold wrap64
      omega
    · unfold joinV
      rw [if_pos h2]
      rfl
  · have hv2 := hv.resolve_left h2
    unfold bothV
    by_cases c0 : c.f0 = true
    · rw [if_pos c0]
      refine ⟨fun h => absurd h (by simp), fun _ => Or.inr ⟨h2, ?_⟩⟩
      rcases hc.some c0 with h | h
      · exact absurd h.1 h2
      · exact joinV_fit h2 h.2 hv2
    · rw [if_neg c0]
      exact ⟨fun h => absurd h (by simp), fun _ => Or.inr ⟨h2, hv2⟩⟩
theorem first_ok (kd t : Int) : CellOk kd t (aggFirst kd) := by
  refine ⟨fun _ => rfl, fun h => Or.inl ?_⟩
  unfold aggFirst at h ⊢
  exact ⟨of_decide_eq_true h, by show wrap64 0 = 0; exact w64 (by omega) (by omega), rfl⟩
section
variable (kd t col : Int) (rows : List (List XV)) (hv : ∀ r ∈ rows, kd ≤ 2 ∨ fitT t (aggOf kd (rdV r col)) = true)
theorem foldV_app (c : XC) (a b : List (List XV)) : foldV kd t col c (a ++ b) = foldV kd t col (foldV kd t col c a) b := by
  unfold foldV
  rw [List.foldl_append]
include hv
theorem foldV_ok (c : XC) (hc : CellOk kd t c) : CellOk kd t (foldV kd t col c rows) := by
  induction rows generalizing c with
  | nil => exact hc
  | cons r rs ih => exact ih (fun x hx => hv x (List.mem_cons_of_mem _ hx)) _ (bothV_ok hc (hv r List.mem_cons_self))
theorem both2_snoc {c d : XC} {v : XV} (hc : CellOk kd t c) (hd : CellOk kd t d) (hv : kd ≤ 2 ∨ fitT t v = true) : both2V kd t c (bothV kd t d v) = bothV kd t (both2V kd t c d) v := by
  obtain ⟨c0, cv⟩ := c
  obtain ⟨d0, dv⟩ := d
  cases c0 with
  | false => rfl
  | true =>
    have hc2 := hc.some rfl
    cases d0 with
    | false => rfl
    | true =>
      have hd2 := hd.some rfl
      simp only [both2V, bothV, if_true]
      rw [joinV_assoc]
      rcases hc2 with h | h
      · exact Or.inl h.1
      · rcases hd2 with h3 | h3
        · exact Or.inl h3.1
        · rcases hv with h4 | h4
          · exact Or.inl h4
          · exact Or.inr ⟨h.2, h3.2, h4⟩
theorem both2_fold (c : XC) (hc : CellOk kd t c) : both2V kd t c (foldV kd t col (aggFirst kd) rows) = foldV kd t col c rows := by
  have key : ∀ (l2 l1 : List (List XV)), (∀ r ∈ l2, kd ≤ 2 ∨ fitT t (aggOf kd (rdV r col)) = true) → ∀ d, CellOk kd t d → both2V kd t c (foldV kd t col d l2) = foldV kd t col (both2V kd t c d) l2 := by
    intro l2
    induction l2 with
    | nil => intro _ _ d _; rfl
    | cons r rs ih =>
      intro l1 h d hd
      have h1 := h r List.mem_cons_self
      have e1 : foldV kd t col d (r :: rs) = foldV kd t col (bothV kd t d (aggOf kd (rdV r col))) rs := rfl
      have e2 : foldV kd t col (both2V kd t c d) (r :: rs) = foldV kd t col (bothV kd t (both2V kd t c d) (aggOf kd (rdV r col))) rs := rfl
      rw [e1, e2, ih l1 (fun x hx => h x (List.mem_cons_of_mem _ hx)) _ (bothV_ok hd h1), both2_snoc kd t col [] (by simp) hc hd h1]
  rw [key rows [] hv _ (first_ok kd t)]
  congr 1
  obtain ⟨c0, cv⟩ := c
  cases c0 with
  | false =>
    rw [hc.none rfl]
    unfold both2V aggFirst
    by_cases h2 : kd ≤ 2
    · rw [decide_eq_true h2]
      have := hc.none rfl
      unfold aggFirst at this
      rw [decide_eq_true h2] at this
      exact absurd this (by simp)
    · rw [decide_eq_false h2]
      rfl
  | true =>
    rcases hc.some rfl with h | h
    · unfold both2V aggFirst
      rw [decide_eq_true h.1]
      simp only [if_true]
      unfold joinV
      rw [if_pos h.1]
      unfold plusV
      obtain ⟨n, s⟩ := cv
      obtain ⟨_, h5, h6⟩ := h
      simp only at h5 h6
      simp only [Int.add_zero, h5, h6]
    · unfold both2V aggFirst
      rw [decide_eq_false h.1]
      rfl
end
theorem fit_of_agg {T : List Int} {rows : List (List XV)} (hr : ∀ r ∈ rows, RowOk T r ∧ r.length = T.length) {x : XG} (hx : OkAgg T x) : ∀ r ∈ rows, x.f0 ≤ 2 ∨ fitT (rd T x.f1) (aggOf x.f0 (rdV r x.f1)) = true := by
  intro r hm
  by_cases h : x.f0 ≤ 2
  · exact Or.inl h
  · right
    obtain ⟨h1, h2, h3, h4⟩ := hx
    obtain ⟨j, hj⟩ : ∃ j : Nat, x.f1 = j := ⟨x.f1.toNat, by omega⟩
    unfold aggOf
    rw [if_neg (by omega), hj]
    exact ((hr r hm).1.fit j (Nat.zero_le _) (by rw [(hr r hm).2]; omega)).1
theorem both2_one {T : List Int} {a b : List (List XV)} (ha : ∀ r ∈ a, RowOk T r ∧ r.length = T.length) (hb : ∀ r ∈ b, RowOk T r ∧ r.length = T.length) {x : XG} (hx : OkAgg T x) : both2V x.f0 (rd T x.f1) (oneV T a x) (oneV T b x) = oneV T (a ++ b) x := by
  unfold oneV
  rw [foldV_app, both2_fold _ _ _ b (fit_of_agg hb hx) _ (foldV_ok _ _ _ a (fit_of_agg ha hx) _ (first_ok _ _))]
end Go.Proofs.Ytapaldcdoahfeaa.P

/- Rows made to fit, and put in order. -/
namespace Go.Proofs.Ytapaldcdoahfeaa.P
open Go.RowKit Go.Proofs.YtapaldcdoahfeaaW.PrintWords Go.Proofs.YtapaldcdoahfeaaW.PrintLast Go.Proofs.YtapaldcdoahfeaaW.PrintMore
set_option linter.unusedVariables false
set_option linter.unusedSimpArgs false

theorem GR_gd {r : List XV} (h : ∀ v ∈ r, gd40 v) : GR r := fun v hv => by
  obtain ⟨h1, h2⟩ := h v hv
  exact ⟨wf_i64 h1, by unfold maxLen at h2; omega⟩
/-- The rows that a law speaks of: made to fit, 60 at most. -/
def fitsR (T : List Int) (l : List (List XV)) : List (List XV) := (l.take 60).map (fitRow T)
structure Rows60 (T : List Int) (K : Int) (l : List (List XV)) : Prop where
  len : l.length ≤ 60
  full : ∀ r ∈ l, Full T K r
  wide : ∀ r ∈ l, r.length = T.length
theorem Rows60.gr {T : List Int} {K : Int} {l : List (List XV)} (h : Rows60 T K l) : ∀ r ∈ l, GR r := fun r hr => (h.full r hr).ok.gr
theorem fitsR_ok {T : List Int} {K M G : Int} (hS : Sch T K M G) (l : List (List XV)) (hl : ∀ a ∈ l, ∀ v ∈ a, gd40 v) : Rows60 T K (fitsR T l) := by
  refine ⟨by unfold fitsR; rw [List.length_map, List.length_take]; omega, fun r hr => ?_, fun r hr => ?_⟩
  · obtain ⟨a, ha, rfl⟩ := List.mem_map.mp hr
    exact fitRow_full hS a (GR_gd (hl a (List.mem_of_mem_take ha)))
  · obtain ⟨a, ha, rfl⟩ := List.mem_map.mp hr
    exact fitRow_length T a
end Go.Proofs.Ytapaldcdoahfeaa.P

/- Cells of two parts of rows, joined, are those of all, wherever they are cut: the plain law. -/
namespace Go.Proofs.Ytapaldcdoahfeaa.Pure
open Go.RowKit Go.Proofs.Ytapaldcdoahfeaa.P Go.Proofs.YtapaldcdoahfeaaW.PrintWords Go.Proofs.YtapaldcdoahfeaaW.PrintLast
set_option linter.unusedVariables false
set_option linter.unusedSectionVars false
theorem AggParts : thresherlaw20_AggParts.PureG := by
  intro x l c hx ⟨hl, hl2⟩ ⟨⟨hr, hr2⟩, hat⟩
  obtain ⟨T, K, M, G, hmade, hS⟩ := made20_ev hx
  have n1 := hS.n1
  have n8 := hS.n8
  obtain ⟨fs, hfit, hfs, hok⟩ := fit20_ev T K M G n1 (by omega) l
  have hfo := fitsR_ok hS c.f0 (fun a h => (hr2 a h).2)
  have hf := fits_ev T K M G c.f0 60 (by omega) (by omega)
  obtain ⟨rows, hrows⟩ : ∃ rows, rows = fitsR T c.f0 := ⟨_, rfl⟩
  have hf' : Ev (fun k => thresherref04_Fits.f k T K M G c.f0 60) rows := by rw [hrows]; exact hf
  rw [← hrows] at hfo
  clear hf hrows
  have hlen := hfo.len
  have ua := u8_of hat
  obtain ⟨m, hm, hml⟩ : ∃ m : Nat, Int.tmod (wrap64 c.f1) (wrap64 ((rows.length : Int) + 1)) = m ∧ m ≤ rows.length := by
    unfold U8 at ua
    rw [w64 (by omega) (by omega), w64 (by omega) (by omega), Int.tmod_eq_emod_of_nonneg ua.1]
    have e1 := Int.emod_nonneg c.f1 (show (rows.length : Int) + 1 ≠ 0 by omega)
    have e2 := Int.emod_lt_of_pos c.f1 (show 0 < (rows.length : Int) + 1 by omega)
    exact ⟨(c.f1 % ((rows.length : Int) + 1)).toNat, by omega, by omega⟩
  have hne : ¬ wrap64 ((rows.length : Int) + 1) = 0 := by rw [w64 (by omega) (by omega)]; omega
  have hrr := fun q (h : q ∈ rows) => And.intro (hfo.full q h).ok (hfo.wide q h)
  have hA := fun q (h : q ∈ rows.take m) => hrr q (List.mem_of_mem_take h)
  have hB := fun q (h : q ∈ rows.drop m) => hrr q (List.mem_of_mem_drop h)
  have hoA : ∀ x ∈ fs, OkAgg T x := fun x hx => (hok x hx).1
  have g1 := agg_ev T K M G (rows.take m) (fun r h => (hA r h).2) (by rw [List.length_take]; omega) fs (by omega) hoA
  have g2 := agg_ev T K M G (rows.drop m) (fun r h => (hB r h).2) (by rw [List.length_drop]; omega) fs (by omega) hoA
  have g3 := agg_ev T K M G rows hfo.wide (by omega) fs (by omega) hoA
  have g4 := agg_ev T K M G [] (by simp) (by simp) fs (by omega) hoA
  have e1 : (fs.map fun x => both2V x.f0 (rd T x.f1) (oneV T (rows.take m) x) (oneV T (rows.drop m) x)) = fs.map (oneV T rows) := by
    apply List.map_congr_left
    intro x hx
    rw [both2_one hA hB (hoA x hx), List.take_append_drop]
  have e2 : (fs.map fun x => both2V x.f0 (rd T x.f1) (oneV T (rows.drop m) x) (oneV T (rows.take m) x)) = fs.map (oneV T rows) := by
    apply List.map_congr_left
    intro x hx
    rw [both2_one hB hA (hoA x hx)]
    have hp : (rows.drop m ++ rows.take m).Perm rows := by
      have := List.perm_append_comm (l₁ := rows.drop m) (l₂ := rows.take m)
      rwa [List.take_append_drop] at this
    exact oneV_perm hS hp (fun r h => by
      rcases List.mem_append.mp h with h | h
      · exact hB r h
      · exact hA r h) x (hoA x hx)
  have e3 : (fs.map fun x => both2V x.f0 (rd T x.f1) (oneV T [] x) (oneV T rows x)) = fs.map (oneV T rows) := by
    apply List.map_congr_left
    intro x hx
    rw [both2_one (by simp) hrr (hoA x hx), List.nil_append]
  have j1 := join_ev T K M G (oneV T (rows.take m)) (oneV T (rows.drop m)) fs (by omega) hoA
  have j2 := join_ev T K M G (oneV T (rows.drop m)) (oneV T (rows.take m)) fs (by omega) hoA
  have j3 := join_ev T K M G (oneV T []) (oneV T rows) fs (by omega) hoA
  rw [e1] at j1
  rw [e2] at j2
  rw [e3] at j3
  have hs := same20_ev (fs.map (oneV T rows)) (by rw [List.length_map]; omega)
  apply Ev.rounds
  simp only [thresherlaw20_AggParts.f]
  refine Ev.bind shown20_ev (Ev.bind hmade (Ev.bind hfit (Ev.bind hf' ?_)))
  simp only [hm, Int.toNat_natCast]
  refine Ev.neg hne (Ev.pos (by omega) (Ev.pos (by omega) (Ev.bind g1 (Ev.bind g2 (Ev.bind g3 (Ev.bind j1 (Ev.bind hs (Ev.bind j2 (Ev.bind hs (Ev.bind g4 (Ev.bind j3 (Ev.bind hs (Ev.pos (by trivial) (Ev.pos (by trivial) (Ev.pos (by trivial) (Ev.pos (by trivial) (Ev.succ ?_)))))))))))))))))
  simp only [thresherlaw20_AggParts.j0]
  exact (Ev.now _).eq (by simp)
end Go.Proofs.Ytapaldcdoahfeaa.Pure

-- Written by wip/tools/myprint.py: the row of AggParts, out of its plain law and its walk.
namespace Go.Proofs.Ytapaldcdoahfeaa.aggParts
open Go.ChangeShapes Go.WideShapes Go.ChangeAt Go.RowKit Go.Proofs.Ytapaldcdoahfeaa.P Go.Proofs.YtapaldcdoahfeaaW.PrintWords
set_option linter.unusedVariables false
set_option linter.unusedSimpArgs false
theorem own : ownKnob Try.prog.godebug = none := by kernel_rfl
theorem laidOut : laidOutB Try.prog = true := by kernel_rfl
set_option maxRecDepth 100000 in
theorem lifted (os : Os) (started : os.Started) (H : Type) (enc : TypeId × Value → H) :
    ReturnsInHanded {} Try.checked os 5 .any (Rows.aggPartsSpec.pre6 enc Try.prog Try.f5 Rows.aggPartsRow.domain false) (Rows.aggPartsSpec.post enc Try.prog Try.f5 false true false false) := by
  refine returnsInHanded_of_change_sized (C := Try.checked) own started (by kernel_rfl) Try.func5
    (ChangeSpec.witness6 (enc := enc) (C := Try.checked) false ⟨#[], #[.agg #[.int .u8 0, .int .u8 0, .int .u8 0, .int .u8 0, .int .u8 0, .int .u8 0, .int .u8 0, .int .u8 0, .int .u8 0, .int .u8 0, .int .u8 0, .int .u8 0], .slice none 0 0, .agg #[.slice none 0 0, .int .u8 0]], []⟩ 8 (by kernel_rfl) (by kernel_rfl) (by kernel_rfl) (by kernel_rfl)) ?_
  intro W base args ds gs before hval0 hW hcnd hsz0 _
  have hval : ∀ (j : Nat) t v, Try.f5.params[j]? = some t → args[j]? = some v → Value.okWide Try.prog W .any base t v := hval0
  have hW' := hW
  obtain ⟨p, q, hA0, hV, rfl, hfz, hnd⟩ := hW
  have hA : DataW.TrodAll enc Try.prog W 0 (fun _ => true) true Try.f5.params.toList args.toList ds p := hA0
  rw [Try.params5] at hA hval
  obtain ⟨v0, vs0, d0, ds0, p0, q0, hargs, rfl, rfl, h0, r0⟩ := trodAll_cons hA
  obtain ⟨v1, vs1, d1, ds1, p1, q1, rfl, rfl, rfl, h1, r1⟩ := trodAll_cons r0
  obtain ⟨v2, vs2, d2, ds2, p2, q2, rfl, rfl, rfl, h2, r2⟩ := trodAll_cons r1
  obtain ⟨rfl, rfl, rfl⟩ := trodAll_nil r2
  obtain rfl : args = #[v0, v1, v2] := by cases args; simp_all
  obtain ⟨rfl, rfl⟩ := trodVars_none hV
  have lt0 : ∀ x ∈ p0, x.block < W.heap.size := by obtain ⟨m, hm⟩ := h0; exact DataW.trod_lt m _ _ _ hm
  obtain ⟨x0, K0, g0⟩ := (op24).arg h0
  obtain ⟨cs0, rfl⟩ := okWide_agg Try.underlying24 (hval 0 24 v0 rfl rfl)
  have e0 := k24_open K0
  replace e0 := agg_of e0
  have lt1 : ∀ x ∈ p1, x.block < W.heap.size := by obtain ⟨m, hm⟩ := h1; exact DataW.trod_lt m _ _ _ hm
  obtain ⟨x1, K1, g1⟩ := ((opens_slice Try.underlying34 (by kernel_rfl) op33)).arg h1
  obtain ⟨a1, len1, cap1, rfl⟩ := okWide_slice Try.underlying34 (hval 1 34 v1 rfl rfl)
  obtain ⟨A1, c1, e1, hl1, hr1⟩ := K1
  simp [Value.cells] at e1
  obtain ⟨rfl, rfl, rfl⟩ := e1
  have lt2 : ∀ x ∈ p2, x.block < W.heap.size := by obtain ⟨m, hm⟩ := h2; exact DataW.trod_lt m _ _ _ hm
  obtain ⟨x2, K2, g2⟩ := (op49).arg h2
  obtain ⟨cs2, rfl⟩ := okWide_agg Try.underlying49 (hval 2 49 v2 rfl rfl)
  obtain ⟨A2_0, c2_0, e2, hl2_0, hr2_0⟩ := k49_open K2
  replace e2 := agg_of e2
  obtain ⟨k, hk⟩ := Pure.AggParts x0 x1 x2 g0 g1 g2
  have call : Calls Try.prog 5 #[.agg cs0, .slice a1 x1.length cap1, .agg cs2] W fun e W' => e = .returned (.bool true) ∧ Below W.heap.size W W' := by
    rw [e0, e2]
    refine (thresherlaw20_AggParts.calls k _ _ _ _ _ _ _ _ _ _ _ _ _ _ _ _ _ _ _ true W hr1 hl1 hr2_0 hl2_0 hk).mono ?_
    rintro e w' ⟨rfl, hd⟩
    exact ⟨rfl, hd⟩
  refine call.mono fun e W' ⟨he, bel⟩ => ?_
  subst he
  exact ⟨_, rfl, _, _, _, [], _, [], hW', trodAll_mk1 (shut_bool Try.underlying4 _), (trodAll_cons_mk (Below.trod laidOut (by kernel_rfl) (of_decide_eq_true (by kernel_rfl)) h0 bel lt0) (trodAll_cons_mk (Below.trod laidOut (by kernel_rfl) (of_decide_eq_true (by kernel_rfl)) h1 bel lt1) (trodAll_cons_mk (Below.trod laidOut (by kernel_rfl) (of_decide_eq_true (by kernel_rfl)) h2 bel lt2) trodAll_mk0))), rfl, bel.frame _, fun h => by cases h⟩
theorem over : Rows.aggPartsRow.holds Try.pinned (OpenSpec.ofChange Rows.aggPartsSpec) :=
  OpenClaim.holds_of_wide 5 Try.f5 rfl rfl rfl rfl rfl rfl rfl ⟨rfl, rfl, rfl, rfl, rfl⟩ rfl rfl rfl rfl rfl (by kernel_rfl) Try.func5 (by kernel_rfl)
    (of_decide_eq_true (by kernel_rfl)) (by unfold Func.isWrapper; first | (rw [if_pos (by decide +kernel)]; kernel_rfl) | (rw [if_neg (by decide +kernel)]; exact ⟨rfl, rfl⟩))
    (fun os started H enc _ => lifted os started H enc)
theorem proved : Rows.AggPartsSaid := over
#print axioms proved
end Go.Proofs.Ytapaldcdoahfeaa.aggParts
namespace Go.Proofs.Ytapaldcdoahfeaa
/-- The row, under a short name, for the claim. -/
theorem aggParts_holds : Rows.AggPartsSaid := aggParts.proved
end Go.Proofs.Ytapaldcdoahfeaa

