/- The row of AggMay. Merged: SAggMay, XBase, XMade, XOrd, XFitOk, XRVal, XShape, XVal, XRCmp, XRowOk, XAgg, XAggB, PureAggMay, RAggMay. -/
import Derived.Test.YtapaldcdoahfeaaQAggMayPx20
import Derived.Test.YtapaldcdoahfeaaQAggMayO
import Derived.Test.YtapaldcdoahfeaaQAggMayPx0
import Derived.Test.YtapaldcdoahfeaaQAggMayHBase
import Derived.Test.YtapaldcdoahfeaaQAggMayPx5
import Derived.Lib.Bytealg
import Derived.Test.YtapaldcdoahfeaaQAggMayPx7
import Derived.Test.YtapaldcdoahfeaaQAggMayPx6
import Derived.Test.YtapaldcdoahfeaaQAggMayPx4
import Derived.Test.YtapaldcdoahfeaaQAggMayPx3
import Derived.Test.YtapaldcdoahfeaaQAggMayPx8
import Derived.Test.YtapaldcdoahfeaaQAggMayHAggC
import Derived.Test.YtapaldcdoahfeaaQAggMayPx10
import Derived.Test.YtapaldcdoahfeaaQAggMayPx15
import Derived.Test.YtapaldcdoahfeaaRows
import Derived.WalkKit
import Derived.ProofKit
import Derived.OpenShut
import Derived.ShutString
import Derived.ChangeOld
import Derived.Below
import Derived.SizedLaws
-- Written by wip/tools/myprint.py: the plain statement of AggMay.
namespace Go.Proofs.Ytapaldcdoahfeaa.P
open Go.RowKit Go.Proofs.YtapaldcdoahfeaaW.PrintWords
def thresherlaw20_AggMay.PureG : Prop := ∀ (x0 : S24) (x1 : S33) (x2 : Int), gd24 x0 → gd33 x1 → (Lit.int .u8 x2).wf = true → ∃ k, thresherlaw20_AggMay.f k x0.f0.f0 x0.f0.f1 x0.f0.f2 x0.f0.f3 x0.f0.f4 x0.f0.f5 x0.f0.f6 x0.f0.f7 x0.f1 x0.f2 x0.f3 x0.f4 x1.f0 x1.f1 x2 = some true
end Go.Proofs.Ytapaldcdoahfeaa.P

/- Words of the laws about rows. -/
namespace Go.Proofs.Ytapaldcdoahfeaa.P
open Go.RowKit Go.Proofs.YtapaldcdoahfeaaW.PrintWords Go.Proofs.YtapaldcdoahfeaaW.PrintLast Go.Proofs.YtapaldcdoahfeaaW.PrintMore
set_option linter.unusedVariables false
set_option linter.unusedSimpArgs false

abbrev XV := S40
abbrev rdV (l : List XV) (i : Int) : XV := rd_T40 l i
abbrev rdR (l : List (List XV)) (i : Int) : List XV := rd_L7 l i
theorem rd_lt (l : List Int) (i : Nat) (h : i < l.length) : rd l i = l[i] := by unfold rd; simp [List.getD, h]
theorem rdV_lt (l : List XV) (i : Nat) (h : i < l.length) : rd_T40 l i = l[i] := by unfold rd_T40; simp [List.getD, h]
theorem rdV_ge (l : List XV) (i : Nat) (h : l.length ≤ i) : rd_T40 l i = ⟨0, ⟨#[]⟩⟩ := by unfold rd_T40; simp [List.getD, h]; rfl
theorem rdR_lt (l : List (List XV)) (i : Nat) (h : i < l.length) : rd_L7 l i = l[i] := by unfold rd_L7; simp [List.getD, h]

/-- A schema that may be. -/
structure Sch (T : List Int) (K M G : Int) : Prop where
  n1 : 1 ≤ T.length
  n8 : T.length ≤ 8
  ty : ∀ t ∈ T, 1 ≤ t ∧ t ≤ 3
  k1 : 1 ≤ K
  kn : K ≤ T.length
  m1 : 1 ≤ M
  m3 : M ≤ 3
  g1 : 1 ≤ G
  g8 : G ≤ 8
/-- Does a value fit a type? -/
def fitT (t : Int) (v : XV) : Bool := if t = 1 ∨ t = 2 then v.f1.toList == ([] : List UInt8) else if t = 3 then (if v.f0 = 0 then decide ((v.f1.size : Int) ≤ 60) else false) else false
def rowOkB (T : List Int) (r : List XV) : Bool := decide (T.length = r.length) && (List.range T.length).all fun (i : Nat) => fitT (rd T i) (rdV r i)
/-- The value made to fit a type. -/
def fit1 (t : Int) (v : XV) : XV := if t = 3 then ⟨0, if (v.f1.size : Int) > 60 then v.f1.extract 0 60 else v.f1⟩ else ⟨v.f0, ⟨#[]⟩⟩
def fitRow (T : List Int) (r : List XV) : List XV := (List.range' 0 T.length).map fun (i : Nat) => fit1 (rd T i) (rdV r i)
theorem bytes_eq {a b : ByteArray} (h : a.toList = b.toList) : a = b := by
  rw [ByteArray.toList_eq, ByteArray.toList_eq] at h
  exact ByteArray.ext (Array.toList_inj.mp h)
theorem XV.same {a b : XV} : (!(a.f0 == b.f0) || (!(a.f1.toList == b.f1.toList))) = true ↔ a ≠ b := by
  constructor
  · rintro h rfl
    simp at h
  · intro h
    by_cases h0 : a.f0 = b.f0
    · by_cases h1 : a.f1.toList = b.f1.toList
      · exact absurd (by cases a; cases b; simp only at h0 h1; rw [h0, bytes_eq h1]) h
      · simp [h1]
    · simp [h0]
instance : DecidableEq XV := fun a b => if h : (!(a.f0 == b.f0) || (!(a.f1.toList == b.f1.toList))) = true then isFalse (XV.same.mp h) else isTrue (Classical.byContradiction fun e => h (XV.same.mpr e))
end Go.Proofs.Ytapaldcdoahfeaa.P

/- A schema made of any numbers. -/
namespace Go.Proofs.Ytapaldcdoahfeaa.P
open Go.RowKit Go.Proofs.YtapaldcdoahfeaaW.PrintWords Go.Proofs.YtapaldcdoahfeaaW.PrintLast Go.Proofs.YtapaldcdoahfeaaW.PrintMore
set_option linter.unusedVariables false
set_option linter.unusedSimpArgs false

def U8 (x : Int) : Prop := 0 ≤ x ∧ x ≤ 255
theorem made_one {x : Int} {m : Int} (h : U8 x) (hm : 0 < m) (hm2 : m ≤ 1000) : wrap64 (1 + Int.tmod (wrap64 x) m) = 1 + x % m ∧ 1 ≤ 1 + x % m ∧ 1 + x % m ≤ m := by
  obtain ⟨h0, h1⟩ := h
  have e1 : wrap64 x = x := w64 (by omega) (by omega)
  have h2 := Int.emod_nonneg x (show m ≠ 0 by omega)
  have h3 := Int.emod_lt_of_pos x hm
  rw [e1, Int.tmod_eq_emod_of_nonneg h0]
  exact ⟨w64 (by omega) (by omega), by omega, by omega⟩
theorem made_loop (x0 x1 x2 x3 x4 x5 x6 x7 K M G : Int) (hx : ∀ x ∈ [x0, x1, x2, x3, x4, x5, x6, x7], U8 x) (n : Nat) (hn : n ≤ 8) : ∀ (d i : Nat) (T : List Int), i + d = n → T.length = i → (∀ t ∈ T, 1 ≤ t ∧ t ≤ 3) → ∃ T', Ev (fun k => thresherref04_Made.l0 k n i x0 x1 x2 x3 x4 x5 x6 x7 T K M G) (T', K, M, G) ∧ T'.length = n ∧ ∀ t ∈ T', 1 ≤ t ∧ t ≤ 3
  | 0, i, T, hi, hT, ht => by
    refine ⟨T, Ev.succ ?_, by omega, ht⟩
    simp only [thresherref04_Made.l0]
    exact Ev.neg (by omega) (Ev.now _)
  | d + 1, i, T, hi, hT, ht => by
    have hr : U8 (rd [x0, x1, x2, x3, x4, x5, x6, x7] i) := by
      rw [rd_lt _ i (by simp; omega)]
      exact hx _ (List.getElem_mem _)
    obtain ⟨e, l1, l2⟩ := made_one (m := 3) hr (by omega) (by omega)
    obtain ⟨T', h1, h2, h3⟩ := made_loop x0 x1 x2 x3 x4 x5 x6 x7 K M G hx n hn d (i + 1) (T ++ [1 + rd [x0, x1, x2, x3, x4, x5, x6, x7] i % 3]) (by omega) (by simp; omega) (by
      intro t h
      rcases List.mem_append.mp h with h | h
      · exact ht t h
      · rw [List.mem_singleton.mp h]; exact ⟨l1, l2⟩)
    refine ⟨T', Ev.succ ?_, h2, h3⟩
    simp only [thresherref04_Made.l0]
    rw [e]
    clear e
    simp (disch := omega) only [w64]
    exact Ev.pos (by omega) (Ev.pos (by omega) (Ev.pos (by omega) (Ev.pos (by omega) h1)))
theorem made_ev (x0 x1 x2 x3 x4 x5 x6 x7 a b c d : Int) (h0 : U8 x0) (h1 : U8 x1) (h2 : U8 x2) (h3 : U8 x3) (h4 : U8 x4) (h5 : U8 x5) (h6 : U8 x6) (h7 : U8 x7) (ha : U8 a) (hb : U8 b) (hc : U8 c) (hd : U8 d) : ∃ T K M G, Ev (fun k => thresherref04_Made.f k x0 x1 x2 x3 x4 x5 x6 x7 a b c d) (T, K, M, G) ∧ Sch T K M G := by
  obtain ⟨ea, a1, a2⟩ := made_one (m := 8) ha (by omega) (by omega)
  obtain ⟨n, hn⟩ : ∃ n : Nat, 1 + a % 8 = n := ⟨(1 + a % 8).toNat, by omega⟩
  obtain ⟨eb, b1, b2⟩ := made_one (m := 1 + a % 8) hb (by omega) (by omega)
  obtain ⟨ec, c1, c2⟩ := made_one (m := 3) hc (by omega) (by omega)
  obtain ⟨ed, d1, d2⟩ := made_one (m := 8) hd (by omega) (by omega)
  simp only [thresherref04_Made.f, ea, eb, ec, ed]
  clear ea eb ec ed
  rw [hn] at b1 b2 a1 a2 ⊢
  obtain ⟨T, e, l, t⟩ := made_loop x0 x1 x2 x3 x4 x5 x6 x7 (1 + b % n) (1 + c % 3) (1 + d % 8) (by
    intro x hx
    simp only [List.mem_cons, List.not_mem_nil, or_false] at hx
    rcases hx with rfl | rfl | rfl | rfl | rfl | rfl | rfl | rfl <;> assumption) n (by omega) n 0 [] (by omega) rfl (by simp)
  exact ⟨T, _, _, _, Ev.neg (by omega) e, ⟨by omega, by omega, t, b1, by omega, c1, c2, d1, d2⟩⟩
end Go.Proofs.Ytapaldcdoahfeaa.P

/- The order of values and of rows. -/
namespace Go.Proofs.Ytapaldcdoahfeaa.P
open Go.RowKit Go.Proofs.YtapaldcdoahfeaaW.PrintWords Go.Proofs.YtapaldcdoahfeaaW.PrintLast Go.Proofs.YtapaldcdoahfeaaW.PrintMore
set_option linter.unusedVariables false
set_option linter.unusedSimpArgs false

theorem u8_tri (a b : UInt8) : (a < b ∧ ¬ b < a) ∨ (b < a ∧ ¬ a < b) ∨ (a = b ∧ ¬ a < b ∧ ¬ b < a) := by
  rcases Nat.lt_trichotomy a.toNat b.toNat with h | h | h
  · exact Or.inl ⟨UInt8.lt_iff_toNat_lt.mpr h, fun h2 => by have := UInt8.lt_iff_toNat_lt.mp h2; omega⟩
  · have e : a = b := UInt8.toNat_inj.mp h
    subst e
    exact Or.inr (Or.inr ⟨rfl, fun h2 => by have := UInt8.lt_iff_toNat_lt.mp h2; omega, fun h2 => by have := UInt8.lt_iff_toNat_lt.mp h2; omega⟩)
  · exact Or.inr (Or.inl ⟨UInt8.lt_iff_toNat_lt.mpr h, fun h2 => by have := UInt8.lt_iff_toNat_lt.mp h2; omega⟩)
theorem cb_anti : ∀ a b : List UInt8, Lib.compareBytes b a = - Lib.compareBytes a b
  | [], [] => by simp [Lib.compareBytes]
  | [], _ :: _ => by simp [Lib.compareBytes]
  | _ :: _, [] => by simp [Lib.compareBytes]
  | a :: xs, b :: ys => by
    unfold Lib.compareBytes
    rcases u8_tri a b with ⟨h1, h2⟩ | ⟨h1, h2⟩ | ⟨h0, h1, h2⟩
    · rw [if_neg h2, if_pos h1, if_pos h1]; rfl
    · rw [if_pos h1, if_neg h2, if_pos h1]
    · rw [if_neg h2, if_neg h1, if_neg h1, if_neg h2]; exact cb_anti xs ys
/-- A value's number is one of 64 bits. -/
def GV (v : XV) : Prop := -9223372036854775808 ≤ v.f0 ∧ v.f0 ≤ 9223372036854775807
def sgn (x y : Int) : Int := if x < y then -1 else if x > y then 1 else 0
def un (x : Int) : Int := x % 18446744073709551616
def cmpV (t : Int) (a b : XV) : Int := if fitT t a = true ∧ fitT t b = true then (if t = 3 then Lib.compareBytes a.f1.data.toList b.f1.data.toList else if t = 2 then sgn (un a.f0) (un b.f0) else sgn a.f0 b.f0) else 0
theorem cmpV_anti (t : Int) (a b : XV) : cmpV t b a = - cmpV t a b := by
  unfold cmpV
  by_cases h : fitT t a = true ∧ fitT t b = true
  · rw [if_pos h, if_pos h.symm]
    split
    · exact cb_anti _ _
    · split <;> (unfold sgn; split <;> split <;> (try split) <;> omega)
  · rw [if_neg h, if_neg (fun q => h q.symm)]
    rfl
def cmpC (t : Int) (a b : XV) : Int := if t = 3 then Lib.compareBytes a.f1.data.toList b.f1.data.toList else if t = 2 then sgn (un a.f0) (un b.f0) else sgn a.f0 b.f0
/-- Rows by m of their values from i on. -/
def cmpFrom (T : List Int) (a b : List XV) : Nat → Nat → Int
  | 0, _ => 0
  | m + 1, i => if cmpV (rd T i) (rdV a i) (rdV b i) = 0 then cmpFrom T a b m (i + 1) else cmpV (rd T i) (rdV a i) (rdV b i)
def cmpRow (T : List Int) (K : Int) (a b : List XV) : Int := cmpFrom T a b (min (min (min K.toNat T.length) a.length) b.length) 0
theorem cmpFrom_anti (T : List Int) (a b : List XV) : ∀ m i, cmpFrom T b a m i = - cmpFrom T a b m i
  | 0, i => by simp [cmpFrom]
  | m + 1, i => by
    unfold cmpFrom
    rw [cmpV_anti _ (rdV a i) (rdV b i), cmpFrom_anti T a b m (i + 1)]
    by_cases h : cmpV (rd T i) (rdV a i) (rdV b i) = 0
    · rw [if_pos (by omega), if_pos h]
    · rw [if_neg (by omega), if_neg h]
def FitAt (T : List Int) (a : List XV) (m i : Nat) : Prop := ∀ j : Nat, i ≤ j → j < i + m → fitT (rd T j) (rdV a j) = true ∧ GV (rdV a j)
end Go.Proofs.Ytapaldcdoahfeaa.P

/- A row made to fit fits. -/
namespace Go.Proofs.Ytapaldcdoahfeaa.P
open Go.RowKit Go.Proofs.YtapaldcdoahfeaaW.PrintWords Go.Proofs.YtapaldcdoahfeaaW.PrintLast Go.Proofs.YtapaldcdoahfeaaW.PrintMore
set_option linter.unusedVariables false
set_option linter.unusedSimpArgs false

theorem rdV_take (r : List XV) (n j : Nat) (h : j < n) : rdV (r.take n) j = rdV r j := by
  show rd_T40 _ _ = rd_T40 _ _
  by_cases hi : j < r.length
  · rw [rdV_lt _ j (by rw [List.length_take]; omega), rdV_lt r j hi, List.getElem_take]
  · rw [rdV_ge _ j (by rw [List.length_take]; omega), rdV_ge r j (by omega)]
end Go.Proofs.Ytapaldcdoahfeaa.P

/- The document's Compare of values tells the same order. -/
namespace Go.Proofs.Ytapaldcdoahfeaa.P
open Go.RowKit Go.Proofs.YtapaldcdoahfeaaW.PrintWords Go.Proofs.YtapaldcdoahfeaaW.PrintLast Go.Proofs.YtapaldcdoahfeaaW.PrintMore
set_option linter.unusedVariables false
set_option linter.unusedSimpArgs false

/-- Values as Go has them. -/
def GR (r : List XV) : Prop := ∀ v ∈ r, GV v ∧ v.f1.size ≤ 9223372036854775807
theorem GR.rdV {r : List XV} (h : GR r) (i : Nat) : GV (rdV r i) ∧ (P.rdV r i).f1.size ≤ 9223372036854775807 := by
  by_cases hi : i < r.length
  · show GV (rd_T40 r i) ∧ (rd_T40 r i).f1.size ≤ _
    rw [rdV_lt r i hi]
    exact h _ (List.getElem_mem hi)
  · show GV (rd_T40 r i) ∧ (rd_T40 r i).f1.size ≤ _
    rw [rdV_ge r i (by omega)]
    exact ⟨⟨by simp, by simp⟩, by decide⟩
end Go.Proofs.Ytapaldcdoahfeaa.P

/- A schema of a shape. -/
namespace Go.Proofs.Ytapaldcdoahfeaa.P
open Go.RowKit Go.Proofs.YtapaldcdoahfeaaW.PrintWords Go.Proofs.YtapaldcdoahfeaaW.PrintLast Go.Proofs.YtapaldcdoahfeaaW.PrintMore
theorem u8_of {x : Int} (h : (Lit.int .u8 x).wf = true) : U8 x := wf_u8 h
theorem shape_ev {x : S24} (h : gd24 x) : ∃ T K M G, Ev (fun k => thresherref04_Made.f k x.f0.f0 x.f0.f1 x.f0.f2 x.f0.f3 x.f0.f4 x.f0.f5 x.f0.f6 x.f0.f7 x.f1 x.f2 x.f3 x.f4) (T, K, M, G) ∧ Sch T K M G := by
  obtain ⟨⟨h0, h1, h2, h3, h4, h5, h6, h7⟩, ha, hb, hc, hd⟩ := h
  exact made_ev _ _ _ _ _ _ _ _ _ _ _ _ (u8_of h0) (u8_of h1) (u8_of h2) (u8_of h3) (u8_of h4) (u8_of h5) (u8_of h6) (u8_of h7) (u8_of ha) (u8_of hb) (u8_of hc) (u8_of hd)
end Go.Proofs.Ytapaldcdoahfeaa.P

/- value.Compare tells the order of values. -/
namespace Go.Proofs.Ytapaldcdoahfeaa.P
open Go.RowKit Go.Proofs.YtapaldcdoahfeaaW.PrintWords Go.Proofs.YtapaldcdoahfeaaW.PrintLast Go.Proofs.YtapaldcdoahfeaaW.PrintMore
set_option linter.unusedVariables false
set_option linter.unusedSimpArgs false

end Go.Proofs.Ytapaldcdoahfeaa.P

/- The document's Compare of rows tells the same order. -/
namespace Go.Proofs.Ytapaldcdoahfeaa.P
open Go.RowKit Go.Proofs.YtapaldcdoahfeaaW.PrintWords Go.Proofs.YtapaldcdoahfeaaW.PrintLast Go.Proofs.YtapaldcdoahfeaaW.PrintMore
set_option linter.unusedVariables false
set_option linter.unusedSimpArgs false

end Go.Proofs.Ytapaldcdoahfeaa.P

/- Rows that fit, as far as they go: their order. -/
namespace Go.Proofs.Ytapaldcdoahfeaa.P
open Go.RowKit Go.Proofs.YtapaldcdoahfeaaW.PrintWords Go.Proofs.YtapaldcdoahfeaaW.PrintLast Go.Proofs.YtapaldcdoahfeaaW.PrintMore
set_option linter.unusedVariables false
set_option linter.unusedSimpArgs false

structure RowOk (T : List Int) (a : List XV) : Prop where
  len : a.length ≤ T.length
  fit : FitAt T a a.length 0
  gr : GR a
theorem FitAt.mono {T : List Int} {a : List XV} {m m' : Nat} (h : FitAt T a m 0) (hm : m' ≤ m) : FitAt T a m' 0 := fun j h1 h2 => h j h1 (by omega)
theorem RowOk.take {T : List Int} {a : List XV} (h : RowOk T a) (n : Nat) : RowOk T (a.take n) := by
  have hl : (a.take n).length ≤ a.length := by rw [List.length_take]; omega
  refine ⟨by have := h.len; omega, fun j h1 h2 => ?_, fun v hv => h.gr v (List.mem_of_mem_take hv)⟩
  rw [List.length_take] at h2
  rw [rdV_take a n j (by omega)]
  exact h.fit j h1 (by omega)
theorem cmpRow_anti (T : List Int) (K : Int) (a b : List XV) : cmpRow T K b a = - cmpRow T K a b := by
  unfold cmpRow
  rw [cmpFrom_anti, show min (min (min K.toNat T.length) b.length) a.length = min (min (min K.toNat T.length) a.length) b.length by omega]
theorem cmpRow_self (T : List Int) (K : Int) (a : List XV) : cmpRow T K a a = 0 := by have := cmpRow_anti T K a a; omega
/-- A row that fits, and has all its key. -/
structure Full (T : List Int) (K : Int) (a : List XV) : Prop where
  ok : RowOk T a
  key : min K.toNat T.length ≤ a.length
/-- Rows in order. -/
def InOrd (T : List Int) (K : Int) (l : List (List XV)) : Prop := l.Pairwise (fun a b => cmpRow T K a b ≤ 0)
theorem InOrd.at {T : List Int} {K : Int} {l : List (List XV)} (h : InOrd T K l) {i j : Nat} (hij : i ≤ j) (hj : j < l.length) : cmpRow T K (rdR l i) (rdR l j) ≤ 0 := by
  rw [show rdR l i = l[i] from rdR_lt l i (by omega), show rdR l j = l[j] from rdR_lt l j hj]
  rcases Nat.eq_or_lt_of_le hij with e | h1
  · subst e; rw [cmpRow_self]; omega
  · exact List.pairwise_iff_getElem.mp h i j (by omega) hj h1
end Go.Proofs.Ytapaldcdoahfeaa.P

/- The aggregates, plain: what agg.Rows tells, and that the order of rows does not matter. -/
namespace Go.Proofs.Ytapaldcdoahfeaa.P
open Go.RowKit Go.Proofs.YtapaldcdoahfeaaW.PrintWords Go.Proofs.YtapaldcdoahfeaaW.PrintLast Go.Proofs.YtapaldcdoahfeaaW.PrintMore
set_option linter.unusedVariables false
set_option linter.unusedSimpArgs false

abbrev XC := S42
abbrev XG := S33
/-- The one that q puts first; the first one, if they are the same. -/
def pickV (q : XV → XV → Int) (a b : XV) : XV := if q b a < 0 then b else a
def plusV (a b : XV) : XV := ⟨wrap64 (a.f0 + b.f0), ⟨#[]⟩⟩
def joinV (kd t : Int) (a b : XV) : XV := if kd ≤ 2 then plusV a b else if kd = 3 then pickV (cmpV t) a b else pickV (fun x y => cmpV t y x) a b
def bothV (kd t : Int) (c : XC) (v : XV) : XC := if c.f0 = true then ⟨true, joinV kd t c.f1 v⟩ else ⟨true, v⟩
def foldV (kd t col : Int) (c : XC) (rows : List (List XV)) : XC := rows.foldl (fun c r => bothV kd t c (aggOf kd (rd_T40 r col))) c
def oneV (T : List Int) (rows : List (List XV)) (x : XG) : XC := foldV x.f0 (rd T x.f1) x.f1 (aggFirst x.f0) rows
def OkAgg (T : List Int) (x : XG) : Prop := 1 ≤ x.f0 ∧ x.f0 ≤ 4 ∧ 0 ≤ x.f1 ∧ x.f1 < (T.length : Int)

theorem rdG_lt (l : List XG) (i : Nat) (h : i < l.length) : rd_T33 l (i : Int) = l[i] := by unfold rd_T33; simp [List.getD, h]
end Go.Proofs.Ytapaldcdoahfeaa.P

/- thresherref20: Same, Fit; the example; the schema of a shape: plain. -/
namespace Go.Proofs.Ytapaldcdoahfeaa.P
open Go.RowKit Go.Proofs.YtapaldcdoahfeaaW.PrintWords Go.Proofs.YtapaldcdoahfeaaW.PrintLast Go.Proofs.YtapaldcdoahfeaaW.PrintMore
set_option linter.unusedVariables false
set_option linter.unusedSimpArgs false
theorem shown20_ev : Ev (fun k => thresherlaw20_shown.f k) true := Ev.of thresherlaw20_shown.mono (k := 12) (by kernel_rfl)
theorem made20_ev {x : S24} (h : gd24 x) : ∃ T K M G, Ev (fun k => thresherlaw20_made.f k x.f0.f0 x.f0.f1 x.f0.f2 x.f0.f3 x.f0.f4 x.f0.f5 x.f0.f6 x.f0.f7 x.f1 x.f2 x.f3 x.f4) (T, K, M, G) ∧ Sch T K M G := by
  obtain ⟨T, K, M, G, h1, h2⟩ := shape_ev h
  exact ⟨T, K, M, G, Ev.bind h1 (Ev.now _), h2⟩
end Go.Proofs.Ytapaldcdoahfeaa.P

/- Sums of texts, counts of a column, columns that are none, and more than sixteen, are told: the plain law. -/
namespace Go.Proofs.Ytapaldcdoahfeaa.Pure
open Go.RowKit Go.Proofs.Ytapaldcdoahfeaa.P Go.Proofs.YtapaldcdoahfeaaW.PrintWords Go.Proofs.YtapaldcdoahfeaaW.PrintLast
set_option linter.unusedVariables false
set_option linter.unusedSectionVars false
/-- Whether an aggregate may be. -/
def mayA (T : List Int) (x : XG) : Bool := if 1 ≤ x.f0 ∧ x.f0 ≤ 4 ∧ 0 ≤ x.f1 ∧ x.f1 < (T.length : Int) then (if x.f0 = 1 then decide (x.f1 = 0) else if x.f0 = 2 then !(rd T x.f1 == 3) else true) else false
section
variable (T : List Int) (K M G : Int) (l : List XG) (hl : l.length ≤ 1000)
include hl
theorem may_j3 (i : Nat) (hi : i < l.length) {R : Bool} (b : Bool) (next : b = false → Ev (fun k => agg_May.l0 k l l (l.length : Int) ((i : Int) + 1) T K M G) R) (hR : b = true → R = false) : Ev (fun k => agg_May.j3 k l l (l.length : Int) i b T K M G) R := by
  refine Ev.succ ?_
  simp only [agg_May.j3]
  simp (disch := omega) only [w64]
  cases b with
  | true => rw [hR rfl]; exact Ev.pos rfl (Ev.now _)
  | false => exact Ev.neg (by simp) (next rfl)
theorem may_loop : ∀ (d i : Nat), i + d = l.length → Ev (fun k => agg_May.l0 k l l (l.length : Int) i T K M G) ((l.drop i).all (mayA T) && decide (l.length ≤ 16))
  | 0, i, hi => by
    refine Ev.succ ?_
    simp only [agg_May.l0]
    rw [List.drop_of_length_le (by omega)]
    refine Ev.neg (by omega) ((Ev.now _).eq ?_)
    simp
    omega
  | d + 1, i, hi => by
    have h : i < l.length := by omega
    refine Ev.succ ?_
    simp only [agg_May.l0]
    rw [List.drop_eq_getElem_cons h, List.all_cons]
    have ih := may_loop d (i + 1) (by omega)
    obtain ⟨rest, hrest⟩ : ∃ rest, rest = ((l.drop (i + 1)).all (mayA T) && decide (l.length ≤ 16)) := ⟨_, rfl⟩
    rw [Bool.and_assoc, ← hrest]
    rw [← hrest] at ih
    clear hrest
    rw [rdG_lt l i h]
    obtain ⟨x, hx⟩ : ∃ x, x = l[i] := ⟨_, rfl⟩
    rw [← hx]
    clear hx
    refine Ev.pos (by omega) (Ev.pos (by omega) (Ev.pos (by omega) ?_))
    have bad : ∀ (R : Bool), mayA T x = false → R = (mayA T x && rest) → Ev (fun k => agg_May.j1 k l l (l.length : Int) i true T K M G x.f0 x.f1) R := fun R h1 h2 => by
      rw [h2, h1]
      refine Ev.succ ?_
      simp only [agg_May.j1]
      exact Ev.pos trivial (Ev.now _)
    by_cases c1 : x.f0 < 1
    · exact Ev.pos c1 (bad _ (by unfold mayA; rw [if_neg (by omega)]) rfl)
    refine Ev.neg c1 ?_
    by_cases c2 : x.f0 > 4
    · exact Ev.pos c2 (bad _ (by unfold mayA; rw [if_neg (by omega)]) rfl)
    refine Ev.neg c2 ?_
    by_cases c3 : x.f1 < 0
    · exact Ev.pos c3 (bad _ (by unfold mayA; rw [if_neg (by omega)]) rfl)
    refine Ev.neg c3 ?_
    by_cases c4 : x.f1 ≥ (T.length : Int)
    · rw [decide_eq_true c4]
      exact bad _ (by unfold mayA; rw [if_neg (by omega)]) rfl
    rw [decide_eq_false c4]
    refine Ev.succ ?_
    simp only [agg_May.j1]
    refine Ev.neg (by simp) ?_
    by_cases d1 : x.f0 = 1
    · refine Ev.pos d1 (Ev.succ ?_)
      simp only [agg_May.j2]
      by_cases d2 : x.f1 > 0
      · rw [decide_eq_true d2]
        refine Ev.pos rfl ?_
        exact may_j3 T K M G l hl i h true (fun h => by simp at h) (fun _ => by unfold mayA; rw [if_pos (by omega), if_pos d1, decide_eq_false (by omega)]; rfl)
      · rw [decide_eq_false d2]
        refine Ev.neg (by simp) (Ev.neg (by omega) ?_)
        refine may_j3 T K M G l hl i h false (fun _ => ?_) (fun h => by simp at h)
        refine ih.eq ?_
        unfold mayA
        rw [if_pos (by omega), if_pos d1, decide_eq_true (by omega), Bool.true_and]
    · refine Ev.neg d1 (Ev.succ ?_)
      simp only [agg_May.j2]
      refine Ev.neg (by simp) ?_
      by_cases d2 : x.f0 = 2
      · refine Ev.pos d2 (Ev.pos (by omega) (Ev.pos (by omega) ?_))
        refine may_j3 T K M G l hl i h _ (fun e => ?_) (fun e => ?_)
        · refine ih.eq ?_
          unfold mayA
          rw [if_pos (by omega), if_neg d1, if_pos d2, e]
          rfl
        · unfold mayA
          rw [if_pos (by omega), if_neg d1, if_pos d2, e]
          rfl
      · refine Ev.neg d2 ?_
        refine may_j3 T K M G l hl i h false (fun _ => ?_) (fun h => by simp at h)
        refine ih.eq ?_
        unfold mayA
        rw [if_pos (by omega), if_neg d1, if_neg d2, Bool.true_and]
theorem may_ev : Ev (fun k => agg_May.f k T K M G l) (l.all (mayA T) && decide (l.length ≤ 16)) := by
  simp only [agg_May.f]
  have := may_loop T K M G l hl l.length 0 (by omega)
  rwa [List.drop_zero] at this
end
section
variable (T : List Int) (K M G : Int) (hT : 1 ≤ T.length) (x : XG) (kn : Bool) (hkn : kn = mayA T x)
include hT hkn
theorem many_loop (n : Nat) (hn : n ≤ 20) : ∀ (d i : Nat), i + d = n → Ev (fun k => thresherlaw20_AggMay.l0 k true kn n (List.replicate i (⟨1, 0⟩ : XG)) i x.f0 x.f1 T K M G) true
  | 0, i, hi => by
    obtain rfl : i = n := by omega
    have e1 : (List.replicate i (⟨1, 0⟩ : XG)).all (mayA T) = true := by
      rw [List.all_eq_true]
      intro y hy
      rw [(List.mem_replicate.mp hy).2]
      unfold mayA
      rw [if_pos (by simp; omega), if_pos rfl]
      rfl
    have m1 := may_ev T K M G [x] (by simp)
    have m2 := may_ev T K M G (List.replicate i (⟨1, 0⟩ : XG)) (by rw [List.length_replicate]; omega)
    have m3 := may_ev T K M G (List.replicate i (⟨1, 0⟩ : XG) ++ [x]) (by rw [List.length_append, List.length_replicate]; simp; omega)
    rw [e1, List.length_replicate, Bool.true_and] at m2
    rw [List.all_append, e1, List.length_append, List.length_replicate, Bool.true_and] at m3
    refine Ev.succ ?_
    simp only [thresherlaw20_AggMay.l0]
    refine Ev.neg (by omega) (Ev.pos trivial (Ev.bind m1 (Ev.pos (by rw [hkn]; simp) (Ev.bind m2 (Ev.pos (by simp; omega) (Ev.pos (by rw [List.length_replicate]; omega) (Ev.bind m3 ?_)))))))
    by_cases c : (i : Int) < 16
    · refine Ev.pos c ((Ev.now _).eq ?_)
      rw [decide_eq_true (show i + [x].length ≤ 16 by simp; omega), hkn]
      simp
    · refine Ev.neg c ((Ev.now _).eq ?_)
      rw [decide_eq_false (show ¬ i + [x].length ≤ 16 by simp; omega)]
      simp
  | d + 1, i, hi => by
    refine Ev.succ ?_
    simp only [thresherlaw20_AggMay.l0]
    simp (disch := omega) only [w64]
    refine Ev.pos (by omega) (Ev.pos (by rw [List.length_replicate]; omega) ?_)
    have := many_loop n hn d (i + 1) (by omega)
    rwa [List.replicate_succ'] at this
theorem j1_ev (a : Int) (ha : U8 a) : Ev (fun k => thresherlaw20_AggMay.j1 k a true kn x.f0 x.f1 T K M G) true := by
  have h1 := (made_one ha (show (0 : Int) < 21 by omega) (by omega)).1
  have e : Int.tmod (wrap64 a) 21 = a % 21 := by
    have h := ha
    unfold U8 at h
    rw [w64 (by omega) (by omega), Int.tmod_eq_emod_of_nonneg h.1]
  clear h1
  refine Ev.succ ?_
  simp only [thresherlaw20_AggMay.j1]
  rw [e]
  clear e
  have h := ha
  unfold U8 at h
  obtain ⟨n, hn⟩ : ∃ n : Nat, a % 21 = n := ⟨(a % 21).toNat, by omega⟩
  rw [hn]
  exact many_loop T K M G hT x kn hkn n (by omega) n 0 (by omega)
end
theorem AggMay : thresherlaw20_AggMay.PureG := by
  intro s x a hs hx ha
  obtain ⟨T, K, M, G, hmade, hS⟩ := made20_ev hs
  have n1 := hS.n1
  have ua := u8_of ha
  apply Ev.rounds
  simp only [thresherlaw20_AggMay.f]
  refine Ev.bind shown20_ev (Ev.bind hmade ?_)
  have bad : mayA T x = false → Ev (fun k => thresherlaw20_AggMay.j0 k a true false x.f0 x.f1 T K M G) true := fun h => by
    refine Ev.succ ?_
    simp only [thresherlaw20_AggMay.j0]
    exact Ev.neg (by simp) (j1_ev T K M G n1 x false h.symm a ua)
  by_cases c1 : x.f0 ≥ 1
  case neg => exact Ev.neg c1 (bad (by unfold mayA; rw [if_neg (by omega)]))
  refine Ev.pos c1 ?_
  by_cases c2 : x.f0 ≤ 4
  case neg => exact Ev.neg c2 (bad (by unfold mayA; rw [if_neg (by omega)]))
  refine Ev.pos c2 ?_
  by_cases c3 : x.f1 ≥ 0
  case neg => exact Ev.neg c3 (bad (by unfold mayA; rw [if_neg (by omega)]))
  refine Ev.pos c3 ?_
  by_cases c4 : x.f1 < (T.length : Int)
  case neg => rw [decide_eq_false c4]; exact bad (by unfold mayA; rw [if_neg (by omega)])
  rw [decide_eq_true c4]
  refine Ev.succ ?_
  simp only [thresherlaw20_AggMay.j0]
  refine Ev.pos trivial ?_
  by_cases d1 : x.f0 = 1
  · refine Ev.pos d1 ?_
    by_cases d2 : x.f1 > 0
    · exact Ev.pos d2 (j1_ev T K M G n1 x false (by unfold mayA; rw [if_pos (by omega), if_pos d1, decide_eq_false (by omega)]) a ua)
    · refine Ev.neg d2 (Ev.neg (by omega) ?_)
      exact j1_ev T K M G n1 x _ (by unfold mayA; rw [if_pos (by omega), if_pos d1, decide_eq_true (by omega)]; rfl) a ua
  · refine Ev.neg d1 ?_
    by_cases d2 : x.f0 = 2
    · exact Ev.pos d2 (Ev.pos (by omega) (Ev.pos c4 (j1_ev T K M G n1 x _ (by unfold mayA; rw [if_pos (by omega), if_neg d1, if_pos d2]) a ua)))
    · exact Ev.neg d2 (j1_ev T K M G n1 x _ (by unfold mayA; rw [if_pos (by omega), if_neg d1, if_neg d2]; rfl) a ua)
end Go.Proofs.Ytapaldcdoahfeaa.Pure

-- Written by wip/tools/myprint.py: the row of AggMay, out of its plain law and its walk.
namespace Go.Proofs.Ytapaldcdoahfeaa.aggMay
open Go.ChangeShapes Go.WideShapes Go.ChangeAt Go.RowKit Go.Proofs.Ytapaldcdoahfeaa.P Go.Proofs.YtapaldcdoahfeaaW.PrintWords
set_option linter.unusedVariables false
set_option linter.unusedSimpArgs false
theorem own : ownKnob Try.prog.godebug = none := by kernel_rfl
theorem laidOut : laidOutB Try.prog = true := by kernel_rfl
set_option maxRecDepth 100000 in
theorem lifted (os : Os) (started : os.Started) (H : Type) (enc : TypeId × Value → H) :
    ReturnsInHanded {} Try.checked os 7 .any (Rows.aggMaySpec.pre6 enc Try.prog Try.f7 Rows.aggMayRow.domain false) (Rows.aggMaySpec.post enc Try.prog Try.f7 false true false false) := by
  refine returnsInHanded_of_change_sized (C := Try.checked) own started (by kernel_rfl) Try.func7
    (ChangeSpec.witness6 (enc := enc) (C := Try.checked) false ⟨#[], #[.agg #[.int .u8 0, .int .u8 0, .int .u8 0, .int .u8 0, .int .u8 0, .int .u8 0, .int .u8 0, .int .u8 0, .int .u8 0, .int .u8 0, .int .u8 0, .int .u8 0], .agg #[.int .i64 0, .int .i64 0], .int .u8 0], []⟩ 8 (by kernel_rfl) (by kernel_rfl) (by kernel_rfl) (by kernel_rfl)) ?_
  intro W base args ds gs before hval0 hW hcnd hsz0 _
  have hval : ∀ (j : Nat) t v, Try.f7.params[j]? = some t → args[j]? = some v → Value.okWide Try.prog W .any base t v := hval0
  have hW' := hW
  obtain ⟨p, q, hA0, hV, rfl, hfz, hnd⟩ := hW
  have hA : DataW.TrodAll enc Try.prog W 0 (fun _ => true) true Try.f7.params.toList args.toList ds p := hA0
  rw [Try.params7] at hA hval
  obtain ⟨v0, vs0, d0, ds0, p0, q0, hargs, rfl, rfl, h0, r0⟩ := trodAll_cons hA
  obtain ⟨v1, vs1, d1, ds1, p1, q1, rfl, rfl, rfl, h1, r1⟩ := trodAll_cons r0
  obtain ⟨v2, vs2, d2, ds2, p2, q2, rfl, rfl, rfl, h2, r2⟩ := trodAll_cons r1
  obtain ⟨rfl, rfl, rfl⟩ := trodAll_nil r2
  obtain rfl : args = #[v0, v1, v2] := by cases args; simp_all
  obtain ⟨rfl, rfl⟩ := trodVars_none hV
  have lt0 : ∀ x ∈ p0, x.block < W.heap.size := by obtain ⟨m, hm⟩ := h0; exact DataW.trod_lt m _ _ _ hm
  obtain ⟨x0, K0, g0⟩ := (op24).arg h0
  obtain ⟨cs0, rfl⟩ := okWide_agg Try.underlying24 (hval 0 24 v0 rfl rfl)
  have e0 := k24_open K0
  replace e0 := agg_of e0
  have lt1 : ∀ x ∈ p1, x.block < W.heap.size := by obtain ⟨m, hm⟩ := h1; exact DataW.trod_lt m _ _ _ hm
  obtain ⟨x1, K1, g1⟩ := (op33).arg h1
  obtain ⟨cs1, rfl⟩ := okWide_agg Try.underlying33 (hval 1 33 v1 rfl rfl)
  have e1 := k33_open K1
  replace e1 := agg_of e1
  have lt2 : ∀ x ∈ p2, x.block < W.heap.size := by obtain ⟨m, hm⟩ := h2; exact DataW.trod_lt m _ _ _ hm
  obtain ⟨x2, K2, g2⟩ := ((opens_int Try.underlying5)).arg h2
  obtain ⟨b2, rfl⟩ := okWide_int Try.underlying5 (hval 2 5 v2 rfl rfl)
  have e2 : b2 = x2 := by simpa [Value.cells, Kd.int, Kd.scalar] using K2
  subst e2
  obtain ⟨k, hk⟩ := Pure.AggMay x0 x1 b2 g0 g1 g2
  have call : Calls Try.prog 7 #[.agg cs0, .agg cs1, .int .u8 b2] W fun e W' => e = .returned (.bool true) ∧ Below W.heap.size W W' := by
    rw [e0, e1]
    refine (thresherlaw20_AggMay.calls k _ _ _ _ _ _ _ _ _ _ _ _ _ _ _ true W hk).mono ?_
    rintro e w' ⟨rfl, hd⟩
    exact ⟨rfl, hd⟩
  refine call.mono fun e W' ⟨he, bel⟩ => ?_
  subst he
  exact ⟨_, rfl, _, _, _, [], _, [], hW', trodAll_mk1 (shut_bool Try.underlying4 _), (trodAll_cons_mk (Below.trod laidOut (by kernel_rfl) (of_decide_eq_true (by kernel_rfl)) h0 bel lt0) (trodAll_cons_mk (Below.trod laidOut (by kernel_rfl) (of_decide_eq_true (by kernel_rfl)) h1 bel lt1) (trodAll_cons_mk (Below.trod laidOut (by kernel_rfl) (of_decide_eq_true (by kernel_rfl)) h2 bel lt2) trodAll_mk0))), rfl, bel.frame _, fun h => by cases h⟩
theorem over : Rows.aggMayRow.holds Try.pinned (OpenSpec.ofChange Rows.aggMaySpec) :=
  OpenClaim.holds_of_wide 7 Try.f7 rfl rfl rfl rfl rfl rfl rfl ⟨rfl, rfl, rfl, rfl, rfl⟩ rfl rfl rfl rfl rfl (by kernel_rfl) Try.func7 (by kernel_rfl)
    (of_decide_eq_true (by kernel_rfl)) (by unfold Func.isWrapper; first | (rw [if_pos (by decide +kernel)]; kernel_rfl) | (rw [if_neg (by decide +kernel)]; exact ⟨rfl, rfl⟩))
    (fun os started H enc _ => lifted os started H enc)
theorem proved : Rows.AggMaySaid := over
#print axioms proved
end Go.Proofs.Ytapaldcdoahfeaa.aggMay
namespace Go.Proofs.Ytapaldcdoahfeaa
/-- The row, under a short name, for the claim. -/
theorem aggMay_holds : Rows.AggMaySaid := aggMay.proved
end Go.Proofs.Ytapaldcdoahfeaa

