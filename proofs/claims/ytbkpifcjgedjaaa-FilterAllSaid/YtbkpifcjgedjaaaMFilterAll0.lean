/- The row of FilterAll. Merged: SFilterAll, XBase, XFit, XMade, XOne, XOrd, XFitOk, XFits, XRVal, XShape, XVal, XHolds, XFFit, XFMay, PureFilterAll, RFilterAll. -/
import Derived.Test.YtbkpifcjgedjaaaQFilterAllPx18
import Derived.Test.YtbkpifcjgedjaaaQFilterAllO
import Derived.Test.YtbkpifcjgedjaaaQFilterAllPx0
import Derived.Test.YtbkpifcjgedjaaaQFilterAllHBase
import Derived.Test.YtbkpifcjgedjaaaQFilterAllPx7
import Derived.Test.YtbkpifcjgedjaaaQFilterAllPx5
import Derived.Test.YtbkpifcjgedjaaaQFilterAllPx11
import Derived.Test.YtbkpifcjgedjaaaQFilterAllPx13
import Derived.Lib.Bytealg
import Derived.Test.YtbkpifcjgedjaaaQFilterAllPx8
import Derived.Test.YtbkpifcjgedjaaaQFilterAllPx3
import Derived.Test.YtbkpifcjgedjaaaQFilterAllPx2
import Derived.Test.YtbkpifcjgedjaaaQFilterAllPx6
import Derived.Test.YtbkpifcjgedjaaaQFilterAllPx9
import Derived.Test.YtbkpifcjgedjaaaQFilterAllPx10
import Derived.Test.YtbkpifcjgedjaaaQFilterAllPx4
import Derived.Test.YtbkpifcjgedjaaaQFilterAllPx14
import Derived.Test.YtbkpifcjgedjaaaQFilterAllPx16
import Derived.Test.YtbkpifcjgedjaaaQFilterAllPx17
import Derived.Test.YtbkpifcjgedjaaaQFilterAllPx15
import Derived.Test.YtbkpifcjgedjaaaRows
import Derived.WalkKit
import Derived.ProofKit
import Derived.OpenShut
import Derived.ShutString
import Derived.ChangeOld
import Derived.Below
import Derived.SizedLaws
-- Written by wip/tools/myprint.py: the plain statement of FilterAll.
namespace Go.Proofs.Ytbkpifcjgedjaaa.P
open Go.RowKit Go.Proofs.YtbkpifcjgedjaaaW.PrintWords
def thresherlaw19_FilterAll.PureG : Prop := ∀ (x0 : S24) (x1 : List (S39)) (x2 : List (List (S37))), gd24 x0 → (x1.length ≤ maxLen ∧ ∀ a ∈ x1, gd39 a) → (x2.length ≤ maxLen ∧ ∀ a ∈ x2, (a.length ≤ maxLen ∧ ∀ aa ∈ a, gd37 aa)) → ∃ k, thresherlaw19_FilterAll.f k x0.f0.f0 x0.f0.f1 x0.f0.f2 x0.f0.f3 x0.f0.f4 x0.f0.f5 x0.f0.f6 x0.f0.f7 x0.f1 x0.f2 x0.f3 x0.f4 x1 x2 = some true
end Go.Proofs.Ytbkpifcjgedjaaa.P

/- Words of the laws about rows. -/
namespace Go.Proofs.Ytbkpifcjgedjaaa.P
open Go.RowKit Go.Proofs.YtbkpifcjgedjaaaW.PrintWords Go.Proofs.YtbkpifcjgedjaaaW.PrintLast Go.Proofs.YtbkpifcjgedjaaaW.PrintMore
set_option linter.unusedVariables false
set_option linter.unusedSimpArgs false

abbrev XV := S37
abbrev rdV (l : List XV) (i : Int) : XV := rd_T37 l i
abbrev rdR (l : List (List XV)) (i : Int) : List XV := rd_L4 l i
theorem rd_lt (l : List Int) (i : Nat) (h : i < l.length) : rd l i = l[i] := by unfold rd; simp [List.getD, h]
theorem rdV_lt (l : List XV) (i : Nat) (h : i < l.length) : rd_T37 l i = l[i] := by unfold rd_T37; simp [List.getD, h]
theorem rdV_ge (l : List XV) (i : Nat) (h : l.length ≤ i) : rd_T37 l i = ⟨0, ⟨#[]⟩⟩ := by unfold rd_T37; simp [List.getD, h]; rfl
theorem rdR_lt (l : List (List XV)) (i : Nat) (h : i < l.length) : rd_L4 l i = l[i] := by unfold rd_L4; simp [List.getD, h]

/-- A schema that may be. -/
structure Sch (T : List Int) (K M G : Int) : Prop where
  n1 : 1 ≤ T.length
  n8 : T.length ≤ 8
  ty : ∀ t ∈ T, 1 ≤ t ∧ t ≤ 3
  k1 : 1 ≤ K
  kn : K ≤ T.length
  m1 : 1 ≤ M
  m3 : M ≤ 3
  g1 : 1 ≤ G
  g8 : G ≤ 8
theorem Sch.rdt {T : List Int} {K M G : Int} (h : Sch T K M G) (i : Nat) (hi : i < T.length) : 1 ≤ rd T i ∧ rd T i ≤ 3 := by
  rw [rd_lt T i hi]; exact h.ty _ (List.getElem_mem hi)

/-- Does a value fit a type? -/
def fitT (t : Int) (v : XV) : Bool := if t = 1 ∨ t = 2 then v.f1.toList == ([] : List UInt8) else if t = 3 then (if v.f0 = 0 then decide ((v.f1.size : Int) ≤ 60) else false) else false
def rowOkB (T : List Int) (r : List XV) : Bool := decide (T.length = r.length) && (List.range T.length).all fun (i : Nat) => fitT (rd T i) (rdV r i)
/-- The value made to fit a type. -/
def fit1 (t : Int) (v : XV) : XV := if t = 3 then ⟨0, if (v.f1.size : Int) > 60 then v.f1.extract 0 60 else v.f1⟩ else ⟨v.f0, ⟨#[]⟩⟩
def fitRow (T : List Int) (r : List XV) : List XV := (List.range' 0 T.length).map fun (i : Nat) => fit1 (rd T i) (rdV r i)
theorem fitRow_length (T : List Int) (r : List XV) : (fitRow T r).length = T.length := by simp [fitRow]
theorem rdV_fitRow (T : List Int) (r : List XV) (i : Nat) (hi : i < T.length) : rdV (fitRow T r) i = fit1 (rd T i) (rdV r i) := by
  show rd_T37 _ _ = _
  rw [rdV_lt _ i (by rw [fitRow_length]; exact hi)]
  simp [fitRow]
theorem bytes_eq {a b : ByteArray} (h : a.toList = b.toList) : a = b := by
  rw [ByteArray.toList_eq, ByteArray.toList_eq] at h
  exact ByteArray.ext (Array.toList_inj.mp h)
theorem XV.same {a b : XV} : (!(a.f0 == b.f0) || (!(a.f1.toList == b.f1.toList))) = true ↔ a ≠ b := by
  constructor
  · rintro h rfl
    simp at h
  · intro h
    by_cases h0 : a.f0 = b.f0
    · by_cases h1 : a.f1.toList = b.f1.toList
      · exact absurd (by cases a; cases b; simp only at h0 h1; rw [h0, bytes_eq h1]) h
      · simp [h1]
    · simp [h0]
instance : DecidableEq XV := fun a b => if h : (!(a.f0 == b.f0) || (!(a.f1.toList == b.f1.toList))) = true then isFalse (XV.same.mp h) else isTrue (Classical.byContradiction fun e => h (XV.same.mpr e))
end Go.Proofs.Ytbkpifcjgedjaaa.P

/- A row made to fit. -/
namespace Go.Proofs.Ytbkpifcjgedjaaa.P
open Go.RowKit Go.Proofs.YtbkpifcjgedjaaaW.PrintWords Go.Proofs.YtbkpifcjgedjaaaW.PrintLast Go.Proofs.YtbkpifcjgedjaaaW.PrintMore
set_option linter.unusedVariables false
set_option linter.unusedSimpArgs false

theorem fit_turn (T : List Int) (K M G : Int) (r : List XV) (i : Nat) (acc : List XV) (v0 : Int) (v1 : ByteArray) (hi : i < T.length) (hT : T.length ≤ 1000000) (ha : acc.length = i) {R : List XV} (h : Ev (fun k => thresherref04_Fit.l0 k r (acc ++ [fit1 (rd T i) ⟨v0, v1⟩]) ((i + 1 : Nat) : Int) T K M G) R) : Ev (fun k => thresherref04_Fit.j1 k r acc i T K M G v0 v1) R := by
  refine Ev.succ ?_
  simp only [thresherref04_Fit.j1]
  simp (disch := omega) only [w64]
  refine Ev.pos (by omega) (Ev.pos (by omega) ?_)
  unfold fit1 at h
  by_cases e : rd T i = 3
  · rw [if_pos e] at h
    refine Ev.pos e ?_
    by_cases s : (v1.size : Int) > 60
    · simp only [if_pos s] at h
      exact Ev.pos s (Ev.pos (by omega) (Ev.pos (by omega) (Ev.pos (by omega) h)))
    · simp only [if_neg s] at h
      exact Ev.neg s (Ev.pos (by omega) h)
  · rw [if_neg e] at h
    exact Ev.neg e (Ev.pos (by omega) h)
theorem fit_loop (T : List Int) (K M G : Int) (r : List XV) (hT : T.length ≤ 1000000) : ∀ (d i : Nat) (acc : List XV), i + d = T.length → acc.length = i → Ev (fun k => thresherref04_Fit.l0 k r acc i T K M G) (acc ++ (List.range' i d).map fun (j : Nat) => fit1 (rd T j) (rdV r j))
  | 0, i, acc, hi, ha => by
    refine Ev.succ ?_
    simp only [thresherref04_Fit.l0]
    exact Ev.neg (by omega) ((Ev.now _).eq (by simp))
  | d + 1, i, acc, hi, ha => by
    refine Ev.succ ?_
    simp only [thresherref04_Fit.l0]
    refine Ev.pos (by omega) ?_
    have hl : (acc ++ [fit1 (rd T i) (rdV r i)]).length = i + 1 := by simp; omega
    have h := (fit_loop T K M G r hT d (i + 1) (acc ++ [fit1 (rd T i) (rdV r i)]) (by omega) hl).eq (r' := acc ++ (List.range' i (d + 1)).map fun (j : Nat) => fit1 (rd T j) (rdV r j)) (by rw [List.append_assoc, List.range'_succ]; rfl)
    by_cases e : i < r.length
    · exact Ev.pos (by omega) (Ev.pos (by omega) (fit_turn T K M G r i acc _ _ (by omega) hT ha h))
    · refine Ev.neg (by omega) (fit_turn T K M G r i acc _ _ (by omega) hT ha ?_)
      have e2 : rdV r i = ⟨0, ⟨#[]⟩⟩ := rdV_ge r i (by omega)
      rw [e2] at h
      exact h
theorem fit_ev (T : List Int) (K M G : Int) (r : List XV) (hT : T.length ≤ 1000000) : Ev (fun k => thresherref04_Fit.f k T K M G r) (fitRow T r) := by
  simp only [thresherref04_Fit.f]
  exact fit_loop T K M G r hT T.length 0 [] (by omega) rfl
end Go.Proofs.Ytbkpifcjgedjaaa.P

/- A schema made of any numbers. -/
namespace Go.Proofs.Ytbkpifcjgedjaaa.P
open Go.RowKit Go.Proofs.YtbkpifcjgedjaaaW.PrintWords Go.Proofs.YtbkpifcjgedjaaaW.PrintLast Go.Proofs.YtbkpifcjgedjaaaW.PrintMore
set_option linter.unusedVariables false
set_option linter.unusedSimpArgs false

def U8 (x : Int) : Prop := 0 ≤ x ∧ x ≤ 255
theorem made_one {x : Int} {m : Int} (h : U8 x) (hm : 0 < m) (hm2 : m ≤ 1000) : wrap64 (1 + Int.tmod (wrap64 x) m) = 1 + x % m ∧ 1 ≤ 1 + x % m ∧ 1 + x % m ≤ m := by
  obtain ⟨h0, h1⟩ := h
  have e1 : wrap64 x = x := w64 (by omega) (by omega)
  have h2 := Int.emod_nonneg x (show m ≠ 0 by omega)
  have h3 := Int.emod_lt_of_pos x hm
  rw [e1, Int.tmod_eq_emod_of_nonneg h0]
  exact ⟨w64 (by omega) (by omega), by omega, by omega⟩
theorem made_loop (x0 x1 x2 x3 x4 x5 x6 x7 K M G : Int) (hx : ∀ x ∈ [x0, x1, x2, x3, x4, x5, x6, x7], U8 x) (n : Nat) (hn : n ≤ 8) : ∀ (d i : Nat) (T : List Int), i + d = n → T.length = i → (∀ t ∈ T, 1 ≤ t ∧ t ≤ 3) → ∃ T', Ev (fun k => thresherref04_Made.l0 k n i x0 x1 x2 x3 x4 x5 x6 x7 T K M G) (T', K, M, G) ∧ T'.length = n ∧ ∀ t ∈ T', 1 ≤ t ∧ t ≤ 3
  | 0, i, T, hi, hT, ht => by
    refine ⟨T, Ev.succ ?_, by omega, ht⟩
    simp only [thresherref04_Made.l0]
    exact Ev.neg (by omega) (Ev.now _)
  | d + 1, i, T, hi, hT, ht => by
    have hr : U8 (rd [x0, x1, x2, x3, x4, x5, x6, x7] i) := by
      rw [rd_lt _ i (by simp; omega)]
      exact hx _ (List.getElem_mem _)
    obtain ⟨e, l1, l2⟩ := made_one (m := 3) hr (by omega) (by omega)
    obtain ⟨T', h1, h2, h3⟩ := made_loop x0 x1 x2 x3 x4 x5 x6 x7 K M G hx n hn d (i + 1) (T ++ [1 + rd [x0, x1, x2, x3, x4, x5, x6, x7] i % 3]) (by omega) (by simp; omega) (by
      intro t h
      rcases List.mem_append.mp h with h | h
      · exact ht t h
      · rw [List.mem_singleton.mp h]; exact ⟨l1, l2⟩)
    refine ⟨T', Ev.succ ?_, h2, h3⟩
    simp only [thresherref04_Made.l0]
    rw [e]
    clear e
    simp (disch := omega) only [w64]
    exact Ev.pos (by omega) (Ev.pos (by omega) (Ev.pos (by omega) (Ev.pos (by omega) h1)))
theorem made_ev (x0 x1 x2 x3 x4 x5 x6 x7 a b c d : Int) (h0 : U8 x0) (h1 : U8 x1) (h2 : U8 x2) (h3 : U8 x3) (h4 : U8 x4) (h5 : U8 x5) (h6 : U8 x6) (h7 : U8 x7) (ha : U8 a) (hb : U8 b) (hc : U8 c) (hd : U8 d) : ∃ T K M G, Ev (fun k => thresherref04_Made.f k x0 x1 x2 x3 x4 x5 x6 x7 a b c d) (T, K, M, G) ∧ Sch T K M G := by
  obtain ⟨ea, a1, a2⟩ := made_one (m := 8) ha (by omega) (by omega)
  obtain ⟨n, hn⟩ : ∃ n : Nat, 1 + a % 8 = n := ⟨(1 + a % 8).toNat, by omega⟩
  obtain ⟨eb, b1, b2⟩ := made_one (m := 1 + a % 8) hb (by omega) (by omega)
  obtain ⟨ec, c1, c2⟩ := made_one (m := 3) hc (by omega) (by omega)
  obtain ⟨ed, d1, d2⟩ := made_one (m := 8) hd (by omega) (by omega)
  simp only [thresherref04_Made.f, ea, eb, ec, ed]
  clear ea eb ec ed
  rw [hn] at b1 b2 a1 a2 ⊢
  obtain ⟨T, e, l, t⟩ := made_loop x0 x1 x2 x3 x4 x5 x6 x7 (1 + b % n) (1 + c % 3) (1 + d % 8) (by
    intro x hx
    simp only [List.mem_cons, List.not_mem_nil, or_false] at hx
    rcases hx with rfl | rfl | rfl | rfl | rfl | rfl | rfl | rfl <;> assumption) n (by omega) n 0 [] (by omega) rfl (by simp)
  exact ⟨T, _, _, _, Ev.neg (by omega) e, ⟨by omega, by omega, t, b1, by omega, c1, c2, d1, d2⟩⟩
end Go.Proofs.Ytbkpifcjgedjaaa.P

/- Are two rows the same, and two lists of rows? -/
namespace Go.Proofs.Ytbkpifcjgedjaaa.P
open Go.RowKit Go.Proofs.YtbkpifcjgedjaaaW.PrintWords Go.Proofs.YtbkpifcjgedjaaaW.PrintLast Go.Proofs.YtbkpifcjgedjaaaW.PrintMore
set_option linter.unusedVariables false
set_option linter.unusedSimpArgs false

theorem one_loop (a b : List XV) (hl : a.length = b.length) (hb : a.length ≤ 1000000000) : ∀ (d i : Nat), i + d = a.length → Ev (fun k => thresherref04_One.l0 k a b i) (decide (a.drop i = b.drop i))
  | 0, i, hi => by
    refine Ev.succ ?_
    simp only [thresherref04_One.l0]
    refine Ev.neg (by omega) ((Ev.now _).eq ?_)
    rw [List.drop_of_length_le (by omega), List.drop_of_length_le (by omega)]
    simp
  | d + 1, i, hi => by
    have h1 : i < a.length := by omega
    have h2 : i < b.length := by omega
    refine Ev.succ ?_
    simp only [thresherref04_One.l0]
    simp (disch := omega) only [w64]
    rw [rdV_lt a i h1, rdV_lt b i h2]
    rw [List.drop_eq_getElem_cons h1, List.drop_eq_getElem_cons h2]
    refine Ev.pos (by omega) (Ev.pos (by omega) (Ev.pos (by omega) ?_))
    by_cases e : a[i] = b[i]
    · refine Ev.neg (fun h => XV.same.mp h e) ((one_loop a b hl hb d (i + 1) (by omega)).eq ?_)
      rw [e]
      exact decide_eq_decide.mpr ⟨fun h => by rw [h], fun h => (List.cons.inj h).2⟩
    · refine Ev.pos (XV.same.mpr e) ((Ev.now _).eq ?_)
      symm
      rw [decide_eq_false_iff_not]
      intro h
      exact e (List.cons.inj h).1
theorem one_ev (a b : List XV) (hb : a.length ≤ 1000000000) : Ev (fun k => thresherref04_One.f k a b) (decide (a = b)) := by
  simp only [thresherref04_One.f]
  by_cases hl : a.length = b.length
  · refine Ev.pos (by omega) ?_
    have := one_loop a b hl hb a.length 0 (by omega)
    simpa using this
  · refine Ev.neg (by omega) ((Ev.now _).eq ?_)
    symm
    rw [decide_eq_false_iff_not]
    rintro rfl
    exact hl rfl

theorem rows_loop (a b : List (List XV)) (hl : a.length = b.length) (hb : a.length ≤ 1000000000) (hr : ∀ r ∈ a, r.length ≤ 1000000000) : ∀ (d i : Nat), i + d = a.length → Ev (fun k => thresherref04_Rows.l0 k a b i) (decide (a.drop i = b.drop i))
  | 0, i, hi => by
    refine Ev.succ ?_
    simp only [thresherref04_Rows.l0]
    refine Ev.neg (by omega) ((Ev.now _).eq ?_)
    rw [List.drop_of_length_le (by omega), List.drop_of_length_le (by omega)]
    simp
  | d + 1, i, hi => by
    have h1 : i < a.length := by omega
    have h2 : i < b.length := by omega
    refine Ev.succ ?_
    simp only [thresherref04_Rows.l0]
    simp (disch := omega) only [w64]
    rw [rdR_lt a i h1, rdR_lt b i h2]
    rw [List.drop_eq_getElem_cons h1, List.drop_eq_getElem_cons h2]
    refine Ev.pos (by omega) (Ev.pos (by omega) (Ev.pos (by omega) (Ev.bind (one_ev _ _ (hr _ (List.getElem_mem h1))) ?_)))
    by_cases e : a[i] = b[i]
    · refine Ev.pos (decide_eq_true e) ((rows_loop a b hl hb hr d (i + 1) (by omega)).eq ?_)
      rw [e]
      exact decide_eq_decide.mpr ⟨fun h => by rw [h], fun h => (List.cons.inj h).2⟩
    · refine Ev.neg (by simpa using e) ((Ev.now _).eq ?_)
      symm
      rw [decide_eq_false_iff_not]
      intro h
      exact e (List.cons.inj h).1
theorem rows_ev (a b : List (List XV)) (hb : a.length ≤ 1000000000) (hr : ∀ r ∈ a, r.length ≤ 1000000000) : Ev (fun k => thresherref04_Rows.f k a b) (decide (a = b)) := by
  simp only [thresherref04_Rows.f]
  by_cases hl : a.length = b.length
  · refine Ev.pos (by omega) ?_
    have := rows_loop a b hl hb hr a.length 0 (by omega)
    simpa using this
  · refine Ev.neg (by omega) ((Ev.now _).eq ?_)
    symm
    rw [decide_eq_false_iff_not]
    rintro rfl
    exact hl rfl
end Go.Proofs.Ytbkpifcjgedjaaa.P

/- The order of values and of rows. -/
namespace Go.Proofs.Ytbkpifcjgedjaaa.P
open Go.RowKit Go.Proofs.YtbkpifcjgedjaaaW.PrintWords Go.Proofs.YtbkpifcjgedjaaaW.PrintLast Go.Proofs.YtbkpifcjgedjaaaW.PrintMore
set_option linter.unusedVariables false
set_option linter.unusedSimpArgs false

/-- A value's number is one of 64 bits. -/
def GV (v : XV) : Prop := -9223372036854775808 ≤ v.f0 ∧ v.f0 ≤ 9223372036854775807
def sgn (x y : Int) : Int := if x < y then -1 else if x > y then 1 else 0
def un (x : Int) : Int := x % 18446744073709551616
def cmpV (t : Int) (a b : XV) : Int := if fitT t a = true ∧ fitT t b = true then (if t = 3 then Lib.compareBytes a.f1.data.toList b.f1.data.toList else if t = 2 then sgn (un a.f0) (un b.f0) else sgn a.f0 b.f0) else 0
def cmpC (t : Int) (a b : XV) : Int := if t = 3 then Lib.compareBytes a.f1.data.toList b.f1.data.toList else if t = 2 then sgn (un a.f0) (un b.f0) else sgn a.f0 b.f0
theorem cmpV_fit {t : Int} {a b : XV} (ha : fitT t a = true) (hb : fitT t b = true) : cmpV t a b = cmpC t a b := by
  unfold cmpV cmpC
  rw [if_pos ⟨ha, hb⟩]
/-- Rows by m of their values from i on. -/
def cmpFrom (T : List Int) (a b : List XV) : Nat → Nat → Int
  | 0, _ => 0
  | m + 1, i => if cmpV (rd T i) (rdV a i) (rdV b i) = 0 then cmpFrom T a b m (i + 1) else cmpV (rd T i) (rdV a i) (rdV b i)
def cmpRow (T : List Int) (K : Int) (a b : List XV) : Int := cmpFrom T a b (min (min (min K.toNat T.length) a.length) b.length) 0
def FitAt (T : List Int) (a : List XV) (m i : Nat) : Prop := ∀ j : Nat, i ≤ j → j < i + m → fitT (rd T j) (rdV a j) = true ∧ GV (rdV a j)
end Go.Proofs.Ytbkpifcjgedjaaa.P

/- A row made to fit fits. -/
namespace Go.Proofs.Ytbkpifcjgedjaaa.P
open Go.RowKit Go.Proofs.YtbkpifcjgedjaaaW.PrintWords Go.Proofs.YtbkpifcjgedjaaaW.PrintLast Go.Proofs.YtbkpifcjgedjaaaW.PrintMore
set_option linter.unusedVariables false
set_option linter.unusedSimpArgs false

theorem fit1_GV (t : Int) (v : XV) (h : GV v) : GV (fit1 t v) := by
  unfold fit1
  split
  · exact ⟨by simp, by simp⟩
  · exact h
end Go.Proofs.Ytbkpifcjgedjaaa.P

/- Rows made to fit. -/
namespace Go.Proofs.Ytbkpifcjgedjaaa.P
open Go.RowKit Go.Proofs.YtbkpifcjgedjaaaW.PrintWords Go.Proofs.YtbkpifcjgedjaaaW.PrintLast Go.Proofs.YtbkpifcjgedjaaaW.PrintMore
set_option linter.unusedVariables false
set_option linter.unusedSimpArgs false

theorem fits_loop (T : List Int) (K M G : Int) (l : List (List XV)) (n : Nat) (hn : n ≤ 1000000) (hT : T.length ≤ 1000000) : ∀ (d i : Nat) (acc : List (List XV)), i + d = min l.length n → acc.length = i → Ev (fun k => thresherref04_Fits.l0 k l n acc i T K M G) (acc ++ ((l.take n).drop i).map (fitRow T))
  | 0, i, acc, hi, ha => by
    refine Ev.succ ?_
    simp only [thresherref04_Fits.l0]
    have e : (l.take n).drop i = [] := List.drop_of_length_le (by simp; omega)
    rw [e]
    by_cases h : (i : Int) < l.length
    · exact Ev.pos h (Ev.neg (by omega) ((Ev.now _).eq (by simp)))
    · exact Ev.neg h ((Ev.now _).eq (by simp))
  | d + 1, i, acc, hi, ha => by
    have h1 : i < l.length := by omega
    have h2 : i < n := by omega
    refine Ev.succ ?_
    simp only [thresherref04_Fits.l0]
    have e : (l.take n).drop i = l[i] :: (l.take n).drop (i + 1) := by
      rw [List.drop_eq_getElem_cons (by simp; omega)]
      simp
    rw [rdR_lt l i h1, e]
    simp (disch := omega) only [w64]
    refine Ev.pos (by omega) (Ev.pos (by omega) (Ev.pos (by omega) (Ev.bind (fit_ev T K M G _ hT) (Ev.pos (by omega) ?_))))
    refine (fits_loop T K M G l n hn hT d (i + 1) (acc ++ [fitRow T l[i]]) (by omega) (by simp; omega)).eq ?_
    simp
theorem fits_ev (T : List Int) (K M G : Int) (l : List (List XV)) (n : Nat) (hn : n ≤ 1000000) (hT : T.length ≤ 1000000) : Ev (fun k => thresherref04_Fits.f k T K M G l n) ((l.take n).map (fitRow T)) := by
  simp only [thresherref04_Fits.f]
  exact fits_loop T K M G l n hn hT (min l.length n) 0 [] (by omega) rfl
end Go.Proofs.Ytbkpifcjgedjaaa.P

/- The document's Compare of values tells the same order. -/
namespace Go.Proofs.Ytbkpifcjgedjaaa.P
open Go.RowKit Go.Proofs.YtbkpifcjgedjaaaW.PrintWords Go.Proofs.YtbkpifcjgedjaaaW.PrintLast Go.Proofs.YtbkpifcjgedjaaaW.PrintMore
set_option linter.unusedVariables false
set_option linter.unusedSimpArgs false

theorem rfits_f (k : Nat) (t n : Int) (s : ByteArray) : thresherref03_Fits.f (k + 1) t n s = some (fitT t ⟨n, s⟩) := by
  unfold thresherref03_Fits.f fitT
  by_cases h1 : t = 1
  · rw [if_pos h1, if_pos (Or.inl h1)]
    subst h1
    rfl
  · rw [if_neg h1]
    by_cases h2 : t = 2
    · rw [if_pos (Or.inr h2)]
      subst h2
      rfl
    · rw [if_neg (by omega), show (t == 2) = false by simpa using h2]
      simp only [thresherref03_Fits.j0, Bool.false_eq_true, if_false]
      by_cases h3 : t = 3
      · rw [if_pos h3, if_pos h3]
        split <;> rfl
      · rw [if_neg h3, if_neg h3]
theorem rfits_ev (t n : Int) (s : ByteArray) : Ev (fun k => thresherref03_Fits.f k t n s) (fitT t ⟨n, s⟩) := Ev.succ ⟨0, fun k _ => rfits_f k t n s⟩
theorem both_ev (t : Int) (a b : XV) : Ev (fun k => thresherref03_both.f k t a.f0 a.f1 b.f0 b.f1) (fitT t a && fitT t b) := by
  simp only [thresherref03_both.f]
  refine Ev.bind (rfits_ev t a.f0 a.f1) (Ev.bind (rfits_ev t b.f0 b.f1) ?_)
  by_cases ha : fitT t a = true
  · exact (Ev.pos ha (Ev.now _)).eq (by rw [ha, Bool.true_and])
  · exact (Ev.neg ha (Ev.now _)).eq (by rw [Bool.eq_false_iff.mpr ha, Bool.false_and])
theorem bt_lt (s : ByteArray) (i : Nat) (h : i < s.size) : bt s i = ((s.data.toList[i]'(by simpa using h)).toNat : Int) := by
  unfold bt
  rw [dif_pos (by simpa using h)]
  rfl
theorem texts_loop (a b : ByteArray) (ha : a.size ≤ 9223372036854775807) : ∀ (d i : Nat), i + d = a.size → i ≤ b.size → Ev (fun k => thresherref03_texts.l0 k a b i) (Lib.compareBytes (a.data.toList.drop i) (b.data.toList.drop i))
  | 0, i, hi, hb => by
    have hn : a.data.toList.length = a.size := by simp
    have hn2 : b.data.toList.length = b.size := by simp
    refine Ev.succ ?_
    simp only [thresherref03_texts.l0]
    refine Ev.neg (by omega) (Ev.succ ?_)
    simp only [thresherref03_texts.j1]
    refine Ev.neg (by simp) ?_
    rw [List.drop_of_length_le (by omega : a.data.toList.length ≤ i)]
    by_cases h : i < b.size
    · rw [List.drop_eq_getElem_cons (by omega : i < b.data.toList.length)]
      exact Ev.pos (by omega) (Ev.now _)
    · rw [List.drop_of_length_le (by omega : b.data.toList.length ≤ i)]
      exact Ev.neg (by omega) (Ev.neg (by omega) (Ev.now _))
  | d + 1, i, hi, hb => by
    have hn : a.data.toList.length = a.size := by simp
    have hn2 : b.data.toList.length = b.size := by simp
    have h1 : i < a.data.toList.length := by omega
    refine Ev.succ ?_
    simp only [thresherref03_texts.l0]
    refine Ev.pos (by omega) (Ev.succ ?_)
    simp only [thresherref03_texts.j1]
    rw [List.drop_eq_getElem_cons h1]
    by_cases h : i < b.size
    · have h2 : i < b.data.toList.length := by omega
      rw [List.drop_eq_getElem_cons h2, bt_lt a i (by omega), bt_lt b i h]
      simp (disch := omega) only [w64]
      unfold Lib.compareBytes
      refine Ev.pos (by simpa using h) (Ev.pos (by omega) (Ev.pos (by omega) (Ev.pos (by omega) ?_)))
      by_cases p : a.data.toList[i] < b.data.toList[i]
      · rw [if_pos p]
        exact Ev.pos (by have := UInt8.lt_iff_toNat_lt.mp p; omega) (Ev.now _)
      · rw [if_neg p]
        refine Ev.neg (fun q => p (UInt8.lt_iff_toNat_lt.mpr (by omega))) ?_
        by_cases r : b.data.toList[i] < a.data.toList[i]
        · rw [if_pos r]
          exact Ev.pos (by have := UInt8.lt_iff_toNat_lt.mp r; omega) (Ev.now _)
        · rw [if_neg r]
          exact Ev.neg (fun q => r (UInt8.lt_iff_toNat_lt.mpr (by omega))) (texts_loop a b ha d (i + 1) (by omega) (by omega))
    · rw [List.drop_of_length_le (by omega : b.data.toList.length ≤ i)]
      exact Ev.neg (by simpa using h) (Ev.neg (by omega) (Ev.pos (by omega) (Ev.now _)))
theorem texts_ev (a b : ByteArray) (ha : a.size ≤ 9223372036854775807) : Ev (fun k => thresherref03_texts.f k a b) (Lib.compareBytes a.data.toList b.data.toList) := by
  simp only [thresherref03_texts.f]
  exact texts_loop a b ha a.size 0 (by omega) (by omega)
theorem rcmpj_ev (p q : Bool) (r : Int) (h : r = if p = true then -1 else if q = true then 1 else 0) : Ev (fun k => thresherref03_Compare.j0 k p q) r := by
  refine Ev.succ ⟨0, fun k _ => ?_⟩
  simp only [thresherref03_Compare.j0]
  rw [h]
  cases p <;> cases q <;> rfl
theorem rcmp_ev (t : Int) (a b : XV) (ga : GV a) (gb : GV b) (hs : a.f1.size ≤ 9223372036854775807) : Ev (fun k => thresherref03_Compare.f k t a.f0 a.f1 b.f0 b.f1) (cmpV t a b) := by
  obtain ⟨g1, g2⟩ := ga
  obtain ⟨g3, g4⟩ := gb
  simp only [thresherref03_Compare.f]
  refine Ev.bind (both_ev t a b) ?_
  by_cases h : fitT t a = true ∧ fitT t b = true
  · rw [cmpV_fit h.1 h.2]
    refine Ev.pos (by rw [h.1, h.2]; rfl) ?_
    by_cases e2 : t = 2
    · have ec : cmpC t a b = sgn (un a.f0) (un b.f0) := by unfold cmpC; rw [if_neg (by omega), if_pos e2]
      rw [ec]
      refine Ev.pos e2 ?_
      by_cases hn : ((decide (a.f0 < 0)) != (decide (b.f0 < 0))) = true
      · refine Ev.pos hn (rcmpj_ev _ _ _ ?_)
        simp only [decide_eq_true_eq]
        unfold sgn un
        by_cases p : a.f0 < 0
        · by_cases q : b.f0 < 0
          · simp [p, q] at hn
          · repeat' split
            all_goals omega
        · by_cases q : b.f0 < 0
          · repeat' split
            all_goals omega
          · simp [p, q] at hn
      · refine Ev.neg hn (rcmpj_ev _ _ _ ?_)
        simp only [decide_eq_true_eq]
        unfold sgn un
        by_cases p : a.f0 < 0
        · by_cases q : b.f0 < 0
          · repeat' split
            all_goals omega
          · simp [p, q] at hn
        · by_cases q : b.f0 < 0
          · simp [p, q] at hn
          · repeat' split
            all_goals omega
    · refine Ev.neg e2 ?_
      by_cases e3 : t = 3
      · exact (Ev.pos e3 (Ev.bind (texts_ev _ _ hs) (Ev.now _))).eq (by unfold cmpC; rw [if_pos e3])
      · have ec : cmpC t a b = sgn a.f0 b.f0 := by unfold cmpC; rw [if_neg e3, if_neg e2]
        rw [ec]
        refine Ev.neg e3 (rcmpj_ev _ _ _ ?_)
        simp only [decide_eq_true_eq]
        rfl
  · exact (Ev.neg (fun q => h (by simpa using q)) (Ev.now _)).eq (by unfold cmpV; rw [if_neg h])
/-- Values as Go has them. -/
def GR (r : List XV) : Prop := ∀ v ∈ r, GV v ∧ v.f1.size ≤ 9223372036854775807
theorem GR.rdV {r : List XV} (h : GR r) (i : Nat) : GV (rdV r i) ∧ (P.rdV r i).f1.size ≤ 9223372036854775807 := by
  by_cases hi : i < r.length
  · show GV (rd_T37 r i) ∧ (rd_T37 r i).f1.size ≤ _
    rw [rdV_lt r i hi]
    exact h _ (List.getElem_mem hi)
  · show GV (rd_T37 r i) ∧ (rd_T37 r i).f1.size ≤ _
    rw [rdV_ge r i (by omega)]
    exact ⟨⟨by simp, by simp⟩, by decide⟩
end Go.Proofs.Ytbkpifcjgedjaaa.P

/- A schema of a shape. -/
namespace Go.Proofs.Ytbkpifcjgedjaaa.P
open Go.RowKit Go.Proofs.YtbkpifcjgedjaaaW.PrintWords Go.Proofs.YtbkpifcjgedjaaaW.PrintLast Go.Proofs.YtbkpifcjgedjaaaW.PrintMore
theorem u8_of {x : Int} (h : (Lit.int .u8 x).wf = true) : U8 x := wf_u8 h
theorem shape_ev {x : S24} (h : gd24 x) : ∃ T K M G, Ev (fun k => thresherref04_Made.f k x.f0.f0 x.f0.f1 x.f0.f2 x.f0.f3 x.f0.f4 x.f0.f5 x.f0.f6 x.f0.f7 x.f1 x.f2 x.f3 x.f4) (T, K, M, G) ∧ Sch T K M G := by
  obtain ⟨⟨h0, h1, h2, h3, h4, h5, h6, h7⟩, ha, hb, hc, hd⟩ := h
  exact made_ev _ _ _ _ _ _ _ _ _ _ _ _ (u8_of h0) (u8_of h1) (u8_of h2) (u8_of h3) (u8_of h4) (u8_of h5) (u8_of h6) (u8_of h7) (u8_of ha) (u8_of hb) (u8_of hc) (u8_of hd)
end Go.Proofs.Ytbkpifcjgedjaaa.P

/- value.Compare tells the order of values. -/
namespace Go.Proofs.Ytbkpifcjgedjaaa.P
open Go.RowKit Go.Proofs.YtbkpifcjgedjaaaW.PrintWords Go.Proofs.YtbkpifcjgedjaaaW.PrintLast Go.Proofs.YtbkpifcjgedjaaaW.PrintMore
set_option linter.unusedVariables false
set_option linter.unusedSimpArgs false

theorem vfits_f (k : Nat) (t n : Int) (s : ByteArray) : value_Fits.f (k + 1) t n s = some (fitT t ⟨n, s⟩) := by
  unfold value_Fits.f fitT
  by_cases h1 : t = 1
  · rw [if_pos h1, if_pos (Or.inl h1)]
    subst h1
    rfl
  · rw [if_neg h1]
    by_cases h2 : t = 2
    · rw [if_pos (Or.inr h2)]
      subst h2
      rfl
    · rw [if_neg (by omega), show (t == 2) = false by simpa using h2]
      simp only [value_Fits.j0, Bool.false_eq_true, if_false]
      by_cases h3 : t = 3
      · rw [if_pos h3, if_pos h3]
        split <;> rfl
      · rw [if_neg h3, if_neg h3]
theorem vfits_ev (t n : Int) (s : ByteArray) : Ev (fun k => value_Fits.f k t n s) (fitT t ⟨n, s⟩) := Ev.succ ⟨0, fun k _ => vfits_f k t n s⟩
theorem cmpu_f (x y : Int) : cmp_Compare_uint64.f x y = some (sgn x y) := by
  simp only [cmp_Compare_uint64.f, cmp_isNaN_uint64.f, bne_self_eq_false, Option.bind_some, Bool.false_eq_true, if_false]
  unfold sgn
  split
  · rfl
  · split <;> rfl
theorem cmpi_f (x y : Int) : cmp_Compare_int64.f x y = some (sgn x y) := by
  simp only [cmp_Compare_int64.f, cmp_isNaN_int64.f, bne_self_eq_false, Option.bind_some, Bool.false_eq_true, if_false]
  unfold sgn
  split
  · rfl
  · split <;> rfl
theorem vcmp_ev (t : Int) (a b : XV) : Ev (fun k => value_Compare.f k t a.f0 a.f1 b.f0 b.f1) (cmpV t a b) := by
  simp only [value_Compare.f]
  refine Ev.bind (vfits_ev t a.f0 a.f1) ?_
  by_cases ha : fitT t a = true
  · refine Ev.pos ha (Ev.bind (vfits_ev t b.f0 b.f1) (Ev.succ ?_))
    simp only [value_Compare.j0]
    by_cases hb : fitT t b = true
    · rw [cmpV_fit ha hb]
      refine Ev.neg (fun h => ?_) ?_
      · rw [show fitT t ⟨b.f0, b.f1⟩ = true from hb] at h
        exact absurd h (by simp)
      · by_cases e3 : t = 3
        · refine (Ev.pos e3 (Ev.bindc rfl (Ev.now _))).eq ?_
          unfold cmpC
          rw [if_pos e3]
        · refine Ev.neg e3 ?_
          by_cases e2 : t = 2
          · refine (Ev.pos e2 (Ev.bindc (cmpu_f _ _) (Ev.now _))).eq ?_
            unfold cmpC
            rw [if_neg e3, if_pos e2]
            rfl
          · refine (Ev.neg e2 (Ev.bindc (cmpi_f _ _) (Ev.now _))).eq ?_
            unfold cmpC
            rw [if_neg e3, if_neg e2]
    · refine (Ev.pos ?_ (Ev.now _)).eq ?_
      · rw [show fitT t ⟨b.f0, b.f1⟩ = false from Bool.eq_false_iff.mpr hb]
        rfl
      · unfold cmpV
        rw [if_neg (fun h => hb h.2)]
  · refine Ev.neg ha (Ev.succ ?_)
    simp only [value_Compare.j0]
    refine (Ev.pos (by simp) (Ev.now _)).eq ?_
    unfold cmpV
    rw [if_neg (fun h => ha h.1)]
end Go.Proofs.Ytbkpifcjgedjaaa.P

/- What a filter says of a value, and which rows filters keep. -/
namespace Go.Proofs.Ytbkpifcjgedjaaa.P
open Go.RowKit Go.Proofs.YtbkpifcjgedjaaaW.PrintWords Go.Proofs.YtbkpifcjgedjaaaW.PrintLast Go.Proofs.YtbkpifcjgedjaaaW.PrintMore
set_option linter.unusedVariables false
set_option linter.unusedSimpArgs false

abbrev XFl := S39
abbrev rdFl (l : List XFl) (i : Int) : XFl := rd_T39 l i
theorem rdFl_lt (l : List XFl) (i : Nat) (h : i < l.length) : rd_T39 l i = l[i] := by unfold rd_T39; simp [List.getD, h]
/-- A text begins with another one. -/
def isPre (p s : ByteArray) : Bool := decide (p.size ≤ s.size) && ((s.extract 0 p.size).toList == p.toList)
theorem pre_f (s p : ByteArray) : strings_HasPrefix.f s p = some (isPre p s) := by
  unfold strings_HasPrefix.f stringslite_HasPrefix.f isPre
  by_cases h : p.size ≤ s.size
  · rw [if_pos (by omega), if_pos (by omega), if_pos (by omega), decide_eq_true h, Bool.true_and]; rfl
  · rw [if_neg (by omega), decide_eq_false h]; rfl
def holdsV (t op : Int) (fv v : XV) : Bool :=
  if op = 1 then cmpV t v fv == 0 else if op = 2 then cmpV t v fv != 0 else if op = 3 then decide (cmpV t v fv < 0) else if op = 4 then decide (cmpV t v fv ≤ 0) else if op = 5 then decide (cmpV t v fv > 0) else if op = 6 then decide (cmpV t v fv ≥ 0) else if op = 7 then isPre fv.f1 v.f1 else false
theorem hold0 (c : Int) : Ev (fun k => filter_holds.j0 k c) (c == 0) := Ev.succ (Ev.now _)
theorem holds_ev (t col op : Int) (fv v : XV) : Ev (fun k => filter_holds.f k t col op fv.f0 fv.f1 v.f0 v.f1) (holdsV t op fv v) := by
  simp only [filter_holds.f]
  unfold holdsV
  refine Ev.bind (vcmp_ev t v fv) ?_
  obtain ⟨c, hc⟩ : ∃ c, cmpV t v fv = c := ⟨_, rfl⟩
  rw [hc]
  by_cases h3 : op = 3
  · subst h3; exact Ev.pos rfl (Ev.now _)
  refine Ev.neg h3 ?_
  by_cases h5 : op = 5
  · subst h5; exact Ev.pos rfl (Ev.now _)
  refine Ev.neg h5 ?_
  by_cases h2 : op = 2
  · subst h2; exact Ev.pos rfl (Ev.now _)
  refine Ev.neg h2 ?_
  by_cases h7 : op = 7
  · subst h7; exact Ev.pos rfl (Ev.bindc (pre_f _ _) (Ev.now _))
  refine Ev.neg h7 ?_
  by_cases h4 : op = 4
  · subst h4
    refine Ev.pos rfl ?_
    by_cases q : c < 0
    · exact Ev.pos q ((Ev.now _).eq (by simp; omega))
    · refine Ev.neg q ((hold0 _).eq ?_)
      simp
      by_cases e : c = 0
      · subst e; rfl
      · rw [show (c == 0) = false by simpa using e, decide_eq_false (by omega)]
  refine Ev.neg h4 ?_
  by_cases h1 : op = 1
  · subst h1; exact Ev.pos rfl (hold0 _)
  refine Ev.neg h1 ?_
  by_cases h6 : op = 6
  · subst h6; exact Ev.pos rfl (Ev.now _)
  refine Ev.neg h6 ((Ev.now _).eq ?_)
  rw [if_neg h1, if_neg h2, if_neg h3, if_neg h4, if_neg h5, if_neg h6, if_neg h7]
/-- What a filter says of a row. -/
def holdsF (T : List Int) (r : List XV) (f : XFl) : Bool := holdsV (rd T f.f0) f.f1 f.f2 (rdV r f.f0)
def keepV (T : List Int) (fs : List XFl) (r : List XV) : Bool := fs.all (holdsF T r)
theorem keep_in (T : List Int) (K M G : Int) (fs : List XFl) (hfs : fs.length ≤ 1000000) (hT : ∀ f ∈ fs, 0 ≤ f.f0 ∧ f.f0 < T.length) (rows : List (List XV)) (hrows : rows.length ≤ 1000000) (i : Nat) (hi : i < rows.length) (r : List XV) (hr : ∀ f ∈ fs, f.f0 < r.length) (acc : List (List XV)) (hacc : acc.length ≤ 1000000) {R : List (List XV)}
    (hR : Ev (fun k => filter_Keep.l0 k fs (if keepV T fs r = true then acc ++ [r] else acc) rows rows.length ((i + 1 : Nat) : Int) T K M G) R) :
    ∀ (d j : Nat), j + d = fs.length → (fs.take j).all (holdsF T r) = true → Ev (fun k => filter_Keep.l1 k fs acc r rows rows.length i fs fs.length j T K M G) R
  | 0, j, hj, ha => by
    refine Ev.succ ?_
    simp only [filter_Keep.l1]
    rw [List.take_of_length_le (by omega)] at ha
    rw [show keepV T fs r = true from ha, if_pos rfl] at hR
    simp (disch := omega) only [w64]
    exact Ev.neg (by omega) (Ev.pos (by omega) hR)
  | d + 1, j, hj, ha => by
    have h : j < fs.length := by omega
    refine Ev.succ ?_
    simp only [filter_Keep.l1]
    rw [rdFl_lt fs j h]
    obtain ⟨c1, c2⟩ := hT _ (List.getElem_mem h)
    have c3 := hr _ (List.getElem_mem h)
    have hh := holds_ev (rd T fs[j].f0) fs[j].f0 fs[j].f1 fs[j].f2 (rdV r fs[j].f0)
    simp (disch := omega) only [w64]
    refine Ev.pos (by omega) (Ev.pos (by omega) (Ev.pos (by omega) (Ev.pos (by omega) (Ev.pos (by omega) (Ev.pos (by omega) (Ev.bind hh ?_))))))
    by_cases q : holdsF T r fs[j] = true
    · refine Ev.pos q ?_
      exact keep_in T K M G fs hfs hT rows hrows i hi r hr acc hacc hR d (j + 1) (by omega) (by rw [List.take_succ_eq_append_getElem h, List.all_append, ha]; simp [q])
    · refine Ev.neg q ?_
      have e : keepV T fs r = false := by
        unfold keepV
        rw [Bool.eq_false_iff]
        intro h2
        exact q (List.all_eq_true.mp h2 _ (List.getElem_mem h))
      rw [e, if_neg (by simp)] at hR
      exact hR
theorem keep_loop (T : List Int) (K M G : Int) (fs : List XFl) (hfs : fs.length ≤ 1000000) (hT : ∀ f ∈ fs, 0 ≤ f.f0 ∧ f.f0 < T.length) (rows : List (List XV)) (hrows : rows.length ≤ 1000000) (hr : ∀ r ∈ rows, ∀ f ∈ fs, f.f0 < r.length) : ∀ (d i : Nat) (acc : List (List XV)), i + d = rows.length → acc.length ≤ i → Ev (fun k => filter_Keep.l0 k fs acc rows rows.length i T K M G) (acc ++ (rows.drop i).filter (keepV T fs))
  | 0, i, acc, hi, ha => by
    refine Ev.succ ?_
    simp only [filter_Keep.l0]
    rw [List.drop_of_length_le (by omega)]
    exact Ev.neg (by omega) ((Ev.now _).eq (by simp))
  | d + 1, i, acc, hi, ha => by
    have h : i < rows.length := by omega
    refine Ev.succ ?_
    simp only [filter_Keep.l0]
    rw [rdR_lt rows i h, List.drop_eq_getElem_cons h]
    refine Ev.pos (by omega) (Ev.pos (by omega) (Ev.pos (by omega) ?_))
    refine keep_in T K M G fs hfs hT rows hrows i h rows[i] (hr _ (List.getElem_mem h)) acc (by omega) ?_ fs.length 0 (by omega) (by simp)
    have hl := keep_loop T K M G fs hfs hT rows hrows hr d (i + 1)
    by_cases q : keepV T fs rows[i] = true
    · rw [if_pos q, List.filter_cons, if_pos q]
      exact (hl (acc ++ [rows[i]]) (by omega) (by simp; omega)).eq (by simp)
    · rw [if_neg q, List.filter_cons, if_neg q]
      exact hl acc (by omega) (by omega)
theorem keep_ev (T : List Int) (K M G : Int) (fs : List XFl) (hfs : fs.length ≤ 1000000) (hT : ∀ f ∈ fs, 0 ≤ f.f0 ∧ f.f0 < T.length) (rows : List (List XV)) (hrows : rows.length ≤ 1000000) (hr : ∀ r ∈ rows, ∀ f ∈ fs, f.f0 < r.length) : Ev (fun k => filter_Keep.f k T K M G fs rows) (rows.filter (keepV T fs)) := by
  simp only [filter_Keep.f]
  have := keep_loop T K M G fs hfs hT rows hrows hr rows.length 0 [] (by omega) (by simp)
  simpa using this
end Go.Proofs.Ytbkpifcjgedjaaa.P

/- Filters made to fit; what the document's filters say. -/
namespace Go.Proofs.Ytbkpifcjgedjaaa.P
open Go.RowKit Go.Proofs.YtbkpifcjgedjaaaW.PrintWords Go.Proofs.YtbkpifcjgedjaaaW.PrintLast Go.Proofs.YtbkpifcjgedjaaaW.PrintMore
set_option linter.unusedVariables false
set_option linter.unusedSimpArgs false

theorem tmod_rng (x n : Int) (h : 0 < n) : -n < Int.tmod x n ∧ Int.tmod x n < n := by
  rcases Int.le_total 0 x with hx | hx
  · rw [Int.tmod_eq_emod_of_nonneg hx]
    have := Int.emod_nonneg x (show n ≠ 0 by omega)
    have := Int.emod_lt_of_pos x h
    omega
  · obtain ⟨y, rfl⟩ : ∃ y, x = -y := ⟨-x, by omega⟩
    rw [Int.neg_tmod, Int.tmod_eq_emod_of_nonneg (by omega : 0 ≤ y)]
    have := Int.emod_nonneg y (show n ≠ 0 by omega)
    have := Int.emod_lt_of_pos y h
    omega
def md (x n : Int) : Int := if Int.tmod x n < 0 then Int.tmod x n + n else Int.tmod x n
theorem md_rng (x n : Int) (h : 0 < n) : 0 ≤ md x n ∧ md x n < n := by
  have := tmod_rng x n h
  unfold md
  split <;> omega
def cut60 (s : ByteArray) : ByteArray := s.extract 0 (min s.size 60)
theorem cut60_size (s : ByteArray) : (cut60 s).size ≤ 60 := by unfold cut60; rw [ByteArray.size_extract]; omega
theorem mn_toNat (s : ByteArray) : (mn (s.size : Int) 60).toNat = min s.size 60 := by unfold mn; split <;> omega
theorem mn_lo (s : ByteArray) : 0 ≤ mn (s.size : Int) 60 ∧ mn (s.size : Int) 60 ≤ (s.size : Int) := by unfold mn; split <;> omega
/-- A filter made to fit. -/
def fitF (T : List Int) (f : XFl) : XFl :=
  if rd T (md f.f0 T.length) = 3 then ⟨md f.f0 T.length, 1 + md f.f1 7, ⟨0, cut60 f.f2.f1⟩⟩ else ⟨md f.f0 T.length, if 1 + md f.f1 7 = 7 then 1 else 1 + md f.f1 7, ⟨f.f2.f0, ⟨#[]⟩⟩⟩
theorem fitF_col (T : List Int) (hT : 1 ≤ T.length) (f : XFl) : 0 ≤ (fitF T f).f0 ∧ (fitF T f).f0 < T.length := by
  have := md_rng f.f0 T.length (by omega)
  unfold fitF
  split <;> exact this
theorem ffit_loop (T : List Int) (K M G : Int) (hT1 : 1 ≤ T.length) (hT : T.length ≤ 1000000) (l : List XFl) (m : Nat) (hm : m ≤ 1000000) : ∀ (d i : Nat) (acc : List XFl), i + d = min l.length m → acc.length = i → Ev (fun k => thresherref19_Fit.l0 k l m acc i T K M G) (acc ++ ((l.take m).drop i).map (fitF T))
  | 0, i, acc, hi, ha => by
    refine Ev.succ ?_
    simp only [thresherref19_Fit.l0]
    rw [List.drop_of_length_le (by rw [List.length_take]; omega)]
    have hj : Ev (fun k => thresherref19_Fit.j1 k l m acc i false T K M G) (acc ++ List.map (fitF T) []) := by
      refine Ev.succ ?_
      simp only [thresherref19_Fit.j1]
      exact Ev.neg (by simp) ((Ev.now _).eq (by simp))
    by_cases h : (i : Int) < l.length
    · refine Ev.pos h ?_
      rw [decide_eq_false (by omega)]
      exact hj
    · exact Ev.neg h hj
  | d + 1, i, acc, hi, ha => by
    have h : i < l.length := by omega
    have h' : i < (l.take m).length := by rw [List.length_take]; omega
    rw [List.drop_eq_getElem_cons h', List.getElem_take, List.map_cons]
    have hn : Ev (fun k => thresherref19_Fit.l0 k l m (acc ++ [fitF T l[i]]) ((i + 1 : Nat) : Int) T K M G) (acc ++ (fitF T l[i] :: ((l.take m).drop (i + 1)).map (fitF T))) :=
      (ffit_loop T K M G hT1 hT l m hm d (i + 1) (acc ++ [fitF T l[i]]) (by omega) (by simp; omega)).eq (by simp)
    obtain ⟨R, hR⟩ : ∃ R, acc ++ (fitF T l[i] :: ((l.take m).drop (i + 1)).map (fitF T)) = R := ⟨_, rfl⟩
    rw [hR] at hn ⊢
    clear hR
    have e := rdFl_lt l i h
    have hj5 : ∀ a b c s, (⟨a, b, ⟨c, s⟩⟩ : XFl) = fitF T l[i] → Ev (fun k => thresherref19_Fit.j5 k l m acc i T K M G a b c s) R := fun a b c s hf => by
      refine Ev.succ ?_
      simp only [thresherref19_Fit.j5]
      rw [hf]
      simp (disch := omega) only [w64]
      exact Ev.pos (by omega) hn
    have hc := md_rng l[i].f0 T.length (by omega)
    have ho := md_rng l[i].f1 7 (by omega)
    have hj3 : Ev (fun k => thresherref19_Fit.j3 k l m acc i (md l[i].f0 T.length) (md l[i].f1 7) T K M G) R := by
      refine Ev.succ ?_
      simp only [thresherref19_Fit.j3]
      rw [e, mn_toNat]
      obtain ⟨m1, m2⟩ := mn_lo l[i].f2.f1
      refine Ev.pos (by omega) (Ev.pos (by omega) (Ev.pos hc.1 (Ev.pos hc.2 ?_)))
      by_cases q : rd T (md l[i].f0 T.length) = 3
      · refine Ev.pos q (Ev.pos m1 (Ev.pos m2 ?_))
        clear m1 m2
        simp (disch := omega) only [w64]
        exact hj5 _ _ _ _ (by unfold fitF; rw [if_pos q]; rfl)
      · refine Ev.neg q ?_
        clear m1 m2
        simp (disch := omega) only [w64]
        by_cases q7 : 1 + md l[i].f1 7 = 7
        · refine Ev.pos q7 (Ev.succ ?_)
          simp only [thresherref19_Fit.j4]
          exact hj5 _ _ _ _ (by unfold fitF; rw [if_neg q, if_pos q7])
        · refine Ev.neg q7 (Ev.succ ?_)
          simp only [thresherref19_Fit.j4]
          exact hj5 _ _ _ _ (by unfold fitF; rw [if_neg q, if_neg q7])
    have hj2 : Ev (fun k => thresherref19_Fit.j2 k l m acc i (md l[i].f0 T.length) T K M G) R := by
      refine Ev.succ ?_
      simp only [thresherref19_Fit.j2]
      rw [e]
      have ht := tmod_rng l[i].f1 7 (by omega)
      refine Ev.pos (by omega) (Ev.pos (by omega) ?_)
      by_cases q : Int.tmod l[i].f1 7 < 0
      · refine Ev.pos q ?_
        have em : md l[i].f1 7 = Int.tmod l[i].f1 7 + 7 := by unfold md; rw [if_pos q]
        rw [em] at hj3
        simp (disch := omega) only [w64]
        exact hj3
      · refine Ev.neg q ?_
        have em : md l[i].f1 7 = Int.tmod l[i].f1 7 := by unfold md; rw [if_neg q]
        rw [em] at hj3
        exact hj3
    refine Ev.succ ?_
    simp only [thresherref19_Fit.l0]
    refine Ev.pos (by omega) ?_
    rw [decide_eq_true (by omega)]
    refine Ev.succ ?_
    simp only [thresherref19_Fit.j1]
    rw [e]
    have ht := tmod_rng l[i].f0 T.length (by omega)
    refine Ev.pos (by simp) (Ev.pos (by omega) (Ev.pos (by omega) (Ev.neg (by omega) ?_)))
    by_cases q : Int.tmod l[i].f0 T.length < 0
    · refine Ev.pos q ?_
      have em : md l[i].f0 T.length = Int.tmod l[i].f0 T.length + T.length := by unfold md; rw [if_pos q]
      rw [em] at hj2
      simp (disch := omega) only [w64]
      exact hj2
    · refine Ev.neg q ?_
      have em : md l[i].f0 T.length = Int.tmod l[i].f0 T.length := by unfold md; rw [if_neg q]
      rw [em] at hj2
      exact hj2
theorem ffit_ev (T : List Int) (K M G : Int) (hT1 : 1 ≤ T.length) (hT : T.length ≤ 1000000) (l : List XFl) (m : Nat) (hm : m ≤ 1000000) : Ev (fun k => thresherref19_Fit.f k T K M G l m) ((l.take m).map (fitF T)) := by
  simp only [thresherref19_Fit.f]
  have := ffit_loop T K M G hT1 hT l m hm (min l.length m) 0 [] (by omega) rfl
  simpa using this

theorem rhold0 (b : Bool) : Ev (fun k => thresherref19_Holds.j0 k b) b := Ev.succ (Ev.now _)
theorem rholds_ev (t col op : Int) (fv v : XV) (g1 : GV v) (g2 : GV fv) (hs : v.f1.size ≤ 9223372036854775807) : Ev (fun k => thresherref19_Holds.f k t col op fv.f0 fv.f1 v.f0 v.f1) (holdsV t op fv v) := by
  simp only [thresherref19_Holds.f]
  unfold holdsV
  refine Ev.bind (rcmp_ev t v fv g1 g2 hs) ?_
  by_cases h1 : op = 1
  · subst h1; exact Ev.pos rfl (Ev.now _)
  refine Ev.neg h1 ?_
  rw [if_neg h1]
  by_cases h2 : op = 2
  · subst h2; exact Ev.pos rfl (Ev.now _)
  refine Ev.neg h2 ?_
  rw [if_neg h2]
  by_cases h3 : op = 3
  · subst h3; exact Ev.pos rfl (Ev.now _)
  refine Ev.neg h3 ?_
  rw [if_neg h3]
  by_cases h4 : op = 4
  · subst h4; exact Ev.pos rfl (Ev.now _)
  refine Ev.neg h4 ?_
  rw [if_neg h4]
  by_cases h5 : op = 5
  · subst h5; exact Ev.pos rfl (Ev.now _)
  refine Ev.neg h5 ?_
  rw [if_neg h5]
  by_cases h6 : op = 6
  · subst h6; exact Ev.pos rfl (Ev.now _)
  refine Ev.neg h6 ?_
  rw [if_neg h6]
  by_cases h7 : op = 7
  · subst h7
    refine Ev.pos rfl ?_
    rw [if_pos rfl]
    unfold isPre
    by_cases q : (v.f1.size : Int) ≥ (fv.f1.size : Int)
    · exact Ev.pos q (Ev.pos (by omega) (Ev.pos (by omega) ((rhold0 _).eq (by rw [decide_eq_true (by omega), Bool.true_and, Int.toNat_natCast]))))
    · exact Ev.neg q ((rhold0 _).eq (by rw [decide_eq_false (by omega), Bool.false_and]))
  · refine Ev.neg h7 ((rhold0 _).eq ?_)
    rw [if_neg h7]

/-- The places that a filter takes. -/
def selP (t op : Int) (fv : XV) (col : List XV) (a : Int) : Bool := decide (0 ≤ a) && (decide (a < col.length) && holdsV t op fv (rdV col a))
end Go.Proofs.Ytbkpifcjgedjaaa.P

/- Which filters may be. -/
namespace Go.Proofs.Ytbkpifcjgedjaaa.P
open Go.RowKit Go.Proofs.YtbkpifcjgedjaaaW.PrintWords Go.Proofs.YtbkpifcjgedjaaaW.PrintLast Go.Proofs.YtbkpifcjgedjaaaW.PrintMore
set_option linter.unusedVariables false
set_option linter.unusedSimpArgs false

def okF (T : List Int) (f : XFl) : Bool := decide (0 ≤ f.f0) && (decide (f.f0 < T.length) && (fitT (rd T f.f0) f.f2 && (decide (1 ≤ f.f1) && (decide (f.f1 ≤ 7) && (decide (f.f1 ≠ 7) || decide (rd T f.f0 = 3))))))
theorem okF_iff (T : List Int) (f : XFl) : okF T f = true ↔ 0 ≤ f.f0 ∧ f.f0 < T.length ∧ fitT (rd T f.f0) f.f2 = true ∧ 1 ≤ f.f1 ∧ f.f1 ≤ 7 ∧ (f.f1 = 7 → rd T f.f0 = 3) := by
  unfold okF
  simp only [Bool.and_eq_true, Bool.or_eq_true, decide_eq_true_eq]
  constructor
  · rintro ⟨a, b, c, d, e, q⟩
    exact ⟨a, b, c, d, e, fun h => q.resolve_left (fun p => p h)⟩
  · rintro ⟨a, b, c, d, e, q⟩
    refine ⟨a, b, c, d, e, ?_⟩
    by_cases h : f.f1 = 7
    · exact Or.inr (q h)
    · exact Or.inl h
theorem okF_not {T : List Int} {f : XFl} (h : ¬ (0 ≤ f.f0 ∧ f.f0 < T.length ∧ fitT (rd T f.f0) f.f2 = true ∧ 1 ≤ f.f1 ∧ f.f1 ≤ 7 ∧ (f.f1 = 7 → rd T f.f0 = 3))) : okF T f = false := by
  rw [Bool.eq_false_iff]
  exact fun q => h ((okF_iff T f).mp q)
theorem all_drop {α : Type} (p : α → Bool) (l : List α) (i : Nat) (h : i < l.length) : (l.drop i).all p = (p l[i] && (l.drop (i + 1)).all p) := by rw [List.drop_eq_getElem_cons h, List.all_cons]
theorem may_loop (T : List Int) (K M G : Int) (l : List XFl) (hl : l.length ≤ 1000000) : ∀ (d i : Nat), i + d = l.length → Ev (fun k => filter_May.l0 k l l l.length i T K M G) ((l.drop i).all (okF T) && decide ((l.length : Int) ≤ 16))
  | 0, i, hi => by
    refine Ev.succ ?_
    simp only [filter_May.l0]
    rw [List.drop_of_length_le (by omega)]
    exact Ev.neg (by omega) ((Ev.now _).eq (by simp))
  | d + 1, i, hi => by
    have h : i < l.length := by omega
    have hn := may_loop T K M G l hl d (i + 1) (by omega)
    rw [all_drop (okF T) l i h]
    refine Ev.succ ?_
    simp only [filter_May.l0]
    rw [rdFl_lt l i h]
    have bad : okF T l[i] = false → Ev (fun k => filter_May.j1 k l l l.length i true T K M G l[i].f0 l[i].f1 l[i].f2.f0 l[i].f2.f1) ((okF T l[i] && (l.drop (i + 1)).all (okF T)) && decide ((l.length : Int) ≤ 16)) := fun hb => by
      refine Ev.succ ?_
      simp only [filter_May.j1]
      exact Ev.pos (by simp) ((Ev.now _).eq (by rw [hb]; simp))
    have bad2 : okF T l[i] = false → Ev (fun k => filter_May.j2 k l l l.length i true T K M G l[i].f0 l[i].f1 l[i].f2.f0 l[i].f2.f1) ((okF T l[i] && (l.drop (i + 1)).all (okF T)) && decide ((l.length : Int) ≤ 16)) := fun hb => by
      refine Ev.succ ?_
      simp only [filter_May.j2]
      exact Ev.pos (by simp) ((Ev.now _).eq (by rw [hb]; simp))
    refine Ev.pos (by omega) (Ev.pos (by omega) (Ev.pos (by omega) ?_))
    by_cases c0 : l[i].f0 < 0
    · exact Ev.pos c0 (bad (okF_not (fun q => by omega)))
    refine Ev.neg c0 ?_
    by_cases c1 : l[i].f0 ≥ (T.length : Int)
    · rw [decide_eq_true c1]
      exact bad (okF_not (fun q => by omega))
    rw [decide_eq_false c1]
    refine Ev.succ ?_
    simp only [filter_May.j1]
    refine Ev.neg (by simp) (Ev.pos (by omega) (Ev.pos (by omega) (Ev.bind (vfits_ev (rd T l[i].f0) l[i].f2.f0 l[i].f2.f1) ?_)))
    have ef : fitT (rd T l[i].f0) ⟨l[i].f2.f0, l[i].f2.f1⟩ = fitT (rd T l[i].f0) l[i].f2 := rfl
    rw [ef]
    by_cases c2 : fitT (rd T l[i].f0) l[i].f2 = true
    · refine Ev.pos c2 ?_
      by_cases c3 : l[i].f1 < 1
      · exact Ev.pos c3 (bad2 (okF_not (fun q => by omega)))
      refine Ev.neg c3 ?_
      by_cases c4 : l[i].f1 > 7
      · rw [decide_eq_true c4]
        exact bad2 (okF_not (fun q => by omega))
      rw [decide_eq_false c4]
      refine Ev.succ ?_
      simp only [filter_May.j2]
      refine Ev.neg (by simp) ?_
      simp (disch := omega) only [w64]
      by_cases c5 : l[i].f1 = 7
      · refine Ev.pos c5 (Ev.pos (by omega) (Ev.pos (by omega) ?_))
        by_cases c6 : rd T l[i].f0 = 3
        · have ok : okF T l[i] = true := (okF_iff T _).mpr ⟨by omega, by omega, c2, by omega, by omega, fun _ => c6⟩
          rw [ok, Bool.true_and]
          exact Ev.pos c6 hn
        · have ok : okF T l[i] = false := okF_not (fun q => c6 (q.2.2.2.2.2 c5))
          exact Ev.neg c6 ((Ev.now _).eq (by rw [ok]; simp))
      · have ok : okF T l[i] = true := (okF_iff T _).mpr ⟨by omega, by omega, c2, by omega, by omega, fun h => absurd h c5⟩
        rw [ok, Bool.true_and]
        exact Ev.neg c5 hn
    · exact Ev.neg c2 (bad2 (okF_not (fun q => c2 q.2.2.1)))
theorem fmay_ev (T : List Int) (K M G : Int) (l : List XFl) (hl : l.length ≤ 1000000) : Ev (fun k => filter_May.f k T K M G l) (l.all (okF T) && decide ((l.length : Int) ≤ 16)) := by
  simp only [filter_May.f]
  have := may_loop T K M G l hl l.length 0 (by omega)
  simpa using this
theorem rmay_loop (T : List Int) (K M G : Int) (l : List XFl) (hl : l.length ≤ 1000000) : ∀ (d i : Nat), i + d = l.length → Ev (fun k => thresherref19_May.l0 k l i T K M G) ((l.drop i).all (okF T))
  | 0, i, hi => by
    refine Ev.succ ?_
    simp only [thresherref19_May.l0]
    rw [List.drop_of_length_le (by omega)]
    exact Ev.neg (by omega) ((Ev.now _).eq (by simp))
  | d + 1, i, hi => by
    have h : i < l.length := by omega
    have hn := rmay_loop T K M G l hl d (i + 1) (by omega)
    rw [all_drop (okF T) l i h]
    refine Ev.succ ?_
    simp only [thresherref19_May.l0]
    rw [rdFl_lt l i h]
    have bad : okF T l[i] = false → Ev (fun k => thresherref19_May.j1 k l i true T K M G l[i].f0 l[i].f1 l[i].f2.f0 l[i].f2.f1) (okF T l[i] && (l.drop (i + 1)).all (okF T)) := fun hb => by
      refine Ev.succ ?_
      simp only [thresherref19_May.j1]
      exact Ev.pos (by simp) ((Ev.now _).eq (by rw [hb]; simp))
    have j2 : ∀ b : Bool, b = !(okF T l[i]) → Ev (fun k => thresherref19_May.j2 k l i b T K M G) (okF T l[i] && (l.drop (i + 1)).all (okF T)) := fun b hb => by
      refine Ev.succ ?_
      simp only [thresherref19_May.j2]
      simp (disch := omega) only [w64]
      cases q : okF T l[i]
      · rw [q] at hb; subst hb
        exact Ev.pos rfl ((Ev.now _).eq (by simp))
      · rw [q] at hb; subst hb
        exact Ev.neg (by simp) (hn.eq (by simp))
    refine Ev.pos (by omega) (Ev.pos (by omega) ?_)
    by_cases c0 : l[i].f0 < 0
    · exact Ev.pos c0 (bad (okF_not (fun q => by omega)))
    refine Ev.neg c0 ?_
    by_cases c1 : l[i].f0 ≥ (T.length : Int)
    · exact Ev.pos c1 (bad (okF_not (fun q => by omega)))
    refine Ev.neg c1 ?_
    by_cases c3 : l[i].f1 < 1
    · exact Ev.pos c3 (bad (okF_not (fun q => by omega)))
    refine Ev.neg c3 ?_
    by_cases c4 : l[i].f1 > 7
    · rw [decide_eq_true c4]
      exact bad (okF_not (fun q => by omega))
    rw [decide_eq_false c4]
    refine Ev.succ ?_
    simp only [thresherref19_May.j1]
    refine Ev.neg (by simp) (Ev.pos (by omega) (Ev.pos (by omega) (Ev.bind (rfits_ev (rd T l[i].f0) l[i].f2.f0 l[i].f2.f1) ?_)))
    have ef : fitT (rd T l[i].f0) ⟨l[i].f2.f0, l[i].f2.f1⟩ = fitT (rd T l[i].f0) l[i].f2 := rfl
    rw [ef]
    by_cases c2 : fitT (rd T l[i].f0) l[i].f2 = true
    · refine Ev.pos c2 ?_
      by_cases c5 : l[i].f1 = 7
      · refine Ev.pos c5 (j2 _ ?_)
        by_cases c6 : rd T l[i].f0 = 3
        · have ok : okF T l[i] = true := (okF_iff T _).mpr ⟨by omega, by omega, c2, by omega, by omega, fun _ => c6⟩
          rw [ok, c6]; rfl
        · have ok : okF T l[i] = false := okF_not (fun q => c6 (q.2.2.2.2.2 c5))
          rw [ok]
          simpa using c6
      · have ok : okF T l[i] = true := (okF_iff T _).mpr ⟨by omega, by omega, c2, by omega, by omega, fun h => absurd h c5⟩
        exact Ev.neg c5 (j2 _ (by rw [ok]; rfl))
    · exact Ev.neg c2 (j2 _ (by rw [okF_not (fun q => c2 q.2.2.1)]; rfl))
theorem rmay_ev (T : List Int) (K M G : Int) (l : List XFl) (hl : l.length ≤ 1000000) : Ev (fun k => thresherref19_May.f k T K M G l) (l.all (okF T) && decide ((l.length : Int) ≤ 16)) := by
  simp only [thresherref19_May.f]
  by_cases h : (l.length : Int) > 16
  · exact Ev.pos h ((Ev.now _).eq (by rw [decide_eq_false (show ¬ (l.length : Int) ≤ 16 by omega)]; simp))
  · refine Ev.neg h ?_
    have := rmay_loop T K M G l hl l.length 0 (by omega)
    rw [List.drop_zero] at this
    exact this.eq (by rw [decide_eq_true (show (l.length : Int) ≤ 16 by omega), Bool.and_true])
theorem fitF_ok {T : List Int} {K M G : Int} (hS : Sch T K M G) (f : XFl) : okF T (fitF T f) = true := by
  have kn := hS.kn
  have k1 := hS.k1
  have hc := md_rng f.f0 T.length (by omega)
  have ho := md_rng f.f1 7 (by omega)
  obtain ⟨x, hx⟩ : ∃ x : Nat, md f.f0 T.length = x := ⟨(md f.f0 T.length).toNat, by omega⟩
  have ht := hS.rdt x (by omega)
  rw [okF_iff]
  unfold fitF
  rw [hx]
  by_cases q : rd T x = 3
  · rw [if_pos q]
    refine ⟨by show (0 : Int) ≤ x; omega, by show (x : Int) < _; omega, ?_, by show 1 ≤ 1 + md f.f1 7; omega, by show 1 + md f.f1 7 ≤ 7; omega, fun _ => q⟩
    show fitT (rd T x) ⟨0, cut60 f.f2.f1⟩ = true
    rw [q]
    have := cut60_size f.f2.f1
    unfold fitT
    simp
    omega
  · rw [if_neg q]
    refine ⟨by show (0 : Int) ≤ x; omega, by show (x : Int) < _; omega, ?_, ?_, ?_, ?_⟩
    · show fitT (rd T x) ⟨f.f2.f0, ⟨#[]⟩⟩ = true
      unfold fitT
      rw [if_pos (by omega)]
      simp
    · show 1 ≤ if 1 + md f.f1 7 = 7 then (1 : Int) else 1 + md f.f1 7
      split <;> omega
    · show (if 1 + md f.f1 7 = 7 then (1 : Int) else 1 + md f.f1 7) ≤ 7
      split <;> omega
    · show (if 1 + md f.f1 7 = 7 then (1 : Int) else 1 + md f.f1 7) = 7 → rd T x = 3
      split
      · intro h; omega
      · intro h; rename_i h2; exact absurd h h2
theorem rkeep_in (T : List Int) (K M G : Int) (fs : List XFl) (hfs : fs.length ≤ 1000000) (hT : ∀ f ∈ fs, 0 ≤ f.f0 ∧ f.f0 < T.length) (gf : ∀ f ∈ fs, GV f.f2) (rows : List (List XV)) (hrows : rows.length ≤ 1000000) (i : Nat) (hi : i < rows.length) (hr : ∀ f ∈ fs, f.f0 < rows[i].length) (gr : GR rows[i]) (acc : List (List XV)) (hacc : acc.length ≤ 1000000) {R : List (List XV)}
    (hR : Ev (fun k => thresherref19_Keep.l0 k fs rows (if keepV T fs rows[i] = true then acc ++ [rows[i]] else acc) ((i + 1 : Nat) : Int) T K M G) R) :
    ∀ (d j : Nat) (b : Bool), j + d = fs.length → b = (fs.take j).all (holdsF T rows[i]) → Ev (fun k => thresherref19_Keep.l1 k fs rows acc i b j T K M G) R
  | 0, j, b, hj, hb => by
    refine Ev.succ ?_
    simp only [thresherref19_Keep.l1]
    rw [List.take_of_length_le (by omega)] at hb
    rw [rdR_lt rows i hi]
    simp (disch := omega) only [w64]
    refine Ev.neg (by omega) ?_
    have e : keepV T fs rows[i] = b := hb.symm
    rw [e] at hR
    cases b
    · exact Ev.neg (by simp) hR
    · exact Ev.pos rfl (Ev.pos (by omega) (Ev.pos (by omega) (Ev.pos (by omega) hR)))
  | d + 1, j, b, hj, hb => by
    have h : j < fs.length := by omega
    refine Ev.succ ?_
    simp only [thresherref19_Keep.l1]
    rw [rdFl_lt fs j h, rdR_lt rows i hi]
    obtain ⟨c1, c2⟩ := hT _ (List.getElem_mem h)
    have c3 := hr _ (List.getElem_mem h)
    have gv : GV (rdV rows[i] fs[j].f0) ∧ (rdV rows[i] fs[j].f0).f1.size ≤ 9223372036854775807 := by
      obtain ⟨x, hx⟩ : ∃ x : Nat, fs[j].f0 = x := ⟨fs[j].f0.toNat, by omega⟩
      rw [hx]
      exact gr.rdV x
    have hh := rholds_ev (rd T fs[j].f0) fs[j].f0 fs[j].f1 fs[j].f2 (rdV rows[i] fs[j].f0) gv.1 (gf _ (List.getElem_mem h)) gv.2
    have hs : (fs.take (j + 1)).all (holdsF T rows[i]) = ((fs.take j).all (holdsF T rows[i]) && holdsF T rows[i] fs[j]) := by rw [List.take_succ_eq_append_getElem h, List.all_append]; simp
    simp (disch := omega) only [w64]
    refine Ev.pos (by omega) (Ev.pos (by omega) (Ev.pos (by omega) (Ev.pos (by omega) (Ev.pos (by omega) (Ev.pos (by omega) (Ev.pos (by omega) (Ev.bind hh ?_)))))))
    cases b
    · exact Ev.neg (by simp) (rkeep_in T K M G fs hfs hT gf rows hrows i hi hr gr acc hacc hR d (j + 1) false (by omega) (by rw [hs, ← hb]; rfl))
    · exact Ev.pos rfl (rkeep_in T K M G fs hfs hT gf rows hrows i hi hr gr acc hacc hR d (j + 1) _ (by omega) (by rw [hs, ← hb]; rfl))
theorem rkeep_loop (T : List Int) (K M G : Int) (fs : List XFl) (hfs : fs.length ≤ 1000000) (hT : ∀ f ∈ fs, 0 ≤ f.f0 ∧ f.f0 < T.length) (gf : ∀ f ∈ fs, GV f.f2) (rows : List (List XV)) (hrows : rows.length ≤ 1000000) (hr : ∀ r ∈ rows, ∀ f ∈ fs, f.f0 < r.length) (gr : ∀ r ∈ rows, GR r) : ∀ (d i : Nat) (acc : List (List XV)), i + d = rows.length → acc.length ≤ i → Ev (fun k => thresherref19_Keep.l0 k fs rows acc i T K M G) (acc ++ (rows.drop i).filter (keepV T fs))
  | 0, i, acc, hi, ha => by
    refine Ev.succ ?_
    simp only [thresherref19_Keep.l0]
    rw [List.drop_of_length_le (by omega)]
    exact Ev.neg (by omega) ((Ev.now _).eq (by simp))
  | d + 1, i, acc, hi, ha => by
    have h : i < rows.length := by omega
    refine Ev.succ ?_
    simp only [thresherref19_Keep.l0]
    rw [List.drop_eq_getElem_cons h]
    refine Ev.pos (by omega) ?_
    refine rkeep_in T K M G fs hfs hT gf rows hrows i h (hr _ (List.getElem_mem h)) (gr _ (List.getElem_mem h)) acc (by omega) ?_ fs.length 0 true (by omega) (by simp)
    have hl := rkeep_loop T K M G fs hfs hT gf rows hrows hr gr d (i + 1)
    by_cases q : keepV T fs rows[i] = true
    · rw [if_pos q, List.filter_cons, if_pos q]
      exact (hl (acc ++ [rows[i]]) (by omega) (by simp; omega)).eq (by simp)
    · rw [if_neg q, List.filter_cons, if_neg q]
      exact hl acc (by omega) (by omega)
theorem rkeep_ev (T : List Int) (K M G : Int) (fs : List XFl) (hfs : fs.length ≤ 1000000) (hT : ∀ f ∈ fs, 0 ≤ f.f0 ∧ f.f0 < T.length) (gf : ∀ f ∈ fs, GV f.f2) (rows : List (List XV)) (hrows : rows.length ≤ 1000000) (hr : ∀ r ∈ rows, ∀ f ∈ fs, f.f0 < r.length) (gr : ∀ r ∈ rows, GR r) : Ev (fun k => thresherref19_Keep.f k T K M G fs rows) (rows.filter (keepV T fs)) := by
  simp only [thresherref19_Keep.f]
  have := rkeep_loop T K M G fs hfs hT gf rows hrows hr gr rows.length 0 [] (by omega) (by simp)
  simpa using this
end Go.Proofs.Ytbkpifcjgedjaaa.P

/- Which filters may be, and which rows they keep, is as the document says: the plain law. -/
namespace Go.Proofs.Ytbkpifcjgedjaaa.Pure
open Go.RowKit Go.Proofs.Ytbkpifcjgedjaaa.P Go.Proofs.YtbkpifcjgedjaaaW.PrintWords Go.Proofs.YtbkpifcjgedjaaaW.PrintLast
set_option linter.unusedVariables false
theorem shown_ev : Ev (fun k => thresherlaw19_shown.f k) true := Ev.of thresherlaw19_shown.mono (k := 10) (by kernel_rfl)
def someF (f : XFl) : XFl := if (f.f2.f1.size : Int) > 70 then ⟨f.f0, f.f1, ⟨f.f2.f0, f.f2.f1.extract 0 70⟩⟩ else f
theorem some_loop (l : List XFl) : ∀ (d i : Nat) (acc : List XFl), i + d = min l.length 20 → acc.length = i → Ev (fun k => thresherlaw19_some.l0 k l acc i) (acc ++ ((l.take 20).drop i).map someF)
  | 0, i, acc, hi, ha => by
    refine Ev.succ ?_
    simp only [thresherlaw19_some.l0]
    rw [List.drop_of_length_le (by rw [List.length_take]; omega)]
    have hj : Ev (fun k => thresherlaw19_some.j1 k l acc i false) (acc ++ List.map someF []) := by
      refine Ev.succ ?_
      simp only [thresherlaw19_some.j1]
      exact Ev.neg (by simp) ((Ev.now _).eq (by simp))
    by_cases h : (i : Int) < l.length
    · refine Ev.pos h ?_
      rw [decide_eq_false (by omega)]
      exact hj
    · exact Ev.neg h hj
  | d + 1, i, acc, hi, ha => by
    have h : i < l.length := by omega
    have h' : i < (l.take 20).length := by rw [List.length_take]; omega
    rw [List.drop_eq_getElem_cons h', List.getElem_take, List.map_cons]
    have hn : Ev (fun k => thresherlaw19_some.l0 k l (acc ++ [someF l[i]]) ((i + 1 : Nat) : Int)) (acc ++ (someF l[i] :: ((l.take 20).drop (i + 1)).map someF)) :=
      (some_loop l d (i + 1) (acc ++ [someF l[i]]) (by omega) (by simp; omega)).eq (by simp)
    have hj2 : ∀ a b c s, (⟨a, b, ⟨c, s⟩⟩ : XFl) = someF l[i] → Ev (fun k => thresherlaw19_some.j2 k l acc i a b c s) (acc ++ (someF l[i] :: ((l.take 20).drop (i + 1)).map someF)) := fun a b c s hf => by
      refine Ev.succ ?_
      simp only [thresherlaw19_some.j2]
      rw [hf]
      simp (disch := omega) only [w64]
      exact Ev.pos (by omega) hn
    refine Ev.succ ?_
    simp only [thresherlaw19_some.l0]
    refine Ev.pos (by omega) ?_
    rw [decide_eq_true (by omega)]
    refine Ev.succ ?_
    simp only [thresherlaw19_some.j1]
    rw [rdFl_lt l i h]
    refine Ev.pos (by simp) (Ev.pos (by omega) (Ev.pos (by omega) ?_))
    by_cases q : (l[i].f2.f1.size : Int) > 70
    · exact Ev.pos q (Ev.pos (by omega) (Ev.pos (by omega) (hj2 _ _ _ _ (by unfold someF; rw [if_pos q]))))
    · exact Ev.neg q (hj2 _ _ _ _ (by unfold someF; rw [if_neg q]))
theorem some_ev (l : List XFl) : Ev (fun k => thresherlaw19_some.f k l) ((l.take 20).map someF) := by
  simp only [thresherlaw19_some.f]
  have := some_loop l (min l.length 20) 0 [] (by omega) rfl
  simpa using this
theorem FilterAll : thresherlaw19_FilterAll.PureG := by
  intro x l c hx ⟨_, hl⟩ ⟨_, hc⟩
  obtain ⟨T, K, M, G, hmade, hS⟩ := shape_ev hx
  obtain ⟨n, rfl⟩ : ∃ n : Nat, K = n := ⟨K.toNat, by have := hS.k1; omega⟩
  have n8 := hS.n8
  have kn := hS.kn
  have k1 := hS.k1
  have grd : ∀ r : List XV, (∀ v ∈ r, gd37 v) → GR r := fun r h v hv => by
    obtain ⟨h1, h2⟩ := h v hv
    exact ⟨wf_i64 h1, by unfold maxLen at h2; omega⟩
  obtain ⟨ls, els⟩ : ∃ ls, (l.take 20).map someF = ls := ⟨_, rfl⟩
  have hsome := some_ev l
  rw [els] at hsome
  have lls : ls.length ≤ 20 := by rw [← els, List.length_map, List.length_take]; omega
  have gls : ∀ f ∈ ls, GV f.f2 := fun f hf => by
    rw [← els] at hf
    obtain ⟨q, hq, rfl⟩ := List.mem_map.mp hf
    obtain ⟨_, _, g3, _⟩ := hl q (List.mem_of_mem_take hq)
    unfold someF
    split
    · exact wf_i64 g3
    · exact wf_i64 g3
  have hfit := ffit_ev T n M G (by omega) (by omega) ls 16 (by omega)
  have hf := fits_ev T n M G c 60 (by omega) (by omega)
  obtain ⟨fs, efs⟩ : ∃ fs, (ls.take 16).map (fitF T) = fs := ⟨_, rfl⟩
  obtain ⟨rows, erows⟩ : ∃ rows, (c.take 60).map (fitRow T) = rows := ⟨_, rfl⟩
  have a1 : fs.length ≤ 16 := by rw [← efs, List.length_map, List.length_take]; omega
  have a2 : rows.length ≤ 60 := by rw [← erows, List.length_map, List.length_take]; omega
  have a3 : ∀ r ∈ rows, r.length = T.length := fun r hr => by rw [← erows] at hr; obtain ⟨q, _, rfl⟩ := List.mem_map.mp hr; exact fitRow_length T q
  have a4 : ∀ f ∈ fs, 0 ≤ f.f0 ∧ f.f0 < T.length := fun f hf => by rw [← efs] at hf; obtain ⟨q, _, rfl⟩ := List.mem_map.mp hf; exact fitF_col T (by omega) q
  have a5 : ∀ f ∈ fs, GV f.f2 := fun f hf => by
    rw [← efs] at hf
    obtain ⟨q, hq, rfl⟩ := List.mem_map.mp hf
    have g3 := gls q (List.mem_of_mem_take hq)
    unfold fitF
    split
    · exact ⟨by show (_ : Int) ≤ 0; omega, by show (0 : Int) ≤ _; omega⟩
    · exact g3
  have a6 : ∀ r ∈ rows, GR r := fun r hr v hv => by
    rw [← erows] at hr
    obtain ⟨q, hq, rfl⟩ := List.mem_map.mp hr
    have gq := grd q (hc q (List.mem_of_mem_take hq)).2
    obtain ⟨i, hi, rfl⟩ := List.getElem_of_mem hv
    have hi2 : i < T.length := by rwa [fitRow_length] at hi
    have e := rdV_fitRow T q i hi2
    rw [show rdV (fitRow T q) i = (fitRow T q)[i] from rdV_lt _ i hi] at e
    rw [e]
    have g := gq.rdV i
    refine ⟨fit1_GV _ _ g.1, ?_⟩
    unfold fit1
    split
    · show (if ((rdV q i).f1.size : Int) > 60 then (rdV q i).f1.extract 0 60 else (rdV q i).f1).size ≤ _
      split
      · rw [ByteArray.size_extract]; omega
      · exact g.2
    · show (0 : Nat) ≤ _; omega
  have a7 : fs.all (okF T) = true := List.all_eq_true.mpr (fun f hf => by rw [← efs] at hf; obtain ⟨q, _, rfl⟩ := List.mem_map.mp hf; exact fitF_ok hS q)
  rw [efs] at hfit
  rw [erows] at hf
  have hcols : ∀ r ∈ rows, ∀ f ∈ fs, f.f0 < r.length := fun r h f hf => by have := a3 r h; have := a4 f hf; omega
  have k1e := keep_ev T n M G fs (by omega) a4 rows (by omega) hcols
  have k2e := rkeep_ev T n M G fs (by omega) a4 a5 rows (by omega) hcols a6
  have hkl := List.length_filter_le (keepV T fs) rows
  have hro := rows_ev (rows.filter (keepV T fs)) (rows.filter (keepV T fs)) (by omega) (fun r hr => by have := a3 r (List.mem_filter.mp hr).1; omega)
  have hm := (fmay_ev T n M G fs (by omega)).eq (show _ = true by rw [a7, decide_eq_true (show (fs.length : Int) ≤ 16 by omega)]; rfl)
  apply Ev.rounds
  simp only [thresherlaw19_FilterAll.f, thresherlaw19_made.f]
  refine Ev.bind shown_ev (Ev.bind (Ev.bind hmade (Ev.now _)) (Ev.bind hsome (Ev.bind hf (Ev.bind (fmay_ev T n M G ls (by omega)) (Ev.bind (rmay_ev T n M G ls (by omega)) (Ev.neg (by simp) (Ev.bind hfit (Ev.bind k1e (Ev.bind k2e (Ev.bind hro (Ev.pos rfl (Ev.pos (by simp) (Ev.bind hm (Ev.succ (Ev.now _)))))))))))))))
end Go.Proofs.Ytbkpifcjgedjaaa.Pure

-- Written by wip/tools/myprint.py: the row of FilterAll, out of its plain law and its walk.
namespace Go.Proofs.Ytbkpifcjgedjaaa.filterAll
open Go.ChangeShapes Go.WideShapes Go.ChangeAt Go.RowKit Go.Proofs.Ytbkpifcjgedjaaa.P Go.Proofs.YtbkpifcjgedjaaaW.PrintWords
set_option linter.unusedVariables false
set_option linter.unusedSimpArgs false
theorem own : ownKnob Try.prog.godebug = none := by kernel_rfl
theorem laidOut : laidOutB Try.prog = true := by kernel_rfl
set_option maxRecDepth 100000 in
theorem lifted (os : Os) (started : os.Started) (H : Type) (enc : TypeId × Value → H) :
    ReturnsInHanded {} Try.checked os 6 .any (Rows.filterAllSpec.pre6 enc Try.prog Try.f6 Rows.filterAllRow.domain false) (Rows.filterAllSpec.post enc Try.prog Try.f6 false true false false) := by
  refine returnsInHanded_of_change_sized (C := Try.checked) own started (by kernel_rfl) Try.func6
    (ChangeSpec.witness6 (enc := enc) (C := Try.checked) false ⟨#[], #[.agg #[.int .u8 0, .int .u8 0, .int .u8 0, .int .u8 0, .int .u8 0, .int .u8 0, .int .u8 0, .int .u8 0, .int .u8 0, .int .u8 0, .int .u8 0, .int .u8 0], .slice none 0 0, .slice none 0 0], []⟩ 8 (by kernel_rfl) (by kernel_rfl) (by kernel_rfl) (by kernel_rfl)) ?_
  intro W base args ds gs before hval0 hW hcnd hsz0 _
  have hval : ∀ (j : Nat) t v, Try.f6.params[j]? = some t → args[j]? = some v → Value.okWide Try.prog W .any base t v := hval0
  have hW' := hW
  obtain ⟨p, q, hA0, hV, rfl, hfz, hnd⟩ := hW
  have hA : DataW.TrodAll enc Try.prog W 0 (fun _ => true) true Try.f6.params.toList args.toList ds p := hA0
  rw [Try.params6] at hA hval
  obtain ⟨v0, vs0, d0, ds0, p0, q0, hargs, rfl, rfl, h0, r0⟩ := trodAll_cons hA
  obtain ⟨v1, vs1, d1, ds1, p1, q1, rfl, rfl, rfl, h1, r1⟩ := trodAll_cons r0
  obtain ⟨v2, vs2, d2, ds2, p2, q2, rfl, rfl, rfl, h2, r2⟩ := trodAll_cons r1
  obtain ⟨rfl, rfl, rfl⟩ := trodAll_nil r2
  obtain rfl : args = #[v0, v1, v2] := by cases args; simp_all
  obtain ⟨rfl, rfl⟩ := trodVars_none hV
  have lt0 : ∀ x ∈ p0, x.block < W.heap.size := by obtain ⟨m, hm⟩ := h0; exact DataW.trod_lt m _ _ _ hm
  obtain ⟨x0, K0, g0⟩ := (op24).arg h0
  obtain ⟨cs0, rfl⟩ := okWide_agg Try.underlying24 (hval 0 24 v0 rfl rfl)
  have e0 := k24_open K0
  replace e0 := agg_of e0
  have lt1 : ∀ x ∈ p1, x.block < W.heap.size := by obtain ⟨m, hm⟩ := h1; exact DataW.trod_lt m _ _ _ hm
  obtain ⟨x1, K1, g1⟩ := ((opens_slice Try.underlying25 (by kernel_rfl) op39)).arg h1
  obtain ⟨a1, len1, cap1, rfl⟩ := okWide_slice Try.underlying25 (hval 1 25 v1 rfl rfl)
  obtain ⟨A1, c1, e1, hl1, hr1⟩ := K1
  simp [Value.cells] at e1
  obtain ⟨rfl, rfl, rfl⟩ := e1
  have lt2 : ∀ x ∈ p2, x.block < W.heap.size := by obtain ⟨m, hm⟩ := h2; exact DataW.trod_lt m _ _ _ hm
  obtain ⟨x2, K2, g2⟩ := ((opens_slice Try.underlying26 (by kernel_rfl) (opens_slice Try.underlying41 (by kernel_rfl) op37))).arg h2
  obtain ⟨a2, len2, cap2, rfl⟩ := okWide_slice Try.underlying26 (hval 2 26 v2 rfl rfl)
  obtain ⟨A2, c2, e2, hl2, hr2⟩ := K2
  simp [Value.cells] at e2
  obtain ⟨rfl, rfl, rfl⟩ := e2
  obtain ⟨k, hk⟩ := Pure.FilterAll x0 x1 x2 g0 g1 g2
  have call : Calls Try.prog 6 #[.agg cs0, .slice a1 x1.length cap1, .slice a2 x2.length cap2] W fun e W' => e = .returned (.bool true) ∧ Below W.heap.size W W' := by
    rw [e0]
    refine (thresherlaw19_FilterAll.calls k _ _ _ _ _ _ _ _ _ _ _ _ _ _ _ _ _ _ true W hr1 hl1 hr2 hl2 hk).mono ?_
    rintro e w' ⟨rfl, hd⟩
    exact ⟨rfl, hd⟩
  refine call.mono fun e W' ⟨he, bel⟩ => ?_
  subst he
  exact ⟨_, rfl, _, _, _, [], _, [], hW', trodAll_mk1 (shut_bool Try.underlying4 _), (trodAll_cons_mk (Below.trod laidOut (by kernel_rfl) (of_decide_eq_true (by kernel_rfl)) h0 bel lt0) (trodAll_cons_mk (Below.trod laidOut (by kernel_rfl) (of_decide_eq_true (by kernel_rfl)) h1 bel lt1) (trodAll_cons_mk (Below.trod laidOut (by kernel_rfl) (of_decide_eq_true (by kernel_rfl)) h2 bel lt2) trodAll_mk0))), rfl, bel.frame _, fun h => by cases h⟩
theorem over : Rows.filterAllRow.holds Try.pinned (OpenSpec.ofChange Rows.filterAllSpec) :=
  OpenClaim.holds_of_wide 6 Try.f6 rfl rfl rfl rfl rfl rfl rfl ⟨rfl, rfl, rfl, rfl, rfl⟩ rfl rfl rfl rfl rfl (by kernel_rfl) Try.func6 (by kernel_rfl)
    (of_decide_eq_true (by kernel_rfl)) (by unfold Func.isWrapper; first | (rw [if_pos (by decide +kernel)]; kernel_rfl) | (rw [if_neg (by decide +kernel)]; exact ⟨rfl, rfl⟩))
    (fun os started H enc _ => lifted os started H enc)
theorem proved : Rows.FilterAllSaid := over
#print axioms proved
end Go.Proofs.Ytbkpifcjgedjaaa.filterAll
namespace Go.Proofs.Ytbkpifcjgedjaaa
/-- The row, under a short name, for the claim. -/
theorem filterAll_holds : Rows.FilterAllSaid := filterAll.proved
end Go.Proofs.Ytbkpifcjgedjaaa

