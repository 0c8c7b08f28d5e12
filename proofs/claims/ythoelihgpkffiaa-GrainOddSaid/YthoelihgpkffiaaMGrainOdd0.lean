/- The row of GrainOdd. Merged: SGrainOdd, XBase, XCol, XSame7, XTab, PureGrainOdd, RGrainOdd. -/
import Derived.Test.YthoelihgpkffiaaPx10
import Derived.Test.YthoelihgpkffiaaO
import Derived.Test.YthoelihgpkffiaaPx0
import Derived.Test.YthoelihgpkffiaaHBase
import Derived.Test.YthoelihgpkffiaaPx9
import Derived.Test.YthoelihgpkffiaaPx11
import Derived.Test.YthoelihgpkffiaaRows
import Derived.WalkKit
import Derived.ProofKit
import Derived.OpenShut
import Derived.ShutString
import Derived.ChangeOld
import Derived.Below
import Derived.SizedLaws
-- Written by wip/tools/myprint.py: the plain statement of GrainOdd.
namespace Go.Proofs.Ythoelihgpkffiaa.P
open Go.RowKit Go.Proofs.YthoelihgpkffiaaW.PrintWords
def thresherlaw10_GrainOdd.PureG : Prop := ∀ (x0 : List (S45)) (x1 : List (S45)), (x0.length ≤ maxLen ∧ ∀ a ∈ x0, gd45 a) → (x1.length ≤ maxLen ∧ ∀ a ∈ x1, gd45 a) → ∃ k, thresherlaw10_GrainOdd.f k x0 x1 = some true
end Go.Proofs.Ythoelihgpkffiaa.P

/- Words of the laws about rows. -/
namespace Go.Proofs.Ythoelihgpkffiaa.P
open Go.RowKit Go.Proofs.YthoelihgpkffiaaW.PrintWords Go.Proofs.YthoelihgpkffiaaW.PrintLast Go.Proofs.YthoelihgpkffiaaW.PrintMore
set_option linter.unusedVariables false
set_option linter.unusedSimpArgs false

abbrev XV := S45
abbrev rdV (l : List XV) (i : Int) : XV := rd_T45 l i
abbrev rdR (l : List (List XV)) (i : Int) : List XV := rd_L3 l i
theorem rd_lt (l : List Int) (i : Nat) (h : i < l.length) : rd l i = l[i] := by unfold rd; simp [List.getD, h]
theorem rdV_lt (l : List XV) (i : Nat) (h : i < l.length) : rd_T45 l i = l[i] := by unfold rd_T45; simp [List.getD, h]
theorem rdV_ge (l : List XV) (i : Nat) (h : l.length ≤ i) : rd_T45 l i = ⟨0, ⟨#[]⟩⟩ := by unfold rd_T45; simp [List.getD, h]; rfl
theorem rdR_lt (l : List (List XV)) (i : Nat) (h : i < l.length) : rd_L3 l i = l[i] := by unfold rd_L3; simp [List.getD, h]

/-- A schema that may be. -/
structure Sch (T : List Int) (K M G : Int) : Prop where
  n1 : 1 ≤ T.length
  n8 : T.length ≤ 8
  ty : ∀ t ∈ T, 1 ≤ t ∧ t ≤ 3
  k1 : 1 ≤ K
  kn : K ≤ T.length
  m1 : 1 ≤ M
  m3 : M ≤ 3
  g1 : 1 ≤ G
  g8 : G ≤ 8
theorem Sch.rdt {T : List Int} {K M G : Int} (h : Sch T K M G) (i : Nat) (hi : i < T.length) : 1 ≤ rd T i ∧ rd T i ≤ 3 := by
  rw [rd_lt T i hi]; exact h.ty _ (List.getElem_mem hi)

/-- Does a value fit a type? -/
def fitT (t : Int) (v : XV) : Bool := if t = 1 ∨ t = 2 then v.f1.toList == ([] : List UInt8) else if t = 3 then (if v.f0 = 0 then decide ((v.f1.size : Int) ≤ 60) else false) else false
def rowOkB (T : List Int) (r : List XV) : Bool := decide (T.length = r.length) && (List.range T.length).all fun (i : Nat) => fitT (rd T i) (rdV r i)
/-- The value made to fit a type. -/
def fit1 (t : Int) (v : XV) : XV := if t = 3 then ⟨0, if (v.f1.size : Int) > 60 then v.f1.extract 0 60 else v.f1⟩ else ⟨v.f0, ⟨#[]⟩⟩
def fitRow (T : List Int) (r : List XV) : List XV := (List.range' 0 T.length).map fun (i : Nat) => fit1 (rd T i) (rdV r i)
theorem fitRow_length (T : List Int) (r : List XV) : (fitRow T r).length = T.length := by simp [fitRow]
theorem rdV_fitRow (T : List Int) (r : List XV) (i : Nat) (hi : i < T.length) : rdV (fitRow T r) i = fit1 (rd T i) (rdV r i) := by
  show rd_T45 _ _ = _
  rw [rdV_lt _ i (by rw [fitRow_length]; exact hi)]
  simp [fitRow]
theorem fitT_fit1 (t : Int) (v : XV) (h1 : 1 ≤ t) (h3 : t ≤ 3) : fitT t (fit1 t v) = true := by
  unfold fitT fit1
  by_cases e : t = 3
  · subst e
    simp only [if_true, if_pos rfl]
    rw [if_neg (by omega)]
    rw [decide_eq_true_iff]
    split
    · simp only [ByteArray.size_extract]; omega
    · omega
  · rw [if_pos (by omega), if_neg e]
    simp [ByteArray.toList_eq]
theorem bytes_eq {a b : ByteArray} (h : a.toList = b.toList) : a = b := by
  rw [ByteArray.toList_eq, ByteArray.toList_eq] at h
  exact ByteArray.ext (Array.toList_inj.mp h)
theorem XV.same {a b : XV} : (!(a.f0 == b.f0) || (!(a.f1.toList == b.f1.toList))) = true ↔ a ≠ b := by
  constructor
  · rintro h rfl
    simp at h
  · intro h
    by_cases h0 : a.f0 = b.f0
    · by_cases h1 : a.f1.toList = b.f1.toList
      · exact absurd (by cases a; cases b; simp only at h0 h1; rw [h0, bytes_eq h1]) h
      · simp [h1]
    · simp [h0]
instance : DecidableEq XV := fun a b => if h : (!(a.f0 == b.f0) || (!(a.f1.toList == b.f1.toList))) = true then isFalse (XV.same.mp h) else isTrue (Classical.byContradiction fun e => h (XV.same.mpr e))
end Go.Proofs.Ythoelihgpkffiaa.P

/- A column of rows. -/
namespace Go.Proofs.Ythoelihgpkffiaa.P
open Go.RowKit Go.Proofs.YthoelihgpkffiaaW.PrintWords Go.Proofs.YthoelihgpkffiaaW.PrintLast Go.Proofs.YthoelihgpkffiaaW.PrintMore
set_option linter.unusedVariables false
set_option linter.unusedSimpArgs false

def colF (at_ : Int) : List (List XV) → List XV → List XV
  | [], acc => acc
  | r :: rest, acc => if 0 ≤ at_ ∧ at_ < r.length then colF at_ rest (acc ++ [rdV r at_]) else []
theorem col_loop (l : List (List XV)) (at_ : Int) (hl : l.length ≤ 1000000) : ∀ (d i : Nat) (acc : List XV), i + d = l.length → acc.length = i → Ev (fun k => grain_Column.l0 k at_ acc l l.length i) (colF at_ (l.drop i) acc)
  | 0, i, acc, hi, ha => by
    refine Ev.succ ?_
    simp only [grain_Column.l0]
    rw [List.drop_of_length_le (by omega)]
    exact Ev.neg (by omega) (Ev.now _)
  | d + 1, i, acc, hi, ha => by
    have h : i < l.length := by omega
    refine Ev.succ ?_
    simp only [grain_Column.l0]
    rw [rdR_lt l i h, List.drop_eq_getElem_cons h]
    simp (disch := omega) only [w64]
    unfold colF
    refine Ev.pos (by omega) (Ev.pos (by omega) (Ev.pos (by omega) ?_))
    by_cases h0 : at_ < 0
    · rw [if_neg (by omega)]
      exact Ev.pos h0 (Ev.now _)
    · refine Ev.neg h0 ?_
      by_cases h1 : at_ ≥ (l[i].length : Int)
      · rw [if_neg (by omega)]
        exact Ev.pos h1 (Ev.now _)
      · rw [if_pos (by omega)]
        exact Ev.neg h1 (Ev.pos (by omega) (Ev.pos (by omega) (Ev.pos (by omega) (col_loop l at_ hl d (i + 1) (acc ++ [rdV l[i] at_]) (by omega) (by simp; omega)))))
theorem col_ev (l : List (List XV)) (at_ : Int) (hl : l.length ≤ 1000000) : Ev (fun k => grain_Column.f k l at_) (colF at_ l []) := by
  simp only [grain_Column.f]
  exact col_loop l at_ hl l.length 0 [] (by omega) rfl
theorem refcol_loop (l : List (List XV)) (at_ : Int) (hl : l.length ≤ 1000000) : ∀ (d i : Nat) (acc : List XV), i + d = l.length → acc.length = i → Ev (fun k => thresherref10_Column.l0 k l at_ acc i) (colF at_ (l.drop i) acc)
  | 0, i, acc, hi, ha => by
    refine Ev.succ ?_
    simp only [thresherref10_Column.l0]
    rw [List.drop_of_length_le (by omega)]
    exact Ev.neg (by omega) (Ev.now _)
  | d + 1, i, acc, hi, ha => by
    have h : i < l.length := by omega
    refine Ev.succ ?_
    simp only [thresherref10_Column.l0]
    rw [rdR_lt l i h, List.drop_eq_getElem_cons h]
    simp (disch := omega) only [w64]
    unfold colF
    refine Ev.pos (by omega) ?_
    by_cases h0 : at_ < 0
    · rw [if_neg (by omega)]
      exact Ev.pos h0 (Ev.now _)
    · refine Ev.neg h0 (Ev.pos (by omega) ?_)
      by_cases h1 : at_ ≥ (l[i].length : Int)
      · rw [if_neg (by omega)]
        exact Ev.pos h1 (Ev.now _)
      · rw [if_pos (by omega)]
        exact Ev.neg h1 (Ev.pos (by omega) (Ev.pos (by omega) (Ev.pos (by omega) (refcol_loop l at_ hl d (i + 1) (acc ++ [rdV l[i] at_]) (by omega) (by simp; omega)))))
theorem refcol_ev (l : List (List XV)) (at_ : Int) (hl : l.length ≤ 1000000) : Ev (fun k => thresherref10_Column.f k l at_) (colF at_ l []) := by
  simp only [thresherref10_Column.f]
  exact refcol_loop l at_ hl l.length 0 [] (by omega) rfl
theorem colF_length (at_ : Int) : ∀ (l : List (List XV)) (acc : List XV), (colF at_ l acc).length ≤ acc.length + l.length
  | [], acc => by simp [colF]
  | r :: rest, acc => by
    unfold colF
    split
    · have := colF_length at_ rest (acc ++ [rdV r at_])
      simp at this ⊢
      omega
    · simp
end Go.Proofs.Ythoelihgpkffiaa.P

/- Are two rows of values the same? -/
namespace Go.Proofs.Ythoelihgpkffiaa.P
open Go.RowKit Go.Proofs.YthoelihgpkffiaaW.PrintWords Go.Proofs.YthoelihgpkffiaaW.PrintLast Go.Proofs.YthoelihgpkffiaaW.PrintMore
set_option linter.unusedVariables false
set_option linter.unusedSimpArgs false

theorem same7_loop (a b : List XV) (hl : a.length = b.length) (hb : a.length ≤ 1000000000) : ∀ (d i : Nat), i + d = a.length → Ev (fun k => thresherref07_Same.l0 k a b i) (decide (a.drop i = b.drop i))
  | 0, i, hi => by
    refine Ev.succ ?_
    simp only [thresherref07_Same.l0]
    refine Ev.neg (by omega) ((Ev.now _).eq ?_)
    rw [List.drop_of_length_le (by omega), List.drop_of_length_le (by omega)]
    simp
  | d + 1, i, hi => by
    have h1 : i < a.length := by omega
    have h2 : i < b.length := by omega
    refine Ev.succ ?_
    simp only [thresherref07_Same.l0]
    simp (disch := omega) only [w64]
    rw [rdV_lt a i h1, rdV_lt b i h2]
    rw [List.drop_eq_getElem_cons h1, List.drop_eq_getElem_cons h2]
    refine Ev.pos (by omega) (Ev.pos (by omega) (Ev.pos (by omega) ?_))
    by_cases e : a[i] = b[i]
    · refine Ev.neg (fun h => XV.same.mp h e) ((same7_loop a b hl hb d (i + 1) (by omega)).eq ?_)
      rw [e]
      exact decide_eq_decide.mpr ⟨fun h => by rw [h], fun h => (List.cons.inj h).2⟩
    · refine Ev.pos (XV.same.mpr e) ((Ev.now _).eq ?_)
      symm
      rw [decide_eq_false_iff_not]
      intro h
      exact e (List.cons.inj h).1
theorem same7_ev (a b : List XV) (hb : a.length ≤ 1000000000) : Ev (fun k => thresherref07_Same.f k a b) (decide (a = b)) := by
  simp only [thresherref07_Same.f]
  by_cases hl : a.length = b.length
  · refine Ev.pos (by omega) ?_
    have := same7_loop a b hl hb a.length 0 (by omega)
    simpa using this
  · refine Ev.neg (by omega) ((Ev.now _).eq ?_)
    symm
    rw [decide_eq_false_iff_not]
    rintro rfl
    exact hl rfl
end Go.Proofs.Ythoelihgpkffiaa.P

/- Rows out of columns. -/
namespace Go.Proofs.Ythoelihgpkffiaa.P
open Go.RowKit Go.Proofs.YthoelihgpkffiaaW.PrintWords Go.Proofs.YthoelihgpkffiaaW.PrintLast Go.Proofs.YthoelihgpkffiaaW.PrintMore
set_option linter.unusedVariables false
set_option linter.unusedSimpArgs false

/-- n rows of columns. -/
def tabR (cols : List (List XV)) (n : Nat) : List (List XV) := (List.range n).map fun (j : Nat) => cols.map fun c => rdV c j
theorem tabR_length (cols : List (List XV)) (n : Nat) : (tabR cols n).length = n := by simp [tabR]
def stepR (cols : List (List XV)) (c : List XV) (n j : Nat) : List (List XV) := (List.range n).map fun (q : Nat) => if q < j then (cols.map fun c => rdV c q) ++ [rdV c q] else cols.map fun c => rdV c q
theorem stepR_zero (cols : List (List XV)) (c : List XV) (n : Nat) : stepR cols c n 0 = tabR cols n := by
  unfold stepR tabR
  apply List.map_congr_left
  intro q _
  rw [if_neg (by omega)]
theorem stepR_all (cols : List (List XV)) (c : List XV) (n : Nat) : stepR cols c n n = tabR (cols ++ [c]) n := by
  unfold stepR tabR
  apply List.map_congr_left
  intro q hq
  rw [if_pos (List.mem_range.mp hq), List.map_append]
  rfl
theorem stepR_length (cols : List (List XV)) (c : List XV) (n j : Nat) : (stepR cols c n j).length = n := by simp [stepR]
theorem stepR_at (cols : List (List XV)) (c : List XV) (n j : Nat) (h : j < n) : rdR (stepR cols c n j) j = cols.map fun c => rdV c j := by
  rw [show rdR (stepR cols c n j) j = _ from rdR_lt _ j (by rw [stepR_length]; exact h)]
  unfold stepR
  rw [List.getElem_map, List.getElem_range, if_neg (by omega)]
theorem stepR_get (cols : List (List XV)) (c : List XV) (n j q : Nat) (h : q < (stepR cols c n j).length) : (stepR cols c n j)[q] = if q < j then (cols.map fun c => rdV c q) ++ [rdV c q] else cols.map fun c => rdV c q := by simp [stepR]
theorem stepR_set (cols : List (List XV)) (c : List XV) (n j : Nat) (h : j < n) : (stepR cols c n j).set j ((cols.map fun c => rdV c j) ++ [rdV c j]) = stepR cols c n (j + 1) := by
  apply List.ext_getElem
  · rw [List.length_set, stepR_length, stepR_length]
  · intro q h1 h2
    rw [List.length_set] at h1
    rw [List.getElem_set, stepR_get cols c n j q h1, stepR_get cols c n (j + 1) q h2]
    by_cases e : j = q
    · subst e
      rw [if_pos rfl, if_pos (by omega)]
    · rw [if_neg e]
      by_cases hq : q < j
      · rw [if_pos hq, if_pos (by omega)]
      · rw [if_neg hq, if_neg (by omega)]
theorem grows_in (cols all : List (List XV)) (c : List XV) (n m : Nat) (i : Nat) (hn : n ≤ 1000000) (hc : c.length = n) (hcols : cols.length ≤ 1000000) {R : (List (List XV)) × Bool} (hR : Ev (fun k => grain_Rows.l0 k (tabR (cols ++ [c]) n) all m (i + 1 : Nat)) R) (hi : i ≤ 1000000) :
    ∀ (d j : Nat), j + d = n → Ev (fun k => grain_Rows.l1 k (stepR cols c n j) all m i c n j) R
  | 0, j, hj => by
    refine Ev.succ ?_
    simp only [grain_Rows.l1]
    obtain rfl : j = n := by omega
    rw [stepR_all]
    simp (disch := omega) only [w64]
    exact Ev.neg (by omega) hR
  | d + 1, j, hj => by
    have h : j < n := by omega
    refine Ev.succ ?_
    simp only [grain_Rows.l1]
    have e1 := stepR_at cols c n j h
    rw [show rd_L3 (stepR cols c n j) j = _ from e1]
    have e2 : (⟨(rd_T45 c j).f0, (rd_T45 c j).f1⟩ : XV) = rdV c j := rfl
    rw [e2, Int.toNat_natCast, stepR_set cols c n j h, stepR_length]
    simp (disch := omega) only [w64]
    refine Ev.pos (by omega) (Ev.pos (by omega) (Ev.pos (by omega) (Ev.pos (by omega) (Ev.pos (by rw [List.length_map]; omega) ?_))))
    exact grows_in cols all c n m i hn hc hcols hR hi d (j + 1) (by omega)
theorem grows_loop (all : List (List XV)) (n : Nat) (hn : n ≤ 1000000) (ha : all.length ≤ 1000000) (hall : ∀ c ∈ all, c.length = n) : ∀ (d i : Nat), i + d = all.length → Ev (fun k => grain_Rows.l0 k (tabR (all.take i) n) all all.length i) (tabR all n, true)
  | 0, i, hi => by
    refine Ev.succ ?_
    simp only [grain_Rows.l0]
    rw [List.take_of_length_le (by omega)]
    exact Ev.neg (by omega) (Ev.now _)
  | d + 1, i, hi => by
    have h : i < all.length := by omega
    refine Ev.succ ?_
    simp only [grain_Rows.l0]
    rw [rdR_lt all i h, tabR_length]
    have hc := hall _ (List.getElem_mem h)
    refine Ev.pos (by omega) (Ev.pos (by omega) (Ev.pos (by omega) (Ev.pos (by omega) ?_)))
    rw [hc, ← stepR_zero (all.take i) all[i] n]
    refine grows_in (all.take i) all all[i] n all.length i hn hc (by rw [List.length_take]; omega) ?_ (by omega) n 0 (by omega)
    rw [← List.take_succ_eq_append_getElem h]
    exact grows_loop all n hn ha hall d (i + 1) (by omega)
theorem tabR_nil (n : Nat) : tabR [] n = List.replicate n [] := by
  unfold tabR
  rw [List.eq_replicate_iff]
  refine ⟨by simp, fun b hb => ?_⟩
  obtain ⟨q, _, rfl⟩ := List.mem_map.mp hb
  rfl
theorem grows_ev (all : List (List XV)) (n : Nat) (hn : n ≤ 1000000) (ha : all.length ≤ 1000000) (h0 : all ≠ []) (hall : ∀ c ∈ all, c.length = n) : Ev (fun k => grain_Rows.f k all) (tabR all n, true) := by
  simp only [grain_Rows.f]
  have hp := List.length_pos_iff.mpr h0
  have e := rdR_lt all 0 hp
  rw [show rd_L3 all 0 = all[0] from e, hall _ (List.getElem_mem hp)]
  rw [Int.toNat_natCast, ← tabR_nil]
  refine Ev.neg (by omega) (Ev.pos (by omega) (Ev.pos (by omega) (Ev.pos (by omega) ?_)))
  exact grows_loop all n hn ha hall all.length 0 (by omega)
theorem grows_none : Ev (fun k => grain_Rows.f k []) ([], false) := by
  simp only [grain_Rows.f]
  exact Ev.pos rfl (Ev.now _)
/-- Two columns that have not as many values. -/
theorem grows_odd (a b : List XV) (ha : a.length ≤ 1000000) (h : a.length ≠ b.length) : Ev (fun k => grain_Rows.f k [a, b]) ([], false) := by
  simp only [grain_Rows.f]
  have e : rd_L3 [a, b] 0 = a := rfl
  rw [e, Int.toNat_natCast, ← tabR_nil]
  refine Ev.neg (by simp) (Ev.pos (by simp) (Ev.pos (by omega) (Ev.pos (by omega) (Ev.succ ?_))))
  simp only [grain_Rows.l0]
  rw [e, tabR_length, ← stepR_zero [] a a.length]
  refine Ev.pos (by simp) (Ev.pos (by omega) (Ev.pos (by simp) (Ev.pos rfl ?_)))
  refine grows_in [] [a, b] a a.length 2 0 ha rfl (by simp) ?_ (by omega) a.length 0 (by omega)
  refine Ev.succ ?_
  simp only [grain_Rows.l0]
  have e1 : rd_L3 [a, b] ((0 + 1 : Nat) : Int) = b := rfl
  rw [e1, tabR_length]
  exact Ev.pos (by simp) (Ev.pos (by simp) (Ev.pos (by simp) (Ev.neg (by omega) (Ev.now _))))
end Go.Proofs.Ythoelihgpkffiaa.P

/- Columns that have not all as many values are no rows, nor are none; and a place that is none has no column: the plain law. -/
namespace Go.Proofs.Ythoelihgpkffiaa.Pure
open Go.RowKit Go.Proofs.Ythoelihgpkffiaa.P Go.Proofs.YthoelihgpkffiaaW.PrintWords Go.Proofs.YthoelihgpkffiaaW.PrintLast
set_option linter.unusedVariables false
theorem shown_ev : Ev (fun k => thresherlaw10_shown.f k) true := Ev.of thresherlaw10_shown.mono (k := 10) (by kernel_rfl)
theorem c1_ev : Ev (fun k => grain_Column.f k [([] : List XV)] 0) [] := by
  have := col_ev [([] : List XV)] 0 (by simp)
  exact this
theorem c2_ev : Ev (fun k => grain_Column.f k [[(⟨0, (⟨#[]⟩ : ByteArray)⟩ : XV)]] (-1)) [] := by
  have := col_ev [[(⟨0, (⟨#[]⟩ : ByteArray)⟩ : XV)]] (-1) (by simp)
  exact this
theorem colF_all (c : Nat) : ∀ (l : List (List XV)) (acc : List XV), (∀ r ∈ l, c < r.length) → colF c l acc = acc ++ l.map fun r => rdV r c
  | [], acc, _ => by simp [colF]
  | r :: l, acc, h => by
    have h1 := h r List.mem_cons_self
    rw [colF, if_pos ⟨by omega, by omega⟩, colF_all c l _ (fun x hx => h x (List.mem_cons_of_mem _ hx))]
    simp
theorem tab_col (all : List (List XV)) (n c : Nat) (hc : c < all.length) (hl : (rdR all c).length = n) : colF c (tabR all n) [] = rdR all c := by
  rw [colF_all c _ [] (fun r hr => by unfold tabR at hr; obtain ⟨q, _, rfl⟩ := List.mem_map.mp hr; rw [List.length_map]; exact hc)]
  unfold tabR
  rw [List.nil_append, List.map_map]
  apply List.ext_getElem
  · simp [hl]
  · intro q h1 h2
    rw [List.getElem_map, List.getElem_range]
    show rdV (all.map fun c => rdV c q) c = _
    rw [show rdV (all.map fun c => rdV c q) c = _ from rdV_lt _ c (by rw [List.length_map]; exact hc), List.getElem_map]
    rw [← show rdR all c = all[c] from rdR_lt all c hc]
    exact rdV_lt _ q h2
theorem odd_j1 (a b : List XV) (ha : a.length ≤ 60) (hb : b.length ≤ 60) : Ev (fun k => thresherlaw10_GrainOdd.j1 k a b true) true := by
  refine Ev.succ ?_
  simp only [thresherlaw10_GrainOdd.j1]
  by_cases h : a.length = b.length
  · refine Ev.bind (grows_ev [a, b] a.length (by omega) (by simp) (by simp) (fun c hc => by simp at hc; rcases hc with rfl | rfl <;> omega)) (Ev.bind grows_none ?_)
    refine Ev.neg (by simp [h]) (Ev.neg (by simp) (Ev.bind c1_ev (Ev.pos rfl (Ev.bind c2_ev (Ev.succ ?_)))))
    simp only [thresherlaw10_GrainOdd.j2]
    have e0 : colF 0 (tabR [a, b] a.length) [] = a := tab_col [a, b] a.length 0 (by simp) rfl
    have e1 : colF 1 (tabR [a, b] a.length) [] = b := tab_col [a, b] a.length 1 (by simp) h.symm
    have hl := tabR_length [a, b] a.length
    have f0 := (col_ev (tabR [a, b] a.length) 0 (by omega)).eq e0
    have f1 := (col_ev (tabR [a, b] a.length) 1 (by omega)).eq e1
    refine Ev.neg (by simp) (Ev.pos (by simp) (Ev.bind f0 (Ev.bind (same7_ev a a (by omega)) (Ev.bind f1 (Ev.bind (same7_ev b b (by omega)) (Ev.pos (by simp) (Ev.pos (by omega) (Ev.pos (by simp) ((Ev.now _).eq (by simp))))))))))
  · refine Ev.bind (grows_odd a b (by omega) h) (Ev.bind grows_none ?_)
    refine Ev.neg (by simp; omega) (Ev.neg (by simp) (Ev.bind c1_ev (Ev.pos rfl (Ev.bind c2_ev (Ev.succ ?_)))))
    simp only [thresherlaw10_GrainOdd.j2]
    exact Ev.neg (by simp) (Ev.neg (by simp) (Ev.pos (by simp) ((Ev.now _).eq (by simp))))
theorem odd_j0 (a b : List XV) (ha : a.length ≤ 60) : Ev (fun k => thresherlaw10_GrainOdd.j0 k a b true) true := by
  refine Ev.succ ?_
  simp only [thresherlaw10_GrainOdd.j0]
  by_cases h : (b.length : Int) > 60
  · exact Ev.pos h (Ev.pos (by omega) (odd_j1 a _ ha (by rw [List.length_take]; omega)))
  · exact Ev.neg h (odd_j1 a b ha (by omega))
theorem GrainOdd : thresherlaw10_GrainOdd.PureG := by
  intro a b _ _
  apply Ev.rounds
  simp only [thresherlaw10_GrainOdd.f]
  refine Ev.bind shown_ev ?_
  by_cases h : (a.length : Int) > 60
  · exact Ev.pos h (Ev.pos (by omega) (odd_j0 _ b (by rw [List.length_take]; omega)))
  · exact Ev.neg h (odd_j0 a b (by omega))
end Go.Proofs.Ythoelihgpkffiaa.Pure

-- Written by wip/tools/myprint.py: the row of GrainOdd, out of its plain law and its walk.
namespace Go.Proofs.Ythoelihgpkffiaa.grainOdd
open Go.ChangeShapes Go.WideShapes Go.ChangeAt Go.RowKit Go.Proofs.Ythoelihgpkffiaa.P Go.Proofs.YthoelihgpkffiaaW.PrintWords
set_option linter.unusedVariables false
set_option linter.unusedSimpArgs false
theorem own : ownKnob Try.prog.godebug = none := by kernel_rfl
theorem laidOut : laidOutB Try.prog = true := by kernel_rfl
set_option maxRecDepth 100000 in
theorem lifted (os : Os) (started : os.Started) (H : Type) (enc : TypeId × Value → H) :
    ReturnsInHanded {} Try.checked os 4 .any (Rows.grainOddSpec.pre6 enc Try.prog Try.f4 Rows.grainOddRow.domain false) (Rows.grainOddSpec.post enc Try.prog Try.f4 false true false false) := by
  refine returnsInHanded_of_change_sized (C := Try.checked) own started (by kernel_rfl) Try.func4
    (ChangeSpec.witness6 (enc := enc) (C := Try.checked) false ⟨#[], #[.slice none 0 0, .slice none 0 0], []⟩ 8 (by kernel_rfl) (by kernel_rfl) (by kernel_rfl) (by kernel_rfl)) ?_
  intro W base args ds gs before hval0 hW hcnd hsz0 _
  have hval : ∀ (j : Nat) t v, Try.f4.params[j]? = some t → args[j]? = some v → Value.okWide Try.prog W .any base t v := hval0
  have hW' := hW
  obtain ⟨p, q, hA0, hV, rfl, hfz, hnd⟩ := hW
  have hA : DataW.TrodAll enc Try.prog W 0 (fun _ => true) true Try.f4.params.toList args.toList ds p := hA0
  rw [Try.params4] at hA hval
  obtain ⟨v0, vs0, d0, ds0, p0, q0, hargs, rfl, rfl, h0, r0⟩ := trodAll_cons hA
  obtain ⟨v1, vs1, d1, ds1, p1, q1, rfl, rfl, rfl, h1, r1⟩ := trodAll_cons r0
  obtain ⟨rfl, rfl, rfl⟩ := trodAll_nil r1
  obtain rfl : args = #[v0, v1] := by cases args; simp_all
  obtain ⟨rfl, rfl⟩ := trodVars_none hV
  have lt0 : ∀ x ∈ p0, x.block < W.heap.size := by obtain ⟨m, hm⟩ := h0; exact DataW.trod_lt m _ _ _ hm
  obtain ⟨x0, K0, g0⟩ := ((opens_slice Try.underlying37 (by kernel_rfl) op45)).arg h0
  obtain ⟨a0, len0, cap0, rfl⟩ := okWide_slice Try.underlying37 (hval 0 37 v0 rfl rfl)
  obtain ⟨A0, c0, e0, hl0, hr0⟩ := K0
  simp [Value.cells] at e0
  obtain ⟨rfl, rfl, rfl⟩ := e0
  have lt1 : ∀ x ∈ p1, x.block < W.heap.size := by obtain ⟨m, hm⟩ := h1; exact DataW.trod_lt m _ _ _ hm
  obtain ⟨x1, K1, g1⟩ := ((opens_slice Try.underlying37 (by kernel_rfl) op45)).arg h1
  obtain ⟨a1, len1, cap1, rfl⟩ := okWide_slice Try.underlying37 (hval 1 37 v1 rfl rfl)
  obtain ⟨A1, c1, e1, hl1, hr1⟩ := K1
  simp [Value.cells] at e1
  obtain ⟨rfl, rfl, rfl⟩ := e1
  obtain ⟨k, hk⟩ := Pure.GrainOdd x0 x1 g0 g1
  have call : Calls Try.prog 4 #[.slice a0 x0.length cap0, .slice a1 x1.length cap1] W fun e W' => e = .returned (.bool true) ∧ Below W.heap.size W W' := by
    refine (thresherlaw10_GrainOdd.calls k (fun _ => True) _ _ _ (fun _ => True) _ _ _ true W (Go.Proofs.YthoelihgpkffiaaW.PrintWords.Kd.V_mk hl0 (fun W' hW' => (show Go.Proofs.YthoelihgpkffiaaW.PrintWords.Kd.Heap k45 from by repeat' (first | exact Go.Proofs.YthoelihgpkffiaaW.PrintWords.Kd.heap_int _ | exact Go.Proofs.YthoelihgpkffiaaW.PrintWords.Kd.heap_bool | exact Go.Proofs.YthoelihgpkffiaaW.PrintWords.Kd.heap_string | refine Go.Proofs.YthoelihgpkffiaaW.PrintWords.Kd.heap_slice _ ?_ | refine Go.Proofs.YthoelihgpkffiaaW.PrintWords.Kd.heap_pair ?_ ?_ | refine Go.Proofs.YthoelihgpkffiaaW.PrintWords.Kd.heap_iso _ ?_)).C (fun k hk => hW' k trivial hk) hr0)) (Go.Proofs.YthoelihgpkffiaaW.PrintWords.Kd.V_mk hl1 (fun W' hW' => (show Go.Proofs.YthoelihgpkffiaaW.PrintWords.Kd.Heap k45 from by repeat' (first | exact Go.Proofs.YthoelihgpkffiaaW.PrintWords.Kd.heap_int _ | exact Go.Proofs.YthoelihgpkffiaaW.PrintWords.Kd.heap_bool | exact Go.Proofs.YthoelihgpkffiaaW.PrintWords.Kd.heap_string | refine Go.Proofs.YthoelihgpkffiaaW.PrintWords.Kd.heap_slice _ ?_ | refine Go.Proofs.YthoelihgpkffiaaW.PrintWords.Kd.heap_pair ?_ ?_ | refine Go.Proofs.YthoelihgpkffiaaW.PrintWords.Kd.heap_iso _ ?_)).C (fun k hk => hW' k trivial hk) hr1)) hk).mono ?_
    rintro e w' ⟨rfl, hd⟩
    exact ⟨rfl, hd⟩
  refine call.mono fun e W' ⟨he, bel⟩ => ?_
  subst he
  exact ⟨_, rfl, _, _, _, [], _, [], hW', trodAll_mk1 (shut_bool Try.underlying4 _), (trodAll_cons_mk (Below.trod laidOut (by kernel_rfl) (of_decide_eq_true (by kernel_rfl)) h0 bel lt0) (trodAll_cons_mk (Below.trod laidOut (by kernel_rfl) (of_decide_eq_true (by kernel_rfl)) h1 bel lt1) trodAll_mk0)), rfl, bel.frame _, fun h => by cases h⟩
theorem over : Rows.grainOddRow.holds Try.pinned (OpenSpec.ofChange Rows.grainOddSpec) :=
  OpenClaim.holds_of_wide 4 Try.f4 rfl rfl rfl rfl rfl rfl rfl ⟨rfl, rfl, rfl, rfl, rfl⟩ rfl rfl rfl rfl rfl (by kernel_rfl) Try.func4 (by kernel_rfl)
    (of_decide_eq_true (by kernel_rfl)) (by unfold Func.isWrapper; first | (rw [if_pos (by decide +kernel)]; kernel_rfl) | (rw [if_neg (by decide +kernel)]; exact ⟨rfl, rfl⟩))
    (fun os started H enc _ => lifted os started H enc)
theorem proved : Rows.GrainOddSaid := over
#print axioms proved
end Go.Proofs.Ythoelihgpkffiaa.grainOdd
namespace Go.Proofs.Ythoelihgpkffiaa
/-- The row, under a short name, for the claim. -/
theorem grainOdd_holds : Rows.GrainOddSaid := grainOdd.proved
end Go.Proofs.Ythoelihgpkffiaa

