/- The row of GrainMarks. Merged: SGrainMarks, XBase, XChunks, XFit, XMade, XOrd, XFitOk, XFits, XRVal, XRefMarks, XShape, XSplit, XMarks, XRCmp, XRowOk, XMarkOrd, XSort, XSixty, PureGrainMarks, RGrainMarks. -/
import Derived.Test.YthoelihgpkffiaaQGrainMarksPx8
import Derived.Test.YthoelihgpkffiaaQGrainMarksO
import Derived.Test.YthoelihgpkffiaaQGrainMarksPx0
import Derived.Test.YthoelihgpkffiaaQGrainMarksHBase
import Derived.Test.YthoelihgpkffiaaQGrainMarksPx6
import Derived.Test.YthoelihgpkffiaaQGrainMarksPx2
import Derived.Lib.Bytealg
import Derived.Test.YthoelihgpkffiaaQGrainMarksPx3
import Derived.Test.YthoelihgpkffiaaQGrainMarksPx11
import Derived.Test.YthoelihgpkffiaaQGrainMarksPx10
import Derived.Test.YthoelihgpkffiaaQGrainMarksPx7
import Derived.Test.YthoelihgpkffiaaQGrainMarksPx4
import Derived.Test.YthoelihgpkffiaaQGrainMarksPx5
import Derived.Test.YthoelihgpkffiaaRows
import Derived.WalkKit
import Derived.ProofKit
import Derived.OpenShut
import Derived.ShutString
import Derived.ChangeOld
import Derived.Below
import Derived.SizedLaws
-- Written by wip/tools/myprint.py: the plain statement of GrainMarks.
namespace Go.Proofs.Ythoelihgpkffiaa.P
open Go.RowKit Go.Proofs.YthoelihgpkffiaaW.PrintWords
def thresherlaw10_GrainMarks.PureG : Prop := ∀ (x0 : S24) (x1 : List (List (S45))), gd24 x0 → (x1.length ≤ maxLen ∧ ∀ a ∈ x1, (a.length ≤ maxLen ∧ ∀ aa ∈ a, gd45 aa)) → ∃ k, thresherlaw10_GrainMarks.f k x0.f0.f0 x0.f0.f1 x0.f0.f2 x0.f0.f3 x0.f0.f4 x0.f0.f5 x0.f0.f6 x0.f0.f7 x0.f1 x0.f2 x0.f3 x0.f4 x1 = some true
end Go.Proofs.Ythoelihgpkffiaa.P

/- Words of the laws about rows. -/
namespace Go.Proofs.Ythoelihgpkffiaa.P
open Go.RowKit Go.Proofs.YthoelihgpkffiaaW.PrintWords Go.Proofs.YthoelihgpkffiaaW.PrintLast Go.Proofs.YthoelihgpkffiaaW.PrintMore
set_option linter.unusedVariables false
set_option linter.unusedSimpArgs false

abbrev XV := S45
abbrev rdV (l : List XV) (i : Int) : XV := rd_T45 l i
abbrev rdR (l : List (List XV)) (i : Int) : List XV := rd_L3 l i
theorem rd_lt (l : List Int) (i : Nat) (h : i < l.length) : rd l i = l[i] := by unfold rd; simp [List.getD, h]
theorem rdV_lt (l : List XV) (i : Nat) (h : i < l.length) : rd_T45 l i = l[i] := by unfold rd_T45; simp [List.getD, h]
theorem rdV_ge (l : List XV) (i : Nat) (h : l.length ≤ i) : rd_T45 l i = ⟨0, ⟨#[]⟩⟩ := by unfold rd_T45; simp [List.getD, h]; rfl
theorem rdR_lt (l : List (List XV)) (i : Nat) (h : i < l.length) : rd_L3 l i = l[i] := by unfold rd_L3; simp [List.getD, h]

/-- A schema that may be. -/
structure Sch (T : List Int) (K M G : Int) : Prop where
  n1 : 1 ≤ T.length
  n8 : T.length ≤ 8
  ty : ∀ t ∈ T, 1 ≤ t ∧ t ≤ 3
  k1 : 1 ≤ K
  kn : K ≤ T.length
  m1 : 1 ≤ M
  m3 : M ≤ 3
  g1 : 1 ≤ G
  g8 : G ≤ 8
theorem Sch.rdt {T : List Int} {K M G : Int} (h : Sch T K M G) (i : Nat) (hi : i < T.length) : 1 ≤ rd T i ∧ rd T i ≤ 3 := by
  rw [rd_lt T i hi]; exact h.ty _ (List.getElem_mem hi)

/-- Does a value fit a type? -/
def fitT (t : Int) (v : XV) : Bool := if t = 1 ∨ t = 2 then v.f1.toList == ([] : List UInt8) else if t = 3 then (if v.f0 = 0 then decide ((v.f1.size : Int) ≤ 60) else false) else false
def rowOkB (T : List Int) (r : List XV) : Bool := decide (T.length = r.length) && (List.range T.length).all fun (i : Nat) => fitT (rd T i) (rdV r i)
/-- The value made to fit a type. -/
def fit1 (t : Int) (v : XV) : XV := if t = 3 then ⟨0, if (v.f1.size : Int) > 60 then v.f1.extract 0 60 else v.f1⟩ else ⟨v.f0, ⟨#[]⟩⟩
def fitRow (T : List Int) (r : List XV) : List XV := (List.range' 0 T.length).map fun (i : Nat) => fit1 (rd T i) (rdV r i)
theorem fitRow_length (T : List Int) (r : List XV) : (fitRow T r).length = T.length := by simp [fitRow]
theorem rdV_fitRow (T : List Int) (r : List XV) (i : Nat) (hi : i < T.length) : rdV (fitRow T r) i = fit1 (rd T i) (rdV r i) := by
  show rd_T45 _ _ = _
  rw [rdV_lt _ i (by rw [fitRow_length]; exact hi)]
  simp [fitRow]
theorem fitT_fit1 (t : Int) (v : XV) (h1 : 1 ≤ t) (h3 : t ≤ 3) : fitT t (fit1 t v) = true := by
  unfold fitT fit1
  by_cases e : t = 3
  · subst e
    simp only [if_true, if_pos rfl]
    rw [if_neg (by omega)]
    rw [decide_eq_true_iff]
    split
    · simp only [ByteArray.size_extract]; omega
    · omega
  · rw [if_pos (by omega), if_neg e]
    simp [ByteArray.toList_eq]
theorem bytes_eq {a b : ByteArray} (h : a.toList = b.toList) : a = b := by
  rw [ByteArray.toList_eq, ByteArray.toList_eq] at h
  exact ByteArray.ext (Array.toList_inj.mp h)
theorem XV.same {a b : XV} : (!(a.f0 == b.f0) || (!(a.f1.toList == b.f1.toList))) = true ↔ a ≠ b := by
  constructor
  · rintro h rfl
    simp at h
  · intro h
    by_cases h0 : a.f0 = b.f0
    · by_cases h1 : a.f1.toList = b.f1.toList
      · exact absurd (by cases a; cases b; simp only at h0 h1; rw [h0, bytes_eq h1]) h
      · simp [h1]
    · simp [h0]
instance : DecidableEq XV := fun a b => if h : (!(a.f0 == b.f0) || (!(a.f1.toList == b.f1.toList))) = true then isFalse (XV.same.mp h) else isTrue (Classical.byContradiction fun e => h (XV.same.mpr e))
end Go.Proofs.Ythoelihgpkffiaa.P

/- Rows cut after every so many: plain. -/
namespace Go.Proofs.Ythoelihgpkffiaa.P
open Go.RowKit Go.Proofs.YthoelihgpkffiaaW.PrintWords Go.Proofs.YthoelihgpkffiaaW.PrintLast Go.Proofs.YthoelihgpkffiaaW.PrintMore
set_option linter.unusedVariables false
set_option linter.unusedSimpArgs false

def chunks {α : Type} (g : Nat) (l : List α) : List (List α) := if h : l = [] ∨ g = 0 then [] else l.take g :: chunks g (l.drop g)
termination_by l.length
decreasing_by
  have h1 : l ≠ [] := fun e => h (Or.inl e)
  have h2 := List.length_pos_iff.mpr h1
  rw [List.length_drop]
  omega
theorem chunks_nil {α : Type} (g : Nat) : chunks g ([] : List α) = [] := by rw [chunks]; simp
theorem chunks_step {α : Type} {g : Nat} {l : List α} (hg : 1 ≤ g) (hl : l ≠ []) : chunks g l = l.take g :: chunks g (l.drop g) := by
  rw [chunks, dif_neg]
  rintro (h | h)
  · exact hl h
  · omega
theorem chunks_length {α : Type} {g : Nat} (hg : 1 ≤ g) : ∀ (n : Nat) (l : List α), l.length ≤ n → (chunks g l).length ≤ l.length
  | 0, l, h => by rw [List.length_eq_zero_iff.mp (by omega : l.length = 0), chunks_nil]; simp
  | n + 1, l, h => by
    by_cases e : l = []
    · rw [e, chunks_nil]; simp
    · rw [chunks_step hg e]
      have h2 := List.length_pos_iff.mpr e
      have := chunks_length hg n (l.drop g) (by rw [List.length_drop]; omega)
      rw [List.length_drop] at this
      rw [List.length_cons]
      omega
theorem chunks_mem {α : Type} {g : Nat} (hg : 1 ≤ g) : ∀ (n : Nat) (l : List α), l.length ≤ n → ∀ c ∈ chunks g l, c ≠ [] ∧ c.length ≤ g ∧ ∀ x ∈ c, x ∈ l
  | 0, l, h => by rw [List.length_eq_zero_iff.mp (by omega : l.length = 0), chunks_nil]; simp
  | n + 1, l, h => by
    by_cases e : l = []
    · rw [e, chunks_nil]; simp
    · rw [chunks_step hg e]
      have h2 := List.length_pos_iff.mpr e
      intro c hc
      rcases List.mem_cons.mp hc with rfl | hc
      · refine ⟨fun h0 => ?_, by rw [List.length_take]; omega, fun x hx => List.mem_of_mem_take hx⟩
        have h3 := congrArg List.length h0
        rw [List.length_take, List.length_nil] at h3
        omega
      · obtain ⟨a1, a2, a3⟩ := chunks_mem hg n (l.drop g) (by rw [List.length_drop]; omega) c hc
        exact ⟨a1, a2, fun x hx => List.mem_of_mem_drop (a3 x hx)⟩
end Go.Proofs.Ythoelihgpkffiaa.P

/- A row made to fit. -/
namespace Go.Proofs.Ythoelihgpkffiaa.P
open Go.RowKit Go.Proofs.YthoelihgpkffiaaW.PrintWords Go.Proofs.YthoelihgpkffiaaW.PrintLast Go.Proofs.YthoelihgpkffiaaW.PrintMore
set_option linter.unusedVariables false
set_option linter.unusedSimpArgs false

theorem fit_turn (T : List Int) (K M G : Int) (r : List XV) (i : Nat) (acc : List XV) (v0 : Int) (v1 : ByteArray) (hi : i < T.length) (hT : T.length ≤ 1000000) (ha : acc.length = i) {R : List XV} (h : Ev (fun k => thresherref04_Fit.l0 k r (acc ++ [fit1 (rd T i) ⟨v0, v1⟩]) ((i + 1 : Nat) : Int) T K M G) R) : Ev (fun k => thresherref04_Fit.j1 k r acc i T K M G v0 v1) R := by
  refine Ev.succ ?_
  simp only [thresherref04_Fit.j1]
  simp (disch := omega) only [w64]
  refine Ev.pos (by omega) (Ev.pos (by omega) ?_)
  unfold fit1 at h
  by_cases e : rd T i = 3
  · rw [if_pos e] at h
    refine Ev.pos e ?_
    by_cases s : (v1.size : Int) > 60
    · simp only [if_pos s] at h
      exact Ev.pos s (Ev.pos (by omega) (Ev.pos (by omega) (Ev.pos (by omega) h)))
    · simp only [if_neg s] at h
      exact Ev.neg s (Ev.pos (by omega) h)
  · rw [if_neg e] at h
    exact Ev.neg e (Ev.pos (by omega) h)
theorem fit_loop (T : List Int) (K M G : Int) (r : List XV) (hT : T.length ≤ 1000000) : ∀ (d i : Nat) (acc : List XV), i + d = T.length → acc.length = i → Ev (fun k => thresherref04_Fit.l0 k r acc i T K M G) (acc ++ (List.range' i d).map fun (j : Nat) => fit1 (rd T j) (rdV r j))
  | 0, i, acc, hi, ha => by
    refine Ev.succ ?_
    simp only [thresherref04_Fit.l0]
    exact Ev.neg (by omega) ((Ev.now _).eq (by simp))
  | d + 1, i, acc, hi, ha => by
    refine Ev.succ ?_
    simp only [thresherref04_Fit.l0]
    refine Ev.pos (by omega) ?_
    have hl : (acc ++ [fit1 (rd T i) (rdV r i)]).length = i + 1 := by simp; omega
    have h := (fit_loop T K M G r hT d (i + 1) (acc ++ [fit1 (rd T i) (rdV r i)]) (by omega) hl).eq (r' := acc ++ (List.range' i (d + 1)).map fun (j : Nat) => fit1 (rd T j) (rdV r j)) (by rw [List.append_assoc, List.range'_succ]; rfl)
    by_cases e : i < r.length
    · exact Ev.pos (by omega) (Ev.pos (by omega) (fit_turn T K M G r i acc _ _ (by omega) hT ha h))
    · refine Ev.neg (by omega) (fit_turn T K M G r i acc _ _ (by omega) hT ha ?_)
      have e2 : rdV r i = ⟨0, ⟨#[]⟩⟩ := rdV_ge r i (by omega)
      rw [e2] at h
      exact h
theorem fit_ev (T : List Int) (K M G : Int) (r : List XV) (hT : T.length ≤ 1000000) : Ev (fun k => thresherref04_Fit.f k T K M G r) (fitRow T r) := by
  simp only [thresherref04_Fit.f]
  exact fit_loop T K M G r hT T.length 0 [] (by omega) rfl
end Go.Proofs.Ythoelihgpkffiaa.P

/- A schema made of any numbers. -/
namespace Go.Proofs.Ythoelihgpkffiaa.P
open Go.RowKit Go.Proofs.YthoelihgpkffiaaW.PrintWords Go.Proofs.YthoelihgpkffiaaW.PrintLast Go.Proofs.YthoelihgpkffiaaW.PrintMore
set_option linter.unusedVariables false
set_option linter.unusedSimpArgs false

def U8 (x : Int) : Prop := 0 ≤ x ∧ x ≤ 255
theorem made_one {x : Int} {m : Int} (h : U8 x) (hm : 0 < m) (hm2 : m ≤ 1000) : wrap64 (1 + Int.tmod (wrap64 x) m) = 1 + x % m ∧ 1 ≤ 1 + x % m ∧ 1 + x % m ≤ m := by
  obtain ⟨h0, h1⟩ := h
  have e1 : wrap64 x = x := w64 (by omega) (by omega)
  have h2 := Int.emod_nonneg x (show m ≠ 0 by omega)
  have h3 := Int.emod_lt_of_pos x hm
  rw [e1, Int.tmod_eq_emod_of_nonneg h0]
  exact ⟨w64 (by omega) (by omega), by omega, by omega⟩
theorem made_loop (x0 x1 x2 x3 x4 x5 x6 x7 K M G : Int) (hx : ∀ x ∈ [x0, x1, x2, x3, x4, x5, x6, x7], U8 x) (n : Nat) (hn : n ≤ 8) : ∀ (d i : Nat) (T : List Int), i + d = n → T.length = i → (∀ t ∈ T, 1 ≤ t ∧ t ≤ 3) → ∃ T', Ev (fun k => thresherref04_Made.l0 k n i x0 x1 x2 x3 x4 x5 x6 x7 T K M G) (T', K, M, G) ∧ T'.length = n ∧ ∀ t ∈ T', 1 ≤ t ∧ t ≤ 3
  | 0, i, T, hi, hT, ht => by
    refine ⟨T, Ev.succ ?_, by omega, ht⟩
    simp only [thresherref04_Made.l0]
    exact Ev.neg (by omega) (Ev.now _)
  | d + 1, i, T, hi, hT, ht => by
    have hr : U8 (rd [x0, x1, x2, x3, x4, x5, x6, x7] i) := by
      rw [rd_lt _ i (by simp; omega)]
      exact hx _ (List.getElem_mem _)
    obtain ⟨e, l1, l2⟩ := made_one (m := 3) hr (by omega) (by omega)
    obtain ⟨T', h1, h2, h3⟩ := made_loop x0 x1 x2 x3 x4 x5 x6 x7 K M G hx n hn d (i + 1) (T ++ [1 + rd [x0, x1, x2, x3, x4, x5, x6, x7] i % 3]) (by omega) (by simp; omega) (by
      intro t h
      rcases List.mem_append.mp h with h | h
      · exact ht t h
      · rw [List.mem_singleton.mp h]; exact ⟨l1, l2⟩)
    refine ⟨T', Ev.succ ?_, h2, h3⟩
    simp only [thresherref04_Made.l0]
    rw [e]
    clear e
    simp (disch := omega) only [w64]
    exact Ev.pos (by omega) (Ev.pos (by omega) (Ev.pos (by omega) (Ev.pos (by omega) h1)))
theorem made_ev (x0 x1 x2 x3 x4 x5 x6 x7 a b c d : Int) (h0 : U8 x0) (h1 : U8 x1) (h2 : U8 x2) (h3 : U8 x3) (h4 : U8 x4) (h5 : U8 x5) (h6 : U8 x6) (h7 : U8 x7) (ha : U8 a) (hb : U8 b) (hc : U8 c) (hd : U8 d) : ∃ T K M G, Ev (fun k => thresherref04_Made.f k x0 x1 x2 x3 x4 x5 x6 x7 a b c d) (T, K, M, G) ∧ Sch T K M G := by
  obtain ⟨ea, a1, a2⟩ := made_one (m := 8) ha (by omega) (by omega)
  obtain ⟨n, hn⟩ : ∃ n : Nat, 1 + a % 8 = n := ⟨(1 + a % 8).toNat, by omega⟩
  obtain ⟨eb, b1, b2⟩ := made_one (m := 1 + a % 8) hb (by omega) (by omega)
  obtain ⟨ec, c1, c2⟩ := made_one (m := 3) hc (by omega) (by omega)
  obtain ⟨ed, d1, d2⟩ := made_one (m := 8) hd (by omega) (by omega)
  simp only [thresherref04_Made.f, ea, eb, ec, ed]
  clear ea eb ec ed
  rw [hn] at b1 b2 a1 a2 ⊢
  obtain ⟨T, e, l, t⟩ := made_loop x0 x1 x2 x3 x4 x5 x6 x7 (1 + b % n) (1 + c % 3) (1 + d % 8) (by
    intro x hx
    simp only [List.mem_cons, List.not_mem_nil, or_false] at hx
    rcases hx with rfl | rfl | rfl | rfl | rfl | rfl | rfl | rfl <;> assumption) n (by omega) n 0 [] (by omega) rfl (by simp)
  exact ⟨T, _, _, _, Ev.neg (by omega) e, ⟨by omega, by omega, t, b1, by omega, c1, c2, d1, d2⟩⟩
end Go.Proofs.Ythoelihgpkffiaa.P

/- The order of values and of rows. -/
namespace Go.Proofs.Ythoelihgpkffiaa.P
open Go.RowKit Go.Proofs.YthoelihgpkffiaaW.PrintWords Go.Proofs.YthoelihgpkffiaaW.PrintLast Go.Proofs.YthoelihgpkffiaaW.PrintMore
set_option linter.unusedVariables false
set_option linter.unusedSimpArgs false

theorem u8_tri (a b : UInt8) : (a < b ∧ ¬ b < a) ∨ (b < a ∧ ¬ a < b) ∨ (a = b ∧ ¬ a < b ∧ ¬ b < a) := by
  rcases Nat.lt_trichotomy a.toNat b.toNat with h | h | h
  · exact Or.inl ⟨UInt8.lt_iff_toNat_lt.mpr h, fun h2 => by have := UInt8.lt_iff_toNat_lt.mp h2; omega⟩
  · have e : a = b := UInt8.toNat_inj.mp h
    subst e
    exact Or.inr (Or.inr ⟨rfl, fun h2 => by have := UInt8.lt_iff_toNat_lt.mp h2; omega, fun h2 => by have := UInt8.lt_iff_toNat_lt.mp h2; omega⟩)
  · exact Or.inr (Or.inl ⟨UInt8.lt_iff_toNat_lt.mpr h, fun h2 => by have := UInt8.lt_iff_toNat_lt.mp h2; omega⟩)
theorem cb_anti : ∀ a b : List UInt8, Lib.compareBytes b a = - Lib.compareBytes a b
  | [], [] => by simp [Lib.compareBytes]
  | [], _ :: _ => by simp [Lib.compareBytes]
  | _ :: _, [] => by simp [Lib.compareBytes]
  | a :: xs, b :: ys => by
    unfold Lib.compareBytes
    rcases u8_tri a b with ⟨h1, h2⟩ | ⟨h1, h2⟩ | ⟨h0, h1, h2⟩
    · rw [if_neg h2, if_pos h1, if_pos h1]; rfl
    · rw [if_pos h1, if_neg h2, if_pos h1]
    · rw [if_neg h2, if_neg h1, if_neg h1, if_neg h2]; exact cb_anti xs ys
theorem cb_zero : ∀ a b : List UInt8, Lib.compareBytes a b = 0 ↔ a = b
  | [], [] => by simp [Lib.compareBytes]
  | [], _ :: _ => by simp [Lib.compareBytes]
  | _ :: _, [] => by simp [Lib.compareBytes]
  | a :: xs, b :: ys => by
    unfold Lib.compareBytes
    rcases u8_tri a b with ⟨h1, h2⟩ | ⟨h1, h2⟩ | ⟨h0, h1, h2⟩
    · rw [if_pos h1]
      exact ⟨fun h => by omega, fun h => absurd h1 (by rw [(List.cons.inj h).1] at h2 ⊢; rw [(List.cons.inj h).1] at h1; exact h2)⟩
    · rw [if_neg h2, if_pos h1]
      exact ⟨fun h => by omega, fun h => absurd h1 (by rw [(List.cons.inj h).1] at h1; rw [(List.cons.inj h).1] at h2; exact absurd h1 h2)⟩
    · rw [if_neg h1, if_neg h2, cb_zero xs ys, h0]
      exact ⟨fun h => by rw [h], fun h => (List.cons.inj h).2⟩
theorem cb_trans : ∀ a b c : List UInt8, Lib.compareBytes a b ≤ 0 → Lib.compareBytes b c ≤ 0 → Lib.compareBytes a c ≤ 0
  | [], _, [], _, _ => by simp [Lib.compareBytes]
  | [], _, _ :: _, _, _ => by simp [Lib.compareBytes]
  | _ :: _, [], _, h, _ => by simp [Lib.compareBytes] at h
  | _ :: _, _ :: _, [], _, h => by simp [Lib.compareBytes] at h
  | a :: xs, b :: ys, c :: zs, h1, h2 => by
    unfold Lib.compareBytes at h1 h2 ⊢
    rcases u8_tri a b with ⟨p1, p2⟩ | ⟨p1, p2⟩ | ⟨p0, p1, p2⟩
    · rcases u8_tri b c with ⟨q1, q2⟩ | ⟨q1, q2⟩ | ⟨q0, q1, q2⟩
      · rw [if_pos (UInt8.lt_trans p1 q1)]; omega
      · rw [if_neg q2, if_pos q1] at h2; omega
      · subst q0; rw [if_pos p1]; omega
    · rw [if_neg p2, if_pos p1] at h1; omega
    · subst p0
      rw [if_neg p1, if_neg p2] at h1
      rcases u8_tri a c with ⟨q1, q2⟩ | ⟨q1, q2⟩ | ⟨q0, q1, q2⟩
      · rw [if_pos q1]; omega
      · rw [if_neg q2, if_pos q1] at h2; omega
      · rw [if_neg q1, if_neg q2] at h2 ⊢
        exact cb_trans xs ys zs h1 h2

/-- A value's number is one of 64 bits. -/
def GV (v : XV) : Prop := -9223372036854775808 ≤ v.f0 ∧ v.f0 ≤ 9223372036854775807
def sgn (x y : Int) : Int := if x < y then -1 else if x > y then 1 else 0
def un (x : Int) : Int := x % 18446744073709551616
def cmpV (t : Int) (a b : XV) : Int := if fitT t a = true ∧ fitT t b = true then (if t = 3 then Lib.compareBytes a.f1.data.toList b.f1.data.toList else if t = 2 then sgn (un a.f0) (un b.f0) else sgn a.f0 b.f0) else 0
theorem cmpV_anti (t : Int) (a b : XV) : cmpV t b a = - cmpV t a b := by
  unfold cmpV
  by_cases h : fitT t a = true ∧ fitT t b = true
  · rw [if_pos h, if_pos h.symm]
    split
    · exact cb_anti _ _
    · split <;> (unfold sgn; split <;> split <;> (try split) <;> omega)
  · rw [if_neg h, if_neg (fun q => h q.symm)]
    rfl
theorem fit_empty {t : Int} {a : XV} (h : fitT t a = true) (h3 : t ≠ 3) : a.f1 = ⟨#[]⟩ := by
  unfold fitT at h
  split at h
  · have h2 : a.f1.toList = [] := by simpa using h
    exact bytes_eq (by rw [h2]; simp [ByteArray.toList_eq])
  · first | exact absurd h (by simp) | (rw [if_neg h3] at h; exact absurd h (by simp))
theorem fit_zero {t : Int} {a : XV} (h : fitT t a = true) (h3 : t = 3) : a.f0 = 0 := by
  subst h3
  unfold fitT at h
  rw [if_neg (by omega), if_pos rfl] at h
  split at h
  · assumption
  · exact absurd h (by simp)
theorem XV.ext2 {a b : XV} (h0 : a.f0 = b.f0) (h1 : a.f1 = b.f1) : a = b := by cases a; cases b; simp only at h0 h1; rw [h0, h1]
theorem cmpV_zero (t : Int) (a b : XV) (ha : fitT t a = true) (hb : fitT t b = true) (ga : GV a) (gb : GV b) : cmpV t a b = 0 ↔ a = b := by
  unfold cmpV
  rw [if_pos ⟨ha, hb⟩]
  obtain ⟨g1, g2⟩ := ga
  obtain ⟨g3, g4⟩ := gb
  by_cases e : t = 3
  · rw [if_pos e, cb_zero]
    exact ⟨fun h => XV.ext2 (by rw [fit_zero ha e, fit_zero hb e]) (ByteArray.ext (Array.toList_inj.mp h)), fun h => by rw [h]⟩
  · rw [if_neg e]
    have key : a = b ↔ a.f0 = b.f0 := ⟨fun h => by rw [h], fun h => XV.ext2 h (by rw [fit_empty ha e, fit_empty hb e])⟩
    rw [key]
    split
    · unfold sgn un; split <;> (try split) <;> omega
    · unfold sgn; split <;> (try split) <;> omega
theorem sgn_trans (x y z : Int) : sgn x y ≤ 0 → sgn y z ≤ 0 → sgn x z ≤ 0 := by
  unfold sgn
  intro h1 h2
  split
  · omega
  · split
    · exfalso
      by_cases p : x < y
      · by_cases q : y < z
        · omega
        · rw [if_neg q] at h2
          by_cases r : y > z
          · rw [if_pos r] at h2; omega
          · omega
      · rw [if_neg p] at h1
        by_cases r : x > y
        · rw [if_pos r] at h1; omega
        · by_cases q : y < z
          · omega
          · rw [if_neg q] at h2
            by_cases r : y > z
            · rw [if_pos r] at h2; omega
            · omega
    · omega
def cmpC (t : Int) (a b : XV) : Int := if t = 3 then Lib.compareBytes a.f1.data.toList b.f1.data.toList else if t = 2 then sgn (un a.f0) (un b.f0) else sgn a.f0 b.f0
theorem cmpV_fit {t : Int} {a b : XV} (ha : fitT t a = true) (hb : fitT t b = true) : cmpV t a b = cmpC t a b := by
  unfold cmpV cmpC
  rw [if_pos ⟨ha, hb⟩]
theorem cmpV_trans (t : Int) (a b c : XV) (ha : fitT t a = true) (hb : fitT t b = true) (hc : fitT t c = true) : cmpV t a b ≤ 0 → cmpV t b c ≤ 0 → cmpV t a c ≤ 0 := by
  rw [cmpV_fit ha hb, cmpV_fit hb hc, cmpV_fit ha hc]
  unfold cmpC
  by_cases e : t = 3
  · rw [if_pos e, if_pos e, if_pos e]
    exact cb_trans _ _ _
  · rw [if_neg e, if_neg e, if_neg e]
    by_cases e2 : t = 2
    · rw [if_pos e2, if_pos e2, if_pos e2]
      exact sgn_trans _ _ _
    · rw [if_neg e2, if_neg e2, if_neg e2]
      exact sgn_trans _ _ _

/-- Rows by m of their values from i on. -/
def cmpFrom (T : List Int) (a b : List XV) : Nat → Nat → Int
  | 0, _ => 0
  | m + 1, i => if cmpV (rd T i) (rdV a i) (rdV b i) = 0 then cmpFrom T a b m (i + 1) else cmpV (rd T i) (rdV a i) (rdV b i)
def cmpRow (T : List Int) (K : Int) (a b : List XV) : Int := cmpFrom T a b (min (min (min K.toNat T.length) a.length) b.length) 0
theorem cmpFrom_anti (T : List Int) (a b : List XV) : ∀ m i, cmpFrom T b a m i = - cmpFrom T a b m i
  | 0, i => by simp [cmpFrom]
  | m + 1, i => by
    unfold cmpFrom
    rw [cmpV_anti _ (rdV a i) (rdV b i), cmpFrom_anti T a b m (i + 1)]
    by_cases h : cmpV (rd T i) (rdV a i) (rdV b i) = 0
    · rw [if_pos (by omega), if_pos h]
    · rw [if_neg (by omega), if_neg h]
def FitAt (T : List Int) (a : List XV) (m i : Nat) : Prop := ∀ j : Nat, i ≤ j → j < i + m → fitT (rd T j) (rdV a j) = true ∧ GV (rdV a j)
theorem FitAt.tail {T : List Int} {a : List XV} {m i : Nat} (h : FitAt T a (m + 1) i) : FitAt T a m (i + 1) := fun j h1 h2 => h j (by omega) (by omega)
theorem cmpFrom_trans (T : List Int) (a b c : List XV) : ∀ m i, FitAt T a m i → FitAt T b m i → FitAt T c m i → cmpFrom T a b m i ≤ 0 → cmpFrom T b c m i ≤ 0 → cmpFrom T a c m i ≤ 0
  | 0, i, _, _, _ => by simp [cmpFrom]
  | m + 1, i, ha, hb, hc => by
    obtain ⟨a1, a2⟩ := ha i (by omega) (by omega)
    obtain ⟨b1, b2⟩ := hb i (by omega) (by omega)
    obtain ⟨c1, c2⟩ := hc i (by omega) (by omega)
    have ih := cmpFrom_trans T a b c m (i + 1) ha.tail hb.tail hc.tail
    have t1 := cmpV_trans (rd T i) _ _ _ a1 b1 c1
    have t2 := cmpV_trans (rd T i) _ _ _ c1 a1 b1
    have t3 := cmpV_trans (rd T i) _ _ _ b1 c1 a1
    have z1 := cmpV_zero _ _ _ a1 b1 a2 b2
    have z2 := cmpV_zero _ _ _ b1 c1 b2 c2
    have n1 := cmpV_anti (rd T i) (rdV a i) (rdV c i)
    have n2 := cmpV_anti (rd T i) (rdV b i) (rdV c i)
    have n3 := cmpV_anti (rd T i) (rdV a i) (rdV b i)
    unfold cmpFrom
    intro h1 h2
    split at h1
    · split at h2
      · rename_i e1 e2
        have e3 : cmpV (rd T i) (rdV a i) (rdV c i) = 0 := by rw [z1.mp e1]; exact e2
        rw [if_pos e3]
        exact ih h1 h2
      · rename_i e1 e2
        rw [z1.mp e1, if_neg e2]
        exact h2
    · split at h2
      · rename_i e1 e2
        rw [← z2.mp e2, if_neg e1]
        exact h1
      · rename_i e1 e2
        have h3 := t1 h1 h2
        split
        · rename_i e3
          exfalso
          have : cmpV (rd T i) (rdV b i) (rdV a i) ≤ 0 := t3 h2 (by omega)
          omega
        · exact h3
end Go.Proofs.Ythoelihgpkffiaa.P

/- A row made to fit fits. -/
namespace Go.Proofs.Ythoelihgpkffiaa.P
open Go.RowKit Go.Proofs.YthoelihgpkffiaaW.PrintWords Go.Proofs.YthoelihgpkffiaaW.PrintLast Go.Proofs.YthoelihgpkffiaaW.PrintMore
set_option linter.unusedVariables false
set_option linter.unusedSimpArgs false

theorem rdV_of (P : XV → Prop) (r : List XV) (h0 : P ⟨0, ⟨#[]⟩⟩) (h : ∀ v ∈ r, P v) (i : Nat) : P (rdV r i) := by
  by_cases hi : i < r.length
  · show P (rd_T45 r i)
    rw [rdV_lt r i hi]
    exact h _ (List.getElem_mem hi)
  · show P (rd_T45 r i)
    rw [rdV_ge r i (by omega)]
    exact h0
theorem fit1_GV (t : Int) (v : XV) (h : GV v) : GV (fit1 t v) := by
  unfold fit1
  split
  · exact ⟨by simp, by simp⟩
  · exact h
theorem fitRow_at {T : List Int} {K M G : Int} (hS : Sch T K M G) (r : List XV) (hr : ∀ v ∈ r, GV v) (m : Nat) (hm : m ≤ T.length) : FitAt T (fitRow T r) m 0 := by
  intro j _ hj
  rw [rdV_fitRow T r j (by omega)]
  obtain ⟨h1, h2⟩ := hS.rdt j (by omega)
  exact ⟨fitT_fit1 _ _ h1 h2, fit1_GV _ _ (rdV_of GV r ⟨by simp, by simp⟩ hr j)⟩
theorem cmpFrom_congr (T : List Int) (a b c : List XV) : ∀ m i, (∀ j : Nat, i ≤ j → j < i + m → rdV a j = rdV b j) → cmpFrom T a c m i = cmpFrom T b c m i
  | 0, i, h => rfl
  | m + 1, i, h => by
    unfold cmpFrom
    rw [h i (by omega) (by omega), cmpFrom_congr T a b c m (i + 1) (fun j h1 h2 => h j (by omega) (by omega))]
theorem rdV_take (r : List XV) (n j : Nat) (h : j < n) : rdV (r.take n) j = rdV r j := by
  show rd_T45 _ _ = rd_T45 _ _
  by_cases hi : j < r.length
  · rw [rdV_lt _ j (by rw [List.length_take]; omega), rdV_lt r j hi, List.getElem_take]
  · rw [rdV_ge _ j (by rw [List.length_take]; omega), rdV_ge r j (by omega)]
end Go.Proofs.Ythoelihgpkffiaa.P

/- Rows made to fit. -/
namespace Go.Proofs.Ythoelihgpkffiaa.P
open Go.RowKit Go.Proofs.YthoelihgpkffiaaW.PrintWords Go.Proofs.YthoelihgpkffiaaW.PrintLast Go.Proofs.YthoelihgpkffiaaW.PrintMore
set_option linter.unusedVariables false
set_option linter.unusedSimpArgs false

theorem fits_loop (T : List Int) (K M G : Int) (l : List (List XV)) (n : Nat) (hn : n ≤ 1000000) (hT : T.length ≤ 1000000) : ∀ (d i : Nat) (acc : List (List XV)), i + d = min l.length n → acc.length = i → Ev (fun k => thresherref04_Fits.l0 k l n acc i T K M G) (acc ++ ((l.take n).drop i).map (fitRow T))
  | 0, i, acc, hi, ha => by
    refine Ev.succ ?_
    simp only [thresherref04_Fits.l0]
    have e : (l.take n).drop i = [] := List.drop_of_length_le (by simp; omega)
    rw [e]
    by_cases h : (i : Int) < l.length
    · exact Ev.pos h (Ev.neg (by omega) ((Ev.now _).eq (by simp)))
    · exact Ev.neg h ((Ev.now _).eq (by simp))
  | d + 1, i, acc, hi, ha => by
    have h1 : i < l.length := by omega
    have h2 : i < n := by omega
    refine Ev.succ ?_
    simp only [thresherref04_Fits.l0]
    have e : (l.take n).drop i = l[i] :: (l.take n).drop (i + 1) := by
      rw [List.drop_eq_getElem_cons (by simp; omega)]
      simp
    rw [rdR_lt l i h1, e]
    simp (disch := omega) only [w64]
    refine Ev.pos (by omega) (Ev.pos (by omega) (Ev.pos (by omega) (Ev.bind (fit_ev T K M G _ hT) (Ev.pos (by omega) ?_))))
    refine (fits_loop T K M G l n hn hT d (i + 1) (acc ++ [fitRow T l[i]]) (by omega) (by simp; omega)).eq ?_
    simp
theorem fits_ev (T : List Int) (K M G : Int) (l : List (List XV)) (n : Nat) (hn : n ≤ 1000000) (hT : T.length ≤ 1000000) : Ev (fun k => thresherref04_Fits.f k T K M G l n) ((l.take n).map (fitRow T)) := by
  simp only [thresherref04_Fits.f]
  exact fits_loop T K M G l n hn hT (min l.length n) 0 [] (by omega) rfl
end Go.Proofs.Ythoelihgpkffiaa.P

/- The document's Compare of values tells the same order. -/
namespace Go.Proofs.Ythoelihgpkffiaa.P
open Go.RowKit Go.Proofs.YthoelihgpkffiaaW.PrintWords Go.Proofs.YthoelihgpkffiaaW.PrintLast Go.Proofs.YthoelihgpkffiaaW.PrintMore
set_option linter.unusedVariables false
set_option linter.unusedSimpArgs false

theorem rfits_f (k : Nat) (t n : Int) (s : ByteArray) : thresherref03_Fits.f (k + 1) t n s = some (fitT t ⟨n, s⟩) := by
  unfold thresherref03_Fits.f fitT
  by_cases h1 : t = 1
  · rw [if_pos h1, if_pos (Or.inl h1)]
    subst h1
    rfl
  · rw [if_neg h1]
    by_cases h2 : t = 2
    · rw [if_pos (Or.inr h2)]
      subst h2
      rfl
    · rw [if_neg (by omega), show (t == 2) = false by simpa using h2]
      simp only [thresherref03_Fits.j0, Bool.false_eq_true, if_false]
      by_cases h3 : t = 3
      · rw [if_pos h3, if_pos h3]
        split <;> rfl
      · rw [if_neg h3, if_neg h3]
theorem rfits_ev (t n : Int) (s : ByteArray) : Ev (fun k => thresherref03_Fits.f k t n s) (fitT t ⟨n, s⟩) := Ev.succ ⟨0, fun k _ => rfits_f k t n s⟩
theorem both_ev (t : Int) (a b : XV) : Ev (fun k => thresherref03_both.f k t a.f0 a.f1 b.f0 b.f1) (fitT t a && fitT t b) := by
  simp only [thresherref03_both.f]
  refine Ev.bind (rfits_ev t a.f0 a.f1) (Ev.bind (rfits_ev t b.f0 b.f1) ?_)
  by_cases ha : fitT t a = true
  · exact (Ev.pos ha (Ev.now _)).eq (by rw [ha, Bool.true_and])
  · exact (Ev.neg ha (Ev.now _)).eq (by rw [Bool.eq_false_iff.mpr ha, Bool.false_and])
theorem bt_lt (s : ByteArray) (i : Nat) (h : i < s.size) : bt s i = ((s.data.toList[i]'(by simpa using h)).toNat : Int) := by
  unfold bt
  rw [dif_pos (by simpa using h)]
  rfl
theorem texts_loop (a b : ByteArray) (ha : a.size ≤ 9223372036854775807) : ∀ (d i : Nat), i + d = a.size → i ≤ b.size → Ev (fun k => thresherref03_texts.l0 k a b i) (Lib.compareBytes (a.data.toList.drop i) (b.data.toList.drop i))
  | 0, i, hi, hb => by
    have hn : a.data.toList.length = a.size := by simp
    have hn2 : b.data.toList.length = b.size := by simp
    refine Ev.succ ?_
    simp only [thresherref03_texts.l0]
    refine Ev.neg (by omega) (Ev.succ ?_)
    simp only [thresherref03_texts.j1]
    refine Ev.neg (by simp) ?_
    rw [List.drop_of_length_le (by omega : a.data.toList.length ≤ i)]
    by_cases h : i < b.size
    · rw [List.drop_eq_getElem_cons (by omega : i < b.data.toList.length)]
      exact Ev.pos (by omega) (Ev.now _)
    · rw [List.drop_of_length_le (by omega : b.data.toList.length ≤ i)]
      exact Ev.neg (by omega) (Ev.neg (by omega) (Ev.now _))
  | d + 1, i, hi, hb => by
    have hn : a.data.toList.length = a.size := by simp
    have hn2 : b.data.toList.length = b.size := by simp
    have h1 : i < a.data.toList.length := by omega
    refine Ev.succ ?_
    simp only [thresherref03_texts.l0]
    refine Ev.pos (by omega) (Ev.succ ?_)
    simp only [thresherref03_texts.j1]
    rw [List.drop_eq_getElem_cons h1]
    by_cases h : i < b.size
    · have h2 : i < b.data.toList.length := by omega
      rw [List.drop_eq_getElem_cons h2, bt_lt a i (by omega), bt_lt b i h]
      simp (disch := omega) only [w64]
      unfold Lib.compareBytes
      refine Ev.pos (by simpa using h) (Ev.pos (by omega) (Ev.pos (by omega) (Ev.pos (by omega) ?_)))
      by_cases p : a.data.toList[i] < b.data.toList[i]
      · rw [if_pos p]
        exact Ev.pos (by have := UInt8.lt_iff_toNat_lt.mp p; omega) (Ev.now _)
      · rw [if_neg p]
        refine Ev.neg (fun q => p (UInt8.lt_iff_toNat_lt.mpr (by omega))) ?_
        by_cases r : b.data.toList[i] < a.data.toList[i]
        · rw [if_pos r]
          exact Ev.pos (by have := UInt8.lt_iff_toNat_lt.mp r; omega) (Ev.now _)
        · rw [if_neg r]
          exact Ev.neg (fun q => r (UInt8.lt_iff_toNat_lt.mpr (by omega))) (texts_loop a b ha d (i + 1) (by omega) (by omega))
    · rw [List.drop_of_length_le (by omega : b.data.toList.length ≤ i)]
      exact Ev.neg (by simpa using h) (Ev.neg (by omega) (Ev.pos (by omega) (Ev.now _)))
theorem texts_ev (a b : ByteArray) (ha : a.size ≤ 9223372036854775807) : Ev (fun k => thresherref03_texts.f k a b) (Lib.compareBytes a.data.toList b.data.toList) := by
  simp only [thresherref03_texts.f]
  exact texts_loop a b ha a.size 0 (by omega) (by omega)
theorem rcmpj_ev (p q : Bool) (r : Int) (h : r = if p = true then -1 else if q = true then 1 else 0) : Ev (fun k => thresherref03_Compare.j0 k p q) r := by
  refine Ev.succ ⟨0, fun k _ => ?_⟩
  simp only [thresherref03_Compare.j0]
  rw [h]
  cases p <;> cases q <;> rfl
theorem rcmp_ev (t : Int) (a b : XV) (ga : GV a) (gb : GV b) (hs : a.f1.size ≤ 9223372036854775807) : Ev (fun k => thresherref03_Compare.f k t a.f0 a.f1 b.f0 b.f1) (cmpV t a b) := by
  obtain ⟨g1, g2⟩ := ga
  obtain ⟨g3, g4⟩ := gb
  simp only [thresherref03_Compare.f]
  refine Ev.bind (both_ev t a b) ?_
  by_cases h : fitT t a = true ∧ fitT t b = true
  · rw [cmpV_fit h.1 h.2]
    refine Ev.pos (by rw [h.1, h.2]; rfl) ?_
    by_cases e2 : t = 2
    · have ec : cmpC t a b = sgn (un a.f0) (un b.f0) := by unfold cmpC; rw [if_neg (by omega), if_pos e2]
      rw [ec]
      refine Ev.pos e2 ?_
      by_cases hn : ((decide (a.f0 < 0)) != (decide (b.f0 < 0))) = true
      · refine Ev.pos hn (rcmpj_ev _ _ _ ?_)
        simp only [decide_eq_true_eq]
        unfold sgn un
        by_cases p : a.f0 < 0
        · by_cases q : b.f0 < 0
          · simp [p, q] at hn
          · repeat' split
            all_goals omega
        · by_cases q : b.f0 < 0
          · repeat' split
            all_goals omega
          · simp [p, q] at hn
      · refine Ev.neg hn (rcmpj_ev _ _ _ ?_)
        simp only [decide_eq_true_eq]
        unfold sgn un
        by_cases p : a.f0 < 0
        · by_cases q : b.f0 < 0
          · repeat' split
            all_goals omega
          · simp [p, q] at hn
        · by_cases q : b.f0 < 0
          · simp [p, q] at hn
          · repeat' split
            all_goals omega
    · refine Ev.neg e2 ?_
      by_cases e3 : t = 3
      · exact (Ev.pos e3 (Ev.bind (texts_ev _ _ hs) (Ev.now _))).eq (by unfold cmpC; rw [if_pos e3])
      · have ec : cmpC t a b = sgn a.f0 b.f0 := by unfold cmpC; rw [if_neg e3, if_neg e2]
        rw [ec]
        refine Ev.neg e3 (rcmpj_ev _ _ _ ?_)
        simp only [decide_eq_true_eq]
        rfl
  · exact (Ev.neg (fun q => h (by simpa using q)) (Ev.now _)).eq (by unfold cmpV; rw [if_neg h])
/-- Values as Go has them. -/
def GR (r : List XV) : Prop := ∀ v ∈ r, GV v ∧ v.f1.size ≤ 9223372036854775807
theorem GR.rdV {r : List XV} (h : GR r) (i : Nat) : GV (rdV r i) ∧ (P.rdV r i).f1.size ≤ 9223372036854775807 := by
  by_cases hi : i < r.length
  · show GV (rd_T45 r i) ∧ (rd_T45 r i).f1.size ≤ _
    rw [rdV_lt r i hi]
    exact h _ (List.getElem_mem hi)
  · show GV (rd_T45 r i) ∧ (rd_T45 r i).f1.size ≤ _
    rw [rdV_ge r i (by omega)]
    exact ⟨⟨by simp, by simp⟩, by decide⟩
end Go.Proofs.Ythoelihgpkffiaa.P

/- The document's marks: the key of each granule's first row. -/
namespace Go.Proofs.Ythoelihgpkffiaa.P
open Go.RowKit Go.Proofs.YthoelihgpkffiaaW.PrintWords Go.Proofs.YthoelihgpkffiaaW.PrintLast Go.Proofs.YthoelihgpkffiaaW.PrintMore
set_option linter.unusedVariables false
set_option linter.unusedSimpArgs false

def markOf (K : Nat) (c : List (List XV)) : List XV := (c.headD []).take K
end Go.Proofs.Ythoelihgpkffiaa.P

/- A schema of a shape. -/
namespace Go.Proofs.Ythoelihgpkffiaa.P
open Go.RowKit Go.Proofs.YthoelihgpkffiaaW.PrintWords Go.Proofs.YthoelihgpkffiaaW.PrintLast Go.Proofs.YthoelihgpkffiaaW.PrintMore
theorem u8_of {x : Int} (h : (Lit.int .u8 x).wf = true) : U8 x := wf_u8 h
theorem shape_ev {x : S24} (h : gd24 x) : ∃ T K M G, Ev (fun k => thresherref04_Made.f k x.f0.f0 x.f0.f1 x.f0.f2 x.f0.f3 x.f0.f4 x.f0.f5 x.f0.f6 x.f0.f7 x.f1 x.f2 x.f3 x.f4) (T, K, M, G) ∧ Sch T K M G := by
  obtain ⟨⟨h0, h1, h2, h3, h4, h5, h6, h7⟩, ha, hb, hc, hd⟩ := h
  exact made_ev _ _ _ _ _ _ _ _ _ _ _ _ (u8_of h0) (u8_of h1) (u8_of h2) (u8_of h3) (u8_of h4) (u8_of h5) (u8_of h6) (u8_of h7) (u8_of ha) (u8_of hb) (u8_of hc) (u8_of hd)
end Go.Proofs.Ythoelihgpkffiaa.P

/- Granules: rows cut after every so many. -/
namespace Go.Proofs.Ythoelihgpkffiaa.P
open Go.RowKit Go.Proofs.YthoelihgpkffiaaW.PrintWords Go.Proofs.YthoelihgpkffiaaW.PrintLast Go.Proofs.YthoelihgpkffiaaW.PrintMore
set_option linter.unusedVariables false
set_option linter.unusedSimpArgs false

theorem split_loop (T : List Int) (K M : Int) (g : Nat) (hg : 1 ≤ g) (hg8 : g ≤ 1000000) (l : List (List XV)) (hl : l.length ≤ 1000000) : ∀ (d i : Nat) (acc : List (List (List XV))), l.length ≤ i + d → acc.length ≤ i → i ≤ 2000000 → Ev (fun k => grain_Split.l0 k l acc i T K M g) (acc ++ chunks g (l.drop i))
  | 0, i, acc, hi, ha, hm => by
    refine Ev.succ ?_
    simp only [grain_Split.l0]
    have e0 : chunks g (l.drop i) = [] := by rw [List.drop_of_length_le (by omega), chunks_nil]
    rw [e0]
    exact Ev.neg (by omega) ((Ev.now _).eq (by simp))
  | d + 1, i, acc, hi, ha, hm => by
    refine Ev.succ ?_
    simp only [grain_Split.l0]
    by_cases h : i < l.length
    · have em : mn ((i : Int) + (g : Int)) (l.length : Int) = ((min (i + g) l.length : Nat) : Int) := by unfold mn; split <;> omega
      simp (disch := omega) only [w64]
      rw [em]
      have ne : l.drop i ≠ [] := fun h0 => by have := congrArg List.length h0; rw [List.length_drop] at this; simp at this; omega
      have e : (l.take ((min (i + g) l.length : Nat) : Int).toNat).drop (i : Int).toNat = (l.drop i).take g := by
        simp only [Int.toNat_natCast]
        rw [List.drop_take]
        by_cases q : i + g ≤ l.length
        · rw [Nat.min_eq_left q, show i + g - i = g by omega]
        · rw [Nat.min_eq_right (by omega), List.take_of_length_le (by simp), List.take_of_length_le (by simp; omega)]
      rw [e, chunks_step hg ne, List.drop_drop]
      refine Ev.pos (by omega) (Ev.pos (by omega) (Ev.pos (by omega) (Ev.pos (by omega) (Ev.pos (by omega) ?_))))
      refine (split_loop T K M g hg hg8 l hl d (i + g) (acc ++ [(l.drop i).take g]) (by omega) (by simp; omega) (by omega)).eq ?_
      simp
    · have e0 : chunks g (l.drop i) = [] := by rw [List.drop_of_length_le (by omega), chunks_nil]
      rw [e0]
      exact Ev.neg (by omega) ((Ev.now _).eq (by simp))
theorem split_ev (T : List Int) (K M : Int) (g : Nat) (hg : 1 ≤ g) (hg8 : g ≤ 1000000) (l : List (List XV)) (hl : l.length ≤ 1000000) : Ev (fun k => grain_Split.f k T K M g l) (chunks g l) := by
  simp only [grain_Split.f]
  exact split_loop T K M g hg hg8 l hl l.length 0 [] (by omega) (by simp) (by omega)

end Go.Proofs.Ythoelihgpkffiaa.P

/- Marks: the key of each granule's first row. -/
namespace Go.Proofs.Ythoelihgpkffiaa.P
open Go.RowKit Go.Proofs.YthoelihgpkffiaaW.PrintWords Go.Proofs.YthoelihgpkffiaaW.PrintLast Go.Proofs.YthoelihgpkffiaaW.PrintMore
set_option linter.unusedVariables false
set_option linter.unusedSimpArgs false

abbrev rdRR (l : List (List (List XV))) (i : Int) : List (List XV) := rd_L4 l i
theorem rdRR_lt (l : List (List (List XV))) (i : Nat) (h : i < l.length) : rd_L4 l i = l[i] := by unfold rd_L4; simp [List.getD, h]
theorem key_f (T : List Int) (K : Nat) (M G : Int) (r : List XV) (hK : K ≤ r.length) (hK2 : K ≤ 1000000) : grain_Key.f T K M G r = some (r.take K) := by
  have h1 : ([] : List XV).length + (r.take K).length < 5864062014805 := by rw [List.length_take]; simp; omega
  simp [grain_Key.f, api_Value.f]
  omega
theorem headD_mem {c : List (List XV)} (h : c ≠ []) : c.headD [] ∈ c := by
  cases c with
  | nil => exact absurd rfl h
  | cons a b => simp
theorem rdR_head (c : List (List XV)) (h : c ≠ []) : rd_L3 c 0 = c.headD [] := by
  cases c with
  | nil => exact absurd rfl h
  | cons a b => rfl
theorem marks_loop (T : List Int) (K : Nat) (M G : Int) (hK2 : K ≤ 1000000) (cs : List (List (List XV))) (hc : cs.length ≤ 1000000) (hne : ∀ c ∈ cs, c ≠ [] ∧ ∀ r ∈ c, K ≤ r.length) : ∀ (d i : Nat) (acc : List (List XV)), i + d = cs.length → acc.length = i → Ev (fun k => grain_Marks.l0 k acc cs cs.length i T K M G) (acc ++ (cs.drop i).map (markOf K))
  | 0, i, acc, hi, ha => by
    refine Ev.succ ?_
    simp only [grain_Marks.l0]
    rw [List.drop_of_length_le (by omega)]
    exact Ev.neg (by omega) ((Ev.now _).eq (by simp))
  | d + 1, i, acc, hi, ha => by
    have h : i < cs.length := by omega
    refine Ev.succ ?_
    simp only [grain_Marks.l0]
    obtain ⟨n1, n2⟩ := hne _ (List.getElem_mem h)
    rw [rdRR_lt cs i h, List.drop_eq_getElem_cons h]
    have hp := List.length_pos_iff.mpr n1
    have e0 : rd_L3 cs[i] 0 = cs[i].headD [] := rdR_head _ n1
    have hm : cs[i].headD [] ∈ cs[i] := headD_mem n1
    rw [e0]
    simp (disch := omega) only [w64]
    refine Ev.pos (by omega) (Ev.pos (by omega) (Ev.pos (by omega) (Ev.pos (by omega) (Ev.bindc (key_f T K M G _ (n2 _ hm) hK2) (Ev.pos (by omega) ?_)))))
    refine (marks_loop T K M G hK2 cs hc hne d (i + 1) (acc ++ [(cs[i].headD []).take K]) (by omega) (by simp; omega)).eq ?_
    rw [List.map_cons, List.append_assoc]
    rfl
theorem marks_ev (T : List Int) (K : Nat) (M : Int) (g : Nat) (hg : 1 ≤ g) (hg8 : g ≤ 1000000) (hK2 : K ≤ 1000000) (l : List (List XV)) (hl : l.length ≤ 1000000) (hr : ∀ r ∈ l, K ≤ r.length) : Ev (fun k => grain_Marks.f k T K M g l) ((chunks g l).map (markOf K)) := by
  simp only [grain_Marks.f]
  have hc := chunks_length hg l.length l (Nat.le_refl _)
  have := marks_loop T K M g hK2 (chunks g l) (by omega) (fun c h => ⟨(chunks_mem hg _ l (Nat.le_refl _) c h).1, fun r hx => hr r ((chunks_mem hg _ l (Nat.le_refl _) c h).2.2 r hx)⟩) (chunks g l).length 0 [] (by omega) rfl
  exact Ev.bind (split_ev T K M g hg hg8 l hl) (by simpa using this)
end Go.Proofs.Ythoelihgpkffiaa.P

/- The document's Compare of rows tells the same order. -/
namespace Go.Proofs.Ythoelihgpkffiaa.P
open Go.RowKit Go.Proofs.YthoelihgpkffiaaW.PrintWords Go.Proofs.YthoelihgpkffiaaW.PrintLast Go.Proofs.YthoelihgpkffiaaW.PrintMore
set_option linter.unusedVariables false
set_option linter.unusedSimpArgs false

theorem rowcmp_loop (T : List Int) (K M G : Int) (a b : List XV) (ga : GR a) (gb : GR b) (m : Nat) (hm : min (min (min K.toNat T.length) a.length) b.length = m) (hT : T.length ≤ 1000000000) : ∀ (d i : Nat), i + d = m → Ev (fun k => thresherref04_Compare.l0 k a b i T K M G) (cmpFrom T a b d i)
  | 0, i, hi => by
    have hj : Ev (fun k => thresherref04_Compare.j1 k a b i false T K M G) 0 := by
      refine Ev.succ ?_
      simp only [thresherref04_Compare.j1]
      exact Ev.neg (by simp) (Ev.now _)
    refine Ev.succ ?_
    simp only [thresherref04_Compare.l0]
    unfold cmpFrom
    by_cases h1 : (i : Int) < K
    · refine Ev.pos h1 ?_
      by_cases h2 : (i : Int) < (T.length : Int)
      · refine Ev.pos h2 ?_
        by_cases h3 : (i : Int) < (a.length : Int)
        · refine Ev.pos h3 ?_
          rw [decide_eq_false (by omega : ¬ (i : Int) < (b.length : Int))]
          exact hj
        · exact Ev.neg h3 hj
      · exact Ev.neg h2 hj
    · exact Ev.neg h1 hj
  | d + 1, i, hi => by
    refine Ev.succ ?_
    simp only [thresherref04_Compare.l0]
    unfold cmpFrom
    refine Ev.pos (by omega) (Ev.pos (by omega) (Ev.pos (by omega) (Ev.succ ?_)))
    simp only [thresherref04_Compare.j1]
    simp (disch := omega) only [w64]
    refine Ev.pos (decide_eq_true (by omega)) (Ev.pos (by omega) (Ev.pos (by omega) (Ev.pos (by omega) (Ev.pos (by omega) (Ev.bind (rcmp_ev _ _ _ (ga.rdV i).1 (gb.rdV i).1 (ga.rdV i).2) ?_)))))
    by_cases h : cmpV (rd T i) (rdV a i) (rdV b i) = 0
    · rw [if_pos h]
      exact Ev.pos h (rowcmp_loop T K M G a b ga gb m hm hT d (i + 1) (by omega))
    · rw [if_neg h]
      exact Ev.neg h (Ev.now _)
theorem rowcmp_ev (T : List Int) (K M G : Int) (a b : List XV) (ga : GR a) (gb : GR b) (hT : T.length ≤ 1000000000) : Ev (fun k => thresherref04_Compare.f k T K M G a b) (cmpRow T K a b) := by
  simp only [thresherref04_Compare.f]
  exact rowcmp_loop T K M G a b ga gb _ rfl hT _ 0 (by omega)
end Go.Proofs.Ythoelihgpkffiaa.P

/- Rows that fit, as far as they go: their order. -/
namespace Go.Proofs.Ythoelihgpkffiaa.P
open Go.RowKit Go.Proofs.YthoelihgpkffiaaW.PrintWords Go.Proofs.YthoelihgpkffiaaW.PrintLast Go.Proofs.YthoelihgpkffiaaW.PrintMore
set_option linter.unusedVariables false
set_option linter.unusedSimpArgs false

structure RowOk (T : List Int) (a : List XV) : Prop where
  len : a.length ≤ T.length
  fit : FitAt T a a.length 0
  gr : GR a
theorem FitAt.mono {T : List Int} {a : List XV} {m m' : Nat} (h : FitAt T a m 0) (hm : m' ≤ m) : FitAt T a m' 0 := fun j h1 h2 => h j h1 (by omega)
theorem fit1_size (t : Int) (v : XV) (h : v.f1.size ≤ 9223372036854775807) : (fit1 t v).f1.size ≤ 9223372036854775807 := by
  unfold fit1
  split
  · show (if (v.f1.size : Int) > 60 then v.f1.extract 0 60 else v.f1).size ≤ _
    split
    · rw [ByteArray.size_extract]; omega
    · exact h
  · show (0 : Nat) ≤ _; omega
theorem fitRow_ok {T : List Int} {K M G : Int} (hS : Sch T K M G) (r : List XV) (hr : GR r) : RowOk T (fitRow T r) := by
  refine ⟨by rw [fitRow_length]; omega, by rw [fitRow_length]; exact fitRow_at hS r (fun v h => (hr v h).1) _ (Nat.le_refl _), fun v hv => ?_⟩
  obtain ⟨i, hi, rfl⟩ := List.getElem_of_mem hv
  have hi2 : i < T.length := by rwa [fitRow_length] at hi
  have e := rdV_fitRow T r i hi2
  rw [show rdV (fitRow T r) i = (fitRow T r)[i] from rdV_lt _ i hi] at e
  rw [e]
  have := hr.rdV i
  exact ⟨fit1_GV _ _ this.1, fit1_size _ _ this.2⟩
theorem RowOk.take {T : List Int} {a : List XV} (h : RowOk T a) (n : Nat) : RowOk T (a.take n) := by
  have hl : (a.take n).length ≤ a.length := by rw [List.length_take]; omega
  refine ⟨by have := h.len; omega, fun j h1 h2 => ?_, fun v hv => h.gr v (List.mem_of_mem_take hv)⟩
  rw [List.length_take] at h2
  rw [rdV_take a n j (by omega)]
  exact h.fit j h1 (by omega)
theorem cmpFrom_pre (T : List Int) (a b : List XV) : ∀ m' m i, m' ≤ m → cmpFrom T a b m i ≤ 0 → cmpFrom T a b m' i ≤ 0
  | 0, _, _, _, _ => by simp [cmpFrom]
  | m' + 1, 0, _, h, _ => by omega
  | m' + 1, m + 1, i, h, hc => by
    simp only [cmpFrom] at hc ⊢
    split
    · rename_i h0
      rw [if_pos h0] at hc
      exact cmpFrom_pre T a b m' m (i + 1) (by omega) hc
    · rename_i h0
      rw [if_neg h0] at hc
      exact hc
theorem cmpRow_anti (T : List Int) (K : Int) (a b : List XV) : cmpRow T K b a = - cmpRow T K a b := by
  unfold cmpRow
  rw [cmpFrom_anti, show min (min (min K.toNat T.length) b.length) a.length = min (min (min K.toNat T.length) a.length) b.length by omega]
/-- What is not above what is not above: by way of a row that has all its key. -/
theorem cmpRow_tr (T : List Int) (K : Int) {a b c : List XV} (ha : RowOk T a) (hb : RowOk T b) (hc : RowOk T c) (hf : min K.toNat T.length ≤ b.length) : cmpRow T K a b ≤ 0 → cmpRow T K b c ≤ 0 → cmpRow T K a c ≤ 0 := by
  unfold cmpRow
  intro h1 h2
  exact cmpFrom_trans T a b c _ 0 (ha.fit.mono (by omega)) (hb.fit.mono (by omega)) (hc.fit.mono (by omega)) (cmpFrom_pre T a b _ _ 0 (by omega) h1) (cmpFrom_pre T b c _ _ 0 (by omega) h2)
theorem cmpRow_take (T : List Int) (K : Nat) (a x : List XV) : cmpRow T K (a.take K) x = cmpRow T K a x := by
  unfold cmpRow
  have e : min (min (min (K : Int).toNat T.length) (a.take K).length) x.length = min (min (min (K : Int).toNat T.length) a.length) x.length := by rw [List.length_take]; omega
  rw [e]
  refine cmpFrom_congr T _ _ x _ 0 (fun j h1 h2 => rdV_take a K j (by omega))
theorem cmpRow_take2 (T : List Int) (K : Nat) (a x : List XV) : cmpRow T K x (a.take K) = cmpRow T K x a := by
  rw [cmpRow_anti T K (a.take K) x, cmpRow_take, ← cmpRow_anti]
theorem cmpRow_self (T : List Int) (K : Int) (a : List XV) : cmpRow T K a a = 0 := by have := cmpRow_anti T K a a; omega
/-- A row that fits, and has all its key. -/
structure Full (T : List Int) (K : Int) (a : List XV) : Prop where
  ok : RowOk T a
  key : min K.toNat T.length ≤ a.length
theorem fitRow_full {T : List Int} {K M G : Int} (hS : Sch T K M G) (r : List XV) (hr : GR r) : Full T K (fitRow T r) := ⟨fitRow_ok hS r hr, by rw [fitRow_length]; omega⟩
/-- Rows in order. -/
def InOrd (T : List Int) (K : Int) (l : List (List XV)) : Prop := l.Pairwise (fun a b => cmpRow T K a b ≤ 0)
theorem InOrd.at {T : List Int} {K : Int} {l : List (List XV)} (h : InOrd T K l) {i j : Nat} (hij : i ≤ j) (hj : j < l.length) : cmpRow T K (rdR l i) (rdR l j) ≤ 0 := by
  rw [show rdR l i = l[i] from rdR_lt l i (by omega), show rdR l j = l[j] from rdR_lt l j hj]
  rcases Nat.eq_or_lt_of_le hij with e | h1
  · subst e; rw [cmpRow_self]; omega
  · exact List.pairwise_iff_getElem.mp h i j (by omega) hj h1
end Go.Proofs.Ythoelihgpkffiaa.P

/- The marks of rows in order are in order. -/
namespace Go.Proofs.Ythoelihgpkffiaa.P
open Go.RowKit Go.Proofs.YthoelihgpkffiaaW.PrintWords Go.Proofs.YthoelihgpkffiaaW.PrintLast Go.Proofs.YthoelihgpkffiaaW.PrintMore
set_option linter.unusedVariables false
set_option linter.unusedSimpArgs false

theorem chunks_get {α : Type} {g : Nat} (hg : 1 ≤ g) : ∀ (n : Nat) (l : List α), l.length ≤ n → ∀ c, (chunks g l)[c]? = if c * g < l.length then some ((l.drop (c * g)).take g) else none
  | 0, l, h, c => by rw [List.length_eq_zero_iff.mp (by omega : l.length = 0), chunks_nil]; simp
  | n + 1, l, h, c => by
    by_cases e : l = []
    · rw [e, chunks_nil]; simp
    · rw [chunks_step hg e]
      have h2 := List.length_pos_iff.mpr e
      cases c with
      | zero => rw [if_pos (by omega)]; simp
      | succ c =>
        rw [List.getElem?_cons_succ, chunks_get hg n (l.drop g) (by rw [List.length_drop]; omega) c, List.length_drop, List.drop_drop]
        have e1 : (c + 1) * g = g + c * g := by rw [Nat.succ_mul]; omega
        rw [e1]
        by_cases q : c * g < l.length - g
        · rw [if_pos q, if_pos (by omega)]
        · rw [if_neg q, if_neg (by omega)]
/-- The marks of rows. -/
def marksR (K g : Nat) (l : List (List XV)) : List (List XV) := (chunks g l).map (markOf K)
theorem marksR_get {g : Nat} (hg : 1 ≤ g) (K : Nat) (l : List (List XV)) (c : Nat) : (marksR K g l)[c]? = if c * g < l.length then some ((rdR l (c * g : Nat)).take K) else none := by
  unfold marksR
  rw [List.getElem?_map, chunks_get hg l.length l (Nat.le_refl _) c]
  by_cases q : c * g < l.length
  · rw [if_pos q, if_pos q, show rdR l (c * g : Nat) = l[c * g] from rdR_lt l _ q, Option.map_some]
    unfold markOf
    rw [List.drop_eq_getElem_cons q]
    cases g with
    | zero => omega
    | succ g => rfl
  · rw [if_neg q, if_neg q]; rfl
theorem marksR_lt {g : Nat} (hg : 1 ≤ g) (K : Nat) (l : List (List XV)) (c : Nat) : c < (marksR K g l).length ↔ c * g < l.length := by
  have h := marksR_get hg K l c
  by_cases q : c * g < l.length
  · rw [if_pos q] at h
    exact ⟨fun _ => q, fun _ => (List.getElem?_eq_some_iff.mp h).1⟩
  · rw [if_neg q] at h
    have := List.getElem?_eq_none_iff.mp h
    exact ⟨fun h2 => by omega, fun h2 => absurd h2 q⟩
theorem marksR_at {g : Nat} (hg : 1 ≤ g) (K : Nat) (l : List (List XV)) (c : Nat) (hc : c < (marksR K g l).length) : rdR (marksR K g l) c = (rdR l (c * g : Nat)).take K := by
  have h := marksR_get hg K l c
  rw [if_pos ((marksR_lt hg K l c).mp hc)] at h
  rw [show rdR (marksR K g l) c = _ from rdR_lt _ c hc]
  exact (List.getElem?_eq_some_iff.mp h).2
theorem marksR_full {T : List Int} {K g : Nat} (hg : 1 ≤ g) {l : List (List XV)} (hf : ∀ r ∈ l, Full T K r) : ∀ r ∈ marksR K g l, Full T K r := by
  intro r hr
  obtain ⟨c, hc, rfl⟩ := List.getElem_of_mem hr
  have e := marksR_at hg K l c hc
  rw [show rdR (marksR K g l) c = _ from rdR_lt _ c hc] at e
  have hq := (marksR_lt hg K l c).mp hc
  have h1 := hf _ (List.getElem_mem hq)
  rw [e, show rdR l (c * g : Nat) = _ from rdR_lt l _ hq]
  exact ⟨h1.ok.take K, by rw [List.length_take]; have := h1.key; omega⟩
theorem marksR_cmp {T : List Int} {K g : Nat} (hg : 1 ≤ g) {l : List (List XV)} (c : Nat) (hc : c < (marksR K g l).length) (x : List XV) : cmpRow T K (rdR (marksR K g l) c) x = cmpRow T K (rdR l (c * g : Nat)) x := by
  rw [marksR_at hg K l c hc, cmpRow_take]
theorem marksR_cmp2 {T : List Int} {K g : Nat} (hg : 1 ≤ g) {l : List (List XV)} (c : Nat) (hc : c < (marksR K g l).length) (x : List XV) : cmpRow T K x (rdR (marksR K g l) c) = cmpRow T K x (rdR l (c * g : Nat)) := by
  rw [marksR_at hg K l c hc, cmpRow_take2]
theorem marksR_ord {T : List Int} {K g : Nat} (hg : 1 ≤ g) {l : List (List XV)} (ho : InOrd T K l) : InOrd T K (marksR K g l) := by
  refine List.pairwise_iff_getElem.mpr (fun i j hi hj hij => ?_)
  rw [← show rdR (marksR K g l) i = _ from rdR_lt _ i hi, ← show rdR (marksR K g l) j = _ from rdR_lt _ j hj, marksR_cmp hg i hi, marksR_cmp2 hg j hj]
  exact ho.at (Nat.mul_le_mul_right g (by omega)) ((marksR_lt hg K l j).mp hj)
end Go.Proofs.Ythoelihgpkffiaa.P

/- The document's Sort puts rows in order. -/
namespace Go.Proofs.Ythoelihgpkffiaa.P
open Go.RowKit Go.Proofs.YthoelihgpkffiaaW.PrintWords Go.Proofs.YthoelihgpkffiaaW.PrintLast Go.Proofs.YthoelihgpkffiaaW.PrintMore
set_option linter.unusedVariables false
set_option linter.unusedSimpArgs false

/-- A row put in, behind those that are not above it. -/
def insR (T : List Int) (K : Int) (x : List XV) : List (List XV) → List (List XV)
  | [] => [x]
  | y :: l => if cmpRow T K y x > 0 then x :: y :: l else y :: insR T K x l
theorem insR_cons (T : List Int) (K : Int) (x y : List XV) (l : List (List XV)) : insR T K x (y :: l) = if cmpRow T K y x > 0 then x :: y :: l else y :: insR T K x l := rfl
def sortR (T : List Int) (K : Int) (l acc : List (List XV)) : List (List XV) := l.foldl (fun a x => insR T K x a) acc
theorem insR_length (T : List Int) (K : Int) (x : List XV) : ∀ l, (insR T K x l).length = l.length + 1
  | [] => rfl
  | y :: l => by
    unfold insR
    split
    · simp
    · simp [insR_length T K x l]
theorem insR_mem (T : List Int) (K : Int) (x : List XV) : ∀ l z, z ∈ insR T K x l ↔ z = x ∨ z ∈ l
  | [], z => by simp [insR]
  | y :: l, z => by
    unfold insR
    split
    · simp
    · rw [List.mem_cons, insR_mem T K x l z, List.mem_cons]
      constructor
      · rintro (h | h | h)
        · exact Or.inr (Or.inl h)
        · exact Or.inl h
        · exact Or.inr (Or.inr h)
      · rintro (h | h | h)
        · exact Or.inr (Or.inl h)
        · exact Or.inl h
        · exact Or.inr (Or.inr h)
theorem insR_ord (T : List Int) (K : Int) (x : List XV) (hx : Full T K x) : ∀ l, (∀ r ∈ l, Full T K r) → InOrd T K l → InOrd T K (insR T K x l)
  | [], _, _ => List.pairwise_singleton _ _
  | y :: l, hl, ho => by
    have ho2 := List.pairwise_cons.mp ho
    have hy := hl y List.mem_cons_self
    unfold insR
    split
    · rename_i h
      have h2 : cmpRow T K x y ≤ 0 := by rw [cmpRow_anti]; omega
      refine List.pairwise_cons.mpr ⟨fun z hz => ?_, ho⟩
      rcases List.mem_cons.mp hz with rfl | hz
      · exact h2
      · exact cmpRow_tr T K hx.ok hy.ok (hl z (List.mem_cons_of_mem _ hz)).ok hy.key h2 (ho2.1 z hz)
    · rename_i h
      refine List.pairwise_cons.mpr ⟨fun z hz => ?_, insR_ord T K x hx l (fun r hr => hl r (List.mem_cons_of_mem _ hr)) ho2.2⟩
      rcases (insR_mem T K x l z).mp hz with rfl | hz
      · omega
      · exact ho2.1 z hz
theorem sortR_all (T : List Int) (K : Int) : ∀ (l acc : List (List XV)), (∀ r ∈ l, Full T K r) → (∀ r ∈ acc, Full T K r) → InOrd T K acc → InOrd T K (sortR T K l acc) ∧ (sortR T K l acc).length = l.length + acc.length ∧ ∀ z, z ∈ sortR T K l acc ↔ z ∈ l ∨ z ∈ acc
  | [], acc, _, _, ho => ⟨ho, by simp [sortR], fun z => by simp [sortR]⟩
  | x :: l, acc, hl, ha, ho => by
    have hx := hl x List.mem_cons_self
    obtain ⟨a1, a2, a3⟩ := sortR_all T K l (insR T K x acc) (fun r hr => hl r (List.mem_cons_of_mem _ hr)) (fun r hr => by
      rcases (insR_mem T K x acc r).mp hr with rfl | h
      · exact hx
      · exact ha r h) (insR_ord T K x hx acc ha ho)
    refine ⟨a1, ?_, fun z => ?_⟩
    · show (sortR T K l (insR T K x acc)).length = _
      rw [a2, insR_length, List.length_cons]; omega
    · show z ∈ sortR T K l (insR T K x acc) ↔ _
      rw [a3, insR_mem, List.mem_cons]
      constructor
      · rintro (h | h | h)
        · exact Or.inl (Or.inr h)
        · exact Or.inl (Or.inl h)
        · exact Or.inr h
      · rintro ((h | h) | h)
        · exact Or.inr (Or.inl h)
        · exact Or.inl h
        · exact Or.inr (Or.inr h)

theorem sort_in (T : List Int) (K M G : Int) (hT : T.length ≤ 1000000000) (l out : List (List XV)) (i : Nat) (hi : i < l.length) (hl : l.length ≤ 1000000) (ho : out.length ≤ 1000000) (gl : ∀ r ∈ l, GR r) (go : ∀ r ∈ out, GR r) {R : List (List XV)} (hR : Ev (fun k => thresherref09_Sort.l0 k l (insR T K l[i] out) ((i + 1 : Nat) : Int) T K M G) R) :
    ∀ (d j : Nat) (next : List (List XV)) (put : Bool), j + d = out.length → next.length ≤ 2 * j + 1 → (put = true → next ++ out.drop j = insR T K l[i] out) → (put = false → next ++ insR T K l[i] (out.drop j) = insR T K l[i] out) → Ev (fun k => thresherref09_Sort.l1 k l out i next put j T K M G) R
  | 0, j, next, put, hj, hn, hp, hq => by
    refine Ev.succ ?_
    simp only [thresherref09_Sort.l1]
    have e0 : out.drop j = [] := List.drop_of_length_le (by omega)
    rw [e0] at hp hq
    refine Ev.neg (by omega) ?_
    cases put
    · have h := hq rfl
      refine Ev.neg (by simp) (Ev.pos (by omega) (Ev.pos (by omega) (Ev.pos (by omega) ?_)))
      rw [rdR_lt l i hi]
      simp (disch := omega) only [w64]
      rw [show next ++ [l[i]] = insR T K l[i] out from h]
      exact hR
    · have h := hp rfl
      rw [List.append_nil] at h
      refine Ev.pos rfl ?_
      simp (disch := omega) only [w64]
      rw [h]
      exact hR
  | d + 1, j, next, put, hj, hn, hp, hq => by
    have h : j < out.length := by omega
    refine Ev.succ ?_
    simp only [thresherref09_Sort.l1]
    rw [List.drop_eq_getElem_cons h] at hp hq
    rw [rdR_lt out j h, rdR_lt l i hi]
    simp (disch := omega) only [w64]
    refine Ev.pos (by omega) ?_
    cases put
    · refine Ev.neg (by simp) (Ev.pos (by omega) (Ev.pos (by omega) (Ev.pos (by omega) (Ev.bind (rowcmp_ev T K M G out[j] l[i] (go _ (List.getElem_mem h)) (gl _ (List.getElem_mem hi)) hT) ?_))))
      have hq2 := hq rfl
      rw [insR_cons] at hq2
      by_cases hc : cmpRow T K out[j] l[i] > 0
      · rw [if_pos hc] at hq2
        refine Ev.pos hc (Ev.pos (by omega) (Ev.bindc rfl (Ev.pos (by simp; omega) ?_)))
        refine sort_in T K M G hT l out i hi hl ho gl go hR d (j + 1) _ true (by omega) (by simp; omega) (fun _ => ?_) (fun h => absurd h (by simp))
        rw [← hq2]; simp
      · rw [if_neg hc] at hq2
        refine Ev.neg hc (Ev.pos (by omega) ?_)
        refine sort_in T K M G hT l out i hi hl ho gl go hR d (j + 1) _ false (by omega) (by simp; omega) (fun h => absurd h (by simp)) (fun _ => ?_)
        rw [← hq2]; simp
    · refine Ev.pos rfl (Ev.pos (by omega) (Ev.pos (by omega) ?_))
      refine sort_in T K M G hT l out i hi hl ho gl go hR d (j + 1) _ true (by omega) (by simp; omega) (fun _ => ?_) (fun h => absurd h (by simp))
      rw [← hp rfl]; simp
theorem sort_loop (T : List Int) (K M G : Int) (hT : T.length ≤ 1000000000) (l : List (List XV)) (hl : l.length ≤ 500000) (gl : ∀ r ∈ l, GR r) : ∀ (d i : Nat) (acc : List (List XV)), i + d = l.length → acc.length ≤ i → (∀ r ∈ acc, GR r) → Ev (fun k => thresherref09_Sort.l0 k l acc i T K M G) (sortR T K (l.drop i) acc)
  | 0, i, acc, hi, ha, ga => by
    refine Ev.succ ?_
    simp only [thresherref09_Sort.l0]
    rw [List.drop_of_length_le (by omega)]
    exact Ev.neg (by omega) (Ev.now _)
  | d + 1, i, acc, hi, ha, ga => by
    have h : i < l.length := by omega
    refine Ev.succ ?_
    simp only [thresherref09_Sort.l0]
    refine Ev.pos (by omega) ?_
    rw [List.drop_eq_getElem_cons h]
    have hR := sort_loop T K M G hT l hl gl d (i + 1) (insR T K l[i] acc) (by omega) (by rw [insR_length]; omega) (fun r hr => by
      rcases (insR_mem T K l[i] acc r).mp hr with rfl | h2
      · exact gl _ (List.getElem_mem h)
      · exact ga r h2)
    exact sort_in T K M G hT l acc i h (by omega) (by omega) gl ga hR acc.length 0 [] false (by omega) (by simp) (fun h => absurd h (by simp)) (fun _ => rfl)
theorem sort_ev (T : List Int) (K M G : Int) (hT : T.length ≤ 1000000000) (l : List (List XV)) (hl : l.length ≤ 500000) (gl : ∀ r ∈ l, GR r) : Ev (fun k => thresherref09_Sort.f k T K M G l) (sortR T K l []) := by
  simp only [thresherref09_Sort.f]
  exact sort_loop T K M G hT l hl gl l.length 0 [] (by omega) (by simp) (by simp)
end Go.Proofs.Ythoelihgpkffiaa.P

/- Rows made to fit, and put in order. -/
namespace Go.Proofs.Ythoelihgpkffiaa.P
open Go.RowKit Go.Proofs.YthoelihgpkffiaaW.PrintWords Go.Proofs.YthoelihgpkffiaaW.PrintLast Go.Proofs.YthoelihgpkffiaaW.PrintMore
set_option linter.unusedVariables false
set_option linter.unusedSimpArgs false

theorem GR_gd {r : List XV} (h : ∀ v ∈ r, gd45 v) : GR r := fun v hv => by
  obtain ⟨h1, h2⟩ := h v hv
  exact ⟨wf_i64 h1, by unfold maxLen at h2; omega⟩
/-- The rows that a law speaks of: made to fit, 60 at most. -/
def fitsR (T : List Int) (l : List (List XV)) : List (List XV) := (l.take 60).map (fitRow T)
structure Rows60 (T : List Int) (K : Int) (l : List (List XV)) : Prop where
  len : l.length ≤ 60
  full : ∀ r ∈ l, Full T K r
  wide : ∀ r ∈ l, r.length = T.length
theorem Rows60.gr {T : List Int} {K : Int} {l : List (List XV)} (h : Rows60 T K l) : ∀ r ∈ l, GR r := fun r hr => (h.full r hr).ok.gr
theorem fitsR_ok {T : List Int} {K M G : Int} (hS : Sch T K M G) (l : List (List XV)) (hl : ∀ a ∈ l, ∀ v ∈ a, gd45 v) : Rows60 T K (fitsR T l) := by
  refine ⟨by unfold fitsR; rw [List.length_map, List.length_take]; omega, fun r hr => ?_, fun r hr => ?_⟩
  · obtain ⟨a, ha, rfl⟩ := List.mem_map.mp hr
    exact fitRow_full hS a (GR_gd (hl a (List.mem_of_mem_take ha)))
  · obtain ⟨a, ha, rfl⟩ := List.mem_map.mp hr
    exact fitRow_length T a
theorem sorted_ok {T : List Int} {K : Int} {l : List (List XV)} (h : Rows60 T K l) : Rows60 T K (sortR T K l []) ∧ InOrd T K (sortR T K l []) := by
  obtain ⟨a1, a2, a3⟩ := sortR_all T K l [] h.full (by simp) List.Pairwise.nil
  refine ⟨⟨by have := h.len; simp at a2; omega, fun r hr => ?_, fun r hr => ?_⟩, a1⟩
  · rcases (a3 r).mp hr with q | q
    · exact h.full r q
    · exact absurd q (by simp)
  · rcases (a3 r).mp hr with q | q
    · exact h.wide r q
    · exact absurd q (by simp)
end Go.Proofs.Ythoelihgpkffiaa.P

/- The marks of rows in order are in order, and each granule's rows lie between its mark and the next one: the plain law. -/
namespace Go.Proofs.Ythoelihgpkffiaa.Pure
open Go.RowKit Go.Proofs.Ythoelihgpkffiaa.P Go.Proofs.YthoelihgpkffiaaW.PrintWords Go.Proofs.YthoelihgpkffiaaW.PrintLast
set_option linter.unusedVariables false
set_option linter.unusedSectionVars false
theorem shown_ev : Ev (fun k => thresherlaw10_shown.f k) true := Ev.of thresherlaw10_shown.mono (k := 10) (by kernel_rfl)
theorem sorted_loop (T : List Int) (K M G : Int) (hT : T.length ≤ 1000000000) (l : List (List XV)) (hl : l.length ≤ 1000000) (gl : ∀ r ∈ l, GR r) (ho : InOrd T K l) : ∀ (d i : Nat), l.length + 1 = i + d → 1 ≤ i → Ev (fun k => thresherref09_Sorted.l0 k l i T K M G) true
  | 0, i, hd, h1 => by
    refine Ev.succ ?_
    simp only [thresherref09_Sorted.l0]
    exact Ev.neg (by omega) (Ev.now _)
  | d + 1, i, hd, h1 => by
    refine Ev.succ ?_
    simp only [thresherref09_Sorted.l0]
    by_cases h : i < l.length
    · obtain ⟨j, rfl⟩ : ∃ j, i = j + 1 := ⟨i - 1, by omega⟩
      have e : wrap64 (((j + 1 : Nat) : Int) - 1) = (j : Int) := (w64 (by omega) (by omega)).trans (by omega)
      rw [e]
      clear e
      have g1 := gl _ (List.getElem_mem (by omega : j < l.length))
      have g2 := gl _ (List.getElem_mem h)
      have hc := ho.at (by omega : j ≤ j + 1) h
      rw [show rdR l j = l[j] from rdR_lt l j (by omega), show rdR l (j + 1 : Nat) = l[j + 1] from rdR_lt l (j + 1) h] at hc
      rw [rdR_lt l j (by omega), rdR_lt l (j + 1) h]
      simp (disch := omega) only [w64]
      refine Ev.pos (by omega) (Ev.pos (by omega) (Ev.pos (by omega) (Ev.pos (by omega) (Ev.bind (rowcmp_ev T K M G _ _ g1 g2 hT) (Ev.neg (by omega) ?_)))))
      exact sorted_loop T K M G hT l hl gl ho d (j + 1 + 1) (by omega) (by omega)
    · exact Ev.neg (by omega) (Ev.now _)
theorem sorted_ev (T : List Int) (K M G : Int) (hT : T.length ≤ 1000000000) (l : List (List XV)) (hl : l.length ≤ 1000000) (gl : ∀ r ∈ l, GR r) (ho : InOrd T K l) : Ev (fun k => thresherref09_Sorted.f k T K M G l) true := by
  simp only [thresherref09_Sorted.f]
  exact sorted_loop T K M G hT l hl gl ho l.length 1 (by omega) (by omega)
section
variable (T : List Int) (n : Nat) (M : Int) (g : Nat) (hg : 1 ≤ g) (hg8 : g ≤ 1000000) (hT : T.length ≤ 1000000000) (l : List (List XV)) (hr : Rows60 T n l) (ho : InOrd T n l)
include hg hg8 hT hr ho
theorem granule_loop (c : Nat) (hc : c < (chunks g l).length) (hcg : c * g < l.length) (hml : (marksR n g l).length = (chunks g l).length) {R : Bool} (hR : Ev (fun k => thresherlaw10_GrainMarks.l0 k true (chunks g l) (marksR n g l) (c + 1 : Nat) T n M g) R) :
    ∀ (d j : Nat), j + d = ((l.drop (c * g)).take g).length → Ev (fun k => thresherlaw10_GrainMarks.l1 k true (chunks g l) (marksR n g l) c j T n M g) R
  | 0, j, hj => by
    refine Ev.succ ?_
    simp only [thresherlaw10_GrainMarks.l1]
    have hle := hr.len
    have hcl := chunks_length hg l.length l (Nat.le_refl _)
    have e := chunks_get hg l.length l (Nat.le_refl _) c
    rw [if_pos hcg] at e
    have e2 : rdRR (chunks g l) c = (l.drop (c * g)).take g := by rw [show rdRR (chunks g l) c = (chunks g l)[c] from rdRR_lt _ c hc]; exact (List.getElem?_eq_some_iff.mp e).2
    rw [show rd_L4 (chunks g l) c = _ from e2]
    simp (disch := omega) only [w64]
    exact Ev.pos (by omega) (Ev.pos (by omega) (Ev.neg (by omega) hR))
  | d + 1, j, hj => by
    refine Ev.succ ?_
    simp only [thresherlaw10_GrainMarks.l1]
    have hle := hr.len
    have hcl := chunks_length hg l.length l (Nat.le_refl _)
    have e := chunks_get hg l.length l (Nat.le_refl _) c
    rw [if_pos hcg] at e
    have e2 : rdRR (chunks g l) c = (l.drop (c * g)).take g := by rw [show rdRR (chunks g l) c = (chunks g l)[c] from rdRR_lt _ c hc]; exact (List.getElem?_eq_some_iff.mp e).2
    rw [show rd_L4 (chunks g l) c = _ from e2]
    have hj1 : j < ((l.drop (c * g)).take g).length := by omega
    have hj2 := hj1
    rw [List.length_take, List.length_drop] at hj2
    have hx : c * g + j < l.length := by omega
    have e3 : rdR ((l.drop (c * g)).take g) j = rdR l (c * g + j : Nat) := by
      rw [show rdR ((l.drop (c * g)).take g) j = _ from rdR_lt _ j hj1, show rdR l (c * g + j : Nat) = _ from rdR_lt _ _ hx, List.getElem_take, List.getElem_drop]
    rw [show rd_L3 ((l.drop (c * g)).take g) j = _ from e3]
    have gx := hr.gr _ (List.getElem_mem hx)
    rw [← show rdR l (c * g + j : Nat) = _ from rdR_lt _ _ hx] at gx
    have hmf := marksR_full (T := T) (K := n) hg hr.full
    have gm : ∀ q, q < (marksR n g l).length → GR (rdR (marksR n g l) q) := fun q hq => by rw [show rdR (marksR n g l) q = _ from rdR_lt _ q hq]; exact (hmf _ (List.getElem_mem hq)).ok.gr
    have c1 : 0 ≤ cmpRow T n (rdR l (c * g + j : Nat)) (rdR (marksR n g l) c) := by
      rw [marksR_cmp2 hg c (by omega), cmpRow_anti]
      have := ho.at (by omega : c * g ≤ c * g + j) hx
      omega
    have hnext := granule_loop c hc hcg hml hR d (j + 1) (by omega)
    refine Ev.pos (by omega) (Ev.pos (by omega) (Ev.pos (by omega) (Ev.pos (by omega) (Ev.pos (by omega) (Ev.bind (rowcmp_ev T n M g _ _ gx (gm c (by omega)) hT) (Ev.neg (show ¬ cmpRow T n (rdR l (c * g + j : Nat)) (rdR (marksR n g l) c) < 0 by omega) ?_))))))
    simp (disch := omega) only [w64]
    by_cases q : c + 1 < (marksR n g l).length
    · refine Ev.pos (by omega) (Ev.pos (by omega) (Ev.bind (rowcmp_ev T n M g _ _ gx (gm (c + 1) q) hT) (Ev.neg ?_ hnext)))
      have hq := (marksR_lt hg n l _).mp q
      have c2 : cmpRow T n (rdR l (c * g + j : Nat)) (rdR (marksR n g l) (c + 1 : Nat)) ≤ 0 := by
        rw [marksR_cmp2 hg (c + 1) q]
        exact ho.at (by rw [Nat.succ_mul]; omega) hq
      exact Int.not_lt.mpr c2
    · exact Ev.neg (by omega) hnext
theorem granules_loop : ∀ (d c : Nat), c + d = (chunks g l).length → Ev (fun k => thresherlaw10_GrainMarks.l0 k true (chunks g l) (marksR n g l) c T n M g) true
  | 0, c, hc => by
    refine Ev.succ ?_
    simp only [thresherlaw10_GrainMarks.l0]
    exact Ev.neg (by omega) (Ev.now _)
  | d + 1, c, hc => by
    refine Ev.succ ?_
    simp only [thresherlaw10_GrainMarks.l0]
    have hml : (marksR n g l).length = (chunks g l).length := by unfold marksR; rw [List.length_map]
    have hcg := (marksR_lt hg n l c).mp (by omega)
    refine Ev.pos (by omega) ?_
    exact granule_loop T n M g hg hg8 hT l hr ho c (by omega) hcg hml (granules_loop d (c + 1) (by omega)) ((l.drop (c * g)).take g).length 0 (by omega)
end
theorem GrainMarks : thresherlaw10_GrainMarks.PureG := by
  intro x l hx ⟨hl, hl2⟩
  obtain ⟨T, K, M, G, hmade, hS⟩ := shape_ev hx
  obtain ⟨n, rfl⟩ : ∃ n : Nat, K = n := ⟨K.toNat, by have := hS.k1; omega⟩
  obtain ⟨g, rfl⟩ : ∃ g : Nat, G = g := ⟨G.toNat, by have := hS.g1; omega⟩
  have g1 := hS.g1
  have g8 := hS.g8
  have kn := hS.kn
  have n8 := hS.n8
  have hfo := fitsR_ok (K := n) hS l (fun a h => (hl2 a h).2)
  have hf := fits_ev T n M g l 60 (by omega) (by omega)
  have hs := sort_ev T n M g (by omega) (fitsR T l) (by have := hfo.len; omega) hfo.gr
  obtain ⟨ho, hord⟩ := sorted_ok hfo
  obtain ⟨rows, hrows⟩ : ∃ rows, sortR T n (fitsR T l) [] = rows := ⟨_, rfl⟩
  rw [hrows] at hs ho hord
  have hle := ho.len
  have hm := marks_ev T n M g (by omega) (by omega) (by omega) rows (by omega) (fun r h => by have := ho.wide r h; omega)
  have hml : (marksR n g rows).length = (chunks g rows).length := by unfold marksR; rw [List.length_map]
  have hmf := marksR_full (T := T) (K := n) (show 1 ≤ g by omega) ho.full
  have hcl := chunks_length (show 1 ≤ g by omega) rows.length rows (Nat.le_refl _)
  have hso := sorted_ev T n M g (by omega) (marksR n g rows) (by omega) (fun r h => (hmf r h).ok.gr) (marksR_ord (show 1 ≤ g by omega) hord)
  apply Ev.rounds
  simp only [thresherlaw10_GrainMarks.f, thresherlaw10_made.f]
  refine Ev.bind shown_ev (Ev.bind (Ev.bind hmade (Ev.now _)) (Ev.bind hf (Ev.bind hs (Ev.bind (split_ev T n M g (by omega) (by omega) rows (by omega)) (Ev.bind (show Ev _ (marksR n g rows) from hm) (Ev.bind hso ?_))))))
  refine Ev.pos (by omega) (Ev.succ ?_)
  simp only [thresherlaw10_GrainMarks.j0]
  refine Ev.neg (by simp) ?_
  exact granules_loop T n M g (by omega) (by omega) (by omega) rows ho hord (chunks g rows).length 0 (by omega)
end Go.Proofs.Ythoelihgpkffiaa.Pure

-- Written by wip/tools/myprint.py: the row of GrainMarks, out of its plain law and its walk.
namespace Go.Proofs.Ythoelihgpkffiaa.grainMarks
open Go.ChangeShapes Go.WideShapes Go.ChangeAt Go.RowKit Go.Proofs.Ythoelihgpkffiaa.P Go.Proofs.YthoelihgpkffiaaW.PrintWords
set_option linter.unusedVariables false
set_option linter.unusedSimpArgs false
theorem own : ownKnob Try.prog.godebug = none := by kernel_rfl
theorem laidOut : laidOutB Try.prog = true := by kernel_rfl
set_option maxRecDepth 100000 in
theorem lifted (os : Os) (started : os.Started) (H : Type) (enc : TypeId × Value → H) :
    ReturnsInHanded {} Try.checked os 3 .any (Rows.grainMarksSpec.pre6 enc Try.prog Try.f3 Rows.grainMarksRow.domain false) (Rows.grainMarksSpec.post enc Try.prog Try.f3 false true false false) := by
  refine returnsInHanded_of_change_sized (C := Try.checked) own started (by kernel_rfl) Try.func3
    (ChangeSpec.witness6 (enc := enc) (C := Try.checked) false ⟨#[], #[.agg #[.int .u8 0, .int .u8 0, .int .u8 0, .int .u8 0, .int .u8 0, .int .u8 0, .int .u8 0, .int .u8 0, .int .u8 0, .int .u8 0, .int .u8 0, .int .u8 0], .slice none 0 0], []⟩ 8 (by kernel_rfl) (by kernel_rfl) (by kernel_rfl) (by kernel_rfl)) ?_
  intro W base args ds gs before hval0 hW hcnd hsz0 _
  have hval : ∀ (j : Nat) t v, Try.f3.params[j]? = some t → args[j]? = some v → Value.okWide Try.prog W .any base t v := hval0
  have hW' := hW
  obtain ⟨p, q, hA0, hV, rfl, hfz, hnd⟩ := hW
  have hA : DataW.TrodAll enc Try.prog W 0 (fun _ => true) true Try.f3.params.toList args.toList ds p := hA0
  rw [Try.params3] at hA hval
  obtain ⟨v0, vs0, d0, ds0, p0, q0, hargs, rfl, rfl, h0, r0⟩ := trodAll_cons hA
  obtain ⟨v1, vs1, d1, ds1, p1, q1, rfl, rfl, rfl, h1, r1⟩ := trodAll_cons r0
  obtain ⟨rfl, rfl, rfl⟩ := trodAll_nil r1
  obtain rfl : args = #[v0, v1] := by cases args; simp_all
  obtain ⟨rfl, rfl⟩ := trodVars_none hV
  have lt0 : ∀ x ∈ p0, x.block < W.heap.size := by obtain ⟨m, hm⟩ := h0; exact DataW.trod_lt m _ _ _ hm
  obtain ⟨x0, K0, g0⟩ := (op24).arg h0
  obtain ⟨cs0, rfl⟩ := okWide_agg Try.underlying24 (hval 0 24 v0 rfl rfl)
  have e0 := k24_open K0
  replace e0 := agg_of e0
  have lt1 : ∀ x ∈ p1, x.block < W.heap.size := by obtain ⟨m, hm⟩ := h1; exact DataW.trod_lt m _ _ _ hm
  obtain ⟨x1, K1, g1⟩ := ((opens_slice Try.underlying25 (by kernel_rfl) (opens_slice Try.underlying38 (by kernel_rfl) op45))).arg h1
  obtain ⟨a1, len1, cap1, rfl⟩ := okWide_slice Try.underlying25 (hval 1 25 v1 rfl rfl)
  obtain ⟨A1, c1, e1, hl1, hr1⟩ := K1
  simp [Value.cells] at e1
  obtain ⟨rfl, rfl, rfl⟩ := e1
  obtain ⟨k, hk⟩ := Pure.GrainMarks x0 x1 g0 g1
  have call : Calls Try.prog 3 #[.agg cs0, .slice a1 x1.length cap1] W fun e W' => e = .returned (.bool true) ∧ Below W.heap.size W W' := by
    rw [e0]
    refine (thresherlaw10_GrainMarks.calls k _ _ _ _ _ _ _ _ _ _ _ _ _ _ _ true W hr1 hl1 hk).mono ?_
    rintro e w' ⟨rfl, hd⟩
    exact ⟨rfl, hd⟩
  refine call.mono fun e W' ⟨he, bel⟩ => ?_
  subst he
  exact ⟨_, rfl, _, _, _, [], _, [], hW', trodAll_mk1 (shut_bool Try.underlying4 _), (trodAll_cons_mk (Below.trod laidOut (by kernel_rfl) (of_decide_eq_true (by kernel_rfl)) h0 bel lt0) (trodAll_cons_mk (Below.trod laidOut (by kernel_rfl) (of_decide_eq_true (by kernel_rfl)) h1 bel lt1) trodAll_mk0)), rfl, bel.frame _, fun h => by cases h⟩
theorem over : Rows.grainMarksRow.holds Try.pinned (OpenSpec.ofChange Rows.grainMarksSpec) :=
  OpenClaim.holds_of_wide 3 Try.f3 rfl rfl rfl rfl rfl rfl rfl ⟨rfl, rfl, rfl, rfl, rfl⟩ rfl rfl rfl rfl rfl (by kernel_rfl) Try.func3 (by kernel_rfl)
    (of_decide_eq_true (by kernel_rfl)) (by unfold Func.isWrapper; first | (rw [if_pos (by decide +kernel)]; kernel_rfl) | (rw [if_neg (by decide +kernel)]; exact ⟨rfl, rfl⟩))
    (fun os started H enc _ => lifted os started H enc)
theorem proved : Rows.GrainMarksSaid := over
#print axioms proved
end Go.Proofs.Ythoelihgpkffiaa.grainMarks
namespace Go.Proofs.Ythoelihgpkffiaa
/-- The row, under a short name, for the claim. -/
theorem grainMarks_holds : Rows.GrainMarksSaid := grainMarks.proved
end Go.Proofs.Ythoelihgpkffiaa

