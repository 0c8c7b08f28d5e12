/- A row hangs in its order on its key alone: the plain law. -/
import Derived.Test.YtkodpbellndelaaSSchemaKeys
import Derived.Test.YtkodpbellndelaaXShape
import Derived.Test.YtkodpbellndelaaXShort
import Derived.Test.YtkodpbellndelaaXFit
import Derived.Test.YtkodpbellndelaaXFitOk
import Derived.Test.YtkodpbellndelaaXVCmp
import Derived.Test.YtkodpbellndelaaXShown04
namespace Go.Proofs.Ytkodpbellndelaa.Pure
open Go.RowKit Go.Proofs.Ytkodpbellndelaa.P Go.Proofs.YtkodpbellndelaaW.PrintWords Go.Proofs.YtkodpbellndelaaW.PrintLast
set_option linter.unusedVariables false
def sameTo (a b : List XV) (i : Nat) : Bool := (List.range i).all fun (j : Nat) => decide (rdV a j = rdV b j)
theorem sameTo_succ (a b : List XV) (i : Nat) : sameTo a b (i + 1) = (sameTo a b i && decide (rdV a i = rdV b i)) := by
  unfold sameTo
  rw [List.range_succ, List.all_append]
  simp
theorem sameTo_iff (a b : List XV) (i : Nat) : sameTo a b i = true ↔ ∀ j : Nat, 0 ≤ j → j < 0 + i → rdV a j = rdV b j := by
  unfold sameTo
  simp
theorem eqb (a b : XV) : ((a.f0 == b.f0) && (a.f1.toList == b.f1.toList)) = decide (a = b) := by
  by_cases h : a = b
  · subst h; simp
  · rw [decide_eq_false h]
    have := XV.same.mpr h
    rw [← Bool.not_and] at this
    rwa [Bool.not_eq_true'] at this
theorem rdV_app (a b : List XV) (n j : Nat) (h : j < n) (hn : n ≤ a.length) : rdV (a.take n ++ b) j = rdV a j := by
  rw [← rdV_take a n j h]
  show rd_T34 _ _ = rd_T34 _ _
  have hl : (a.take n).length = n := by rw [List.length_take]; omega
  rw [rdV_lt _ j (by rw [List.length_append]; omega), rdV_lt _ j (by omega), List.getElem_append_left (by omega)]
theorem keys_loop (T : List Int) (n : Nat) (M G : Int) (a b c : List XV) (hT : n ≤ T.length) (hT2 : T.length ≤ 8) (ha : n ≤ a.length) (hb : n ≤ b.length) (hc : n ≤ c.length) (m : Nat) (hm : m ≤ n) (fa : FitAt T a n 0) (fb : FitAt T b n 0) (hca : ∀ j : Nat, 0 ≤ j → j < 0 + n → rdV a j = rdV c j) : ∀ (d i : Nat), i + d = m → Ev (fun k => thresherlaw04_SchemaKeys.l0 k true a b c m (sameTo a b i) i T n M G) true
  | 0, i, hi => by
    obtain rfl : i = m := by omega
    refine Ev.succ ?_
    simp only [thresherlaw04_SchemaKeys.l0]
    have e1 : cmpRow T n a c = 0 := by
      rw [cmpRow_full T n a c hT ha hc]
      exact cmpFrom_self T a c n 0 hca (fun j _ _ => cmpV_self _ _)
    have e2 : cmpRow T n c b = cmpRow T n a b := by
      rw [cmpRow_full T n c b hT hc hb, cmpRow_full T n a b hT ha hb]
      exact (cmpFrom_congr T a c b n 0 hca).symm
    have hl : (a.take i).length = i := by rw [List.length_take]; omega
    have e3 : cmpRow T n b (a.take i) = cmpFrom T b (a.take i) i 0 := by
      unfold cmpRow
      rw [show min (min (min (n : Int).toNat T.length) b.length) (a.take i).length = i by rw [Int.toNat_natCast, hl]; omega]
    have fi : FitAt T (a.take i) i 0 := fun j h1 h2 => by
      rw [rdV_take a i j (by omega)]
      exact fa j (by omega) (by omega)
    have z := cmpFrom_zero T b (a.take i) i 0 (fun j h1 h2 => fb j (by omega) (by omega)) fi
    have hs : (cmpFrom T b (a.take i) i 0 == 0) = sameTo a b i := by
      rw [Bool.eq_iff_iff, beq_iff_eq, z, sameTo_iff]
      constructor
      · intro h j h1 h2
        have := h j h1 h2
        rw [rdV_take a i j (by omega)] at this
        exact this.symm
      · intro h j h1 h2
        rw [rdV_take a i j (by omega)]
        exact (h j h1 h2).symm
    have e4 : cmpRow T n a [] = 0 := by
      unfold cmpRow
      rw [show min (min (min (n : Int).toNat T.length) a.length) ([] : List XV).length = 0 by simp]
      rfl
    refine Ev.neg (by omega) (Ev.pos (by simp) (Ev.bind ((scmp_ev T n M G a c (by omega)).eq e1) (Ev.pos rfl (Ev.bind (scmp_ev T n M G a b (by omega)) (Ev.bind ((scmp_ev T n M G c b (by omega)).eq e2) (Ev.pos rfl (Ev.pos (by omega) (Ev.pos (by omega) ?_))))))))
    rw [Int.toNat_natCast]
    refine Ev.bind ((scmp_ev T n M G b (a.take i) (by omega)).eq e3) (Ev.pos (by rw [hs]; simp) (Ev.bind ((scmp_ev T n M G a [] (by omega)).eq e4) (Ev.now _)))
  | d + 1, i, hi => by
    have ih := keys_loop T n M G a b c hT hT2 ha hb hc m hm fa fb hca d (i + 1) (by omega)
    rw [sameTo_succ] at ih
    refine Ev.succ ?_
    simp only [thresherlaw04_SchemaKeys.l0]
    simp (disch := omega) only [w64]
    refine Ev.pos (by omega) ?_
    by_cases s : sameTo a b i = true
    · rw [s, Bool.true_and] at ih
      refine Ev.pos s (Ev.pos (by omega) (Ev.pos (by omega) (Ev.pos (by omega) ?_)))
      rw [eqb]
      exact ih
    · rw [Bool.eq_false_iff.mpr s, Bool.false_and] at ih
      exact Ev.neg s ih
theorem SchemaKeys : thresherlaw04_SchemaKeys.PureG := by
  intro x l at_ hx ⟨⟨_, h0⟩, ⟨_, h1⟩⟩ hat
  obtain ⟨T, K, M, G, hmade, hS⟩ := shape_ev hx
  obtain ⟨n, rfl⟩ : ∃ n : Nat, K = n := ⟨K.toNat, by have := hS.k1; omega⟩
  have n8 := hS.n8
  have kn := hS.kn
  have f0 := fitRow_at hS l.f0 (fun v h => (GR_of h0 v h).1) n (by omega)
  have f1 := fitRow_at hS l.f1 (fun v h => (GR_of h1 v h).1) n (by omega)
  have l0 := fitRow_length T l.f0
  have l1 := fitRow_length T l.f1
  obtain ⟨a, ea⟩ : ∃ a, fitRow T l.f0 = a := ⟨_, rfl⟩
  obtain ⟨b, eb⟩ : ∃ b, fitRow T l.f1 = b := ⟨_, rfl⟩
  have e0 := fit_ev T n M G l.f0 (by omega)
  have e1 := fit_ev T n M G l.f1 (by omega)
  rw [ea] at f0 l0 e0
  rw [eb] at f1 l1 e1
  obtain ⟨a1, a2⟩ := wf_u8 hat
  have hw : wrap64 at_ = at_ := w64 (by omega) (by omega)
  have hn1 : wrap64 ((n : Int) + 1) = ((n + 1 : Nat) : Int) := w64 (by omega) (by omega)
  have p1 := Int.emod_nonneg at_ (show ((n + 1 : Nat) : Int) ≠ 0 by omega)
  have p2 := Int.emod_lt_of_pos at_ (show (0 : Int) < ((n + 1 : Nat) : Int) by omega)
  obtain ⟨m, hm⟩ : ∃ m : Nat, at_ % ((n + 1 : Nat) : Int) = m := ⟨(at_ % ((n + 1 : Nat) : Int)).toNat, by omega⟩
  have hk : Int.tmod at_ ((n + 1 : Nat) : Int) = m := by rw [Int.tmod_eq_emod_of_nonneg a1, hm]
  have hm2 : m ≤ n := by omega
  apply Ev.rounds
  simp only [thresherlaw04_SchemaKeys.f, thresherlaw04_made.f]
  have t1 : ([] : List XV).length + (a.take n).length < 5864062014805 := by rw [List.length_take]; simp; omega
  have t2 : (([] : List XV) ++ a.take n).length + (b.drop n).length < 5864062014805 := by rw [List.nil_append, List.length_take, List.length_drop]; omega
  have lp := keys_loop T n M G a b (a.take n ++ b.drop n) (by omega) (by omega) (by omega) (by omega) (by rw [List.length_append, List.length_take, List.length_drop]; omega) m hm2 f0 f1 (fun j _ hj => (rdV_app a _ n j (by omega) (by omega)).symm) m 0 (by omega)
  rw [hw]
  refine Ev.bind shown04_ev (Ev.bind (Ev.bind hmade (Ev.now _)) ?_)
  dsimp only
  rw [Int.toNat_natCast]
  refine Ev.bind e0 (Ev.bind e1 (Ev.bindc rfl (Ev.pos (by omega) (Ev.pos (by omega) (Ev.bindc rfl (Ev.pos t1 (Ev.bindc rfl (Ev.pos (by omega) (Ev.bindc rfl (Ev.pos t2 ?_))))))))))
  rw [hn1, hk]
  exact Ev.neg (by omega) lp
end Go.Proofs.Ytkodpbellndelaa.Pure
