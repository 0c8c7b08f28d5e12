/- Rows that may be are in an order, by their keys alone: the plain law. -/
import Derived.Test.YtkodpbellndelaaSSchemaOrder
import Derived.Test.YtkodpbellndelaaXShape
import Derived.Test.YtkodpbellndelaaXShort
import Derived.Test.YtkodpbellndelaaXFit
import Derived.Test.YtkodpbellndelaaXFitOk
import Derived.Test.YtkodpbellndelaaXVCmp
import Derived.Test.YtkodpbellndelaaXShown04
namespace Go.Proofs.Ytkodpbellndelaa.Pure
open Go.RowKit Go.Proofs.Ytkodpbellndelaa.P Go.Proofs.YtkodpbellndelaaW.PrintWords Go.Proofs.YtkodpbellndelaaW.PrintLast
set_option linter.unusedVariables false
theorem j1_ev (p q r : Int) (h1 : p ≤ 0 → q ≤ 0 → r ≤ 0) (h2 : 0 ≤ p → 0 ≤ q → 0 ≤ r) (h3 : p = 0 → r = q) : Ev (fun k => thresherlaw04_SchemaOrder.j1 k true p q r false) true := by
  refine Ev.succ ⟨0, fun k _ => ?_⟩
  simp only [thresherlaw04_SchemaOrder.j1]
  rw [if_neg (by simp), if_pos trivial]
  repeat' split
  all_goals first
    | rfl
    | (exfalso; omega)
    | (rw [h3 (by assumption)]; simp)
def sameTo (a b : List XV) (i : Nat) : Bool := (List.range i).all fun (j : Nat) => decide (rdV a j = rdV b j)
theorem sameTo_succ (a b : List XV) (i : Nat) : sameTo a b (i + 1) = (sameTo a b i && decide (rdV a i = rdV b i)) := by
  unfold sameTo
  rw [List.range_succ, List.all_append]
  simp
theorem sameTo_iff (a b : List XV) (i : Nat) : sameTo a b i = true ↔ ∀ j : Nat, 0 ≤ j → j < 0 + i → rdV a j = rdV b j := by
  unfold sameTo
  simp
theorem eqb (a b : XV) : ((a.f0 == b.f0) && (a.f1.toList == b.f1.toList)) = decide (a = b) := by
  by_cases h : a = b
  · subst h; simp
  · rw [decide_eq_false h]
    have := XV.same.mpr h
    rw [← Bool.not_and] at this
    rwa [Bool.not_eq_true'] at this
theorem order_loop (T : List Int) (n : Nat) (M G : Int) (a b : List XV) (hT : n ≤ T.length) (hT2 : T.length ≤ 8) (ha : n ≤ a.length) (hb : n ≤ b.length) (p q r : Int) (fa : FitAt T a n 0) (fb : FitAt T b n 0) (hp : p = cmpFrom T a b n 0) (h1 : p ≤ 0 → q ≤ 0 → r ≤ 0) (h2 : 0 ≤ p → 0 ≤ q → 0 ≤ r) (h3 : p = 0 → r = q) : ∀ (d i : Nat), i + d = n → Ev (fun k => thresherlaw04_SchemaOrder.l0 k true a b p q r (sameTo a b i) i T n M G) true
  | 0, i, hi => by
    obtain rfl : i = n := by omega
    refine Ev.succ ?_
    simp only [thresherlaw04_SchemaOrder.l0]
    have hz := cmpFrom_zero T a b i 0 fa fb
    rw [← hp, ← sameTo_iff] at hz
    have hq : (p == 0) = sameTo a b i := by
      rw [Bool.eq_iff_iff, ← hz]
      simp
    have hr := cmpFrom_rng T a b i 0
    have hba : cmpRow T i b a = -p := by rw [cmpRow_full T i b a hT hb ha, cmpFrom_anti, hp]
    have haa : cmpRow T i a (a.take i) = 0 := by
      rw [cmpRow_full T i a _ hT ha (by rw [List.length_take]; omega)]
      exact cmpFrom_self T a _ i 0 (fun j _ hj => (rdV_take a i j (by omega)).symm) (fun j _ _ => cmpV_self _ _)
    have hw : wrap64 (-p) = -p := w64 (by omega) (by omega)
    rw [hw]
    refine Ev.neg (by omega) (Ev.neg (by rw [hq]; simp) (Ev.bind ((scmp_ev T i M G b a (by omega)).eq hba) (Ev.pos rfl (Ev.pos (by omega) (Ev.pos (by omega) ?_)))))
    rw [Int.toNat_natCast]
    refine Ev.bind ((scmp_ev T i M G a (a.take i) (by omega)).eq haa) ?_
    exact j1_ev p q r h1 h2 h3
  | d + 1, i, hi => by
    have ih := order_loop T n M G a b hT hT2 ha hb p q r fa fb hp h1 h2 h3 d (i + 1) (by omega)
    rw [sameTo_succ] at ih
    refine Ev.succ ?_
    simp only [thresherlaw04_SchemaOrder.l0]
    simp (disch := omega) only [w64]
    refine Ev.pos (by omega) ?_
    by_cases s : sameTo a b i = true
    · rw [s, Bool.true_and] at ih
      refine Ev.pos s (Ev.pos (by omega) (Ev.pos (by omega) (Ev.pos (by omega) ?_)))
      rw [eqb]
      exact ih
    · rw [Bool.eq_false_iff.mpr s, Bool.false_and] at ih
      exact Ev.neg s ih
theorem SchemaOrder : thresherlaw04_SchemaOrder.PureG := by
  intro x l hx ⟨⟨_, h0⟩, ⟨_, h1⟩, ⟨_, h2⟩⟩
  obtain ⟨T, K, M, G, hmade, hS⟩ := shape_ev hx
  obtain ⟨n, rfl⟩ : ∃ n : Nat, K = n := ⟨K.toNat, by have := hS.k1; omega⟩
  have n8 := hS.n8
  have kn := hS.kn
  have g0 := fun v h => (GR_of h0 v h).1
  have g1 := fun v h => (GR_of h1 v h).1
  have g2 := fun v h => (GR_of h2 v h).1
  have f0 := fitRow_at hS l.f0 g0 n (by omega)
  have f1 := fitRow_at hS l.f1 g1 n (by omega)
  have f2 := fitRow_at hS l.f2 g2 n (by omega)
  have l0 := fitRow_length T l.f0
  have l1 := fitRow_length T l.f1
  have l2 := fitRow_length T l.f2
  obtain ⟨a, ea⟩ : ∃ a, fitRow T l.f0 = a := ⟨_, rfl⟩
  obtain ⟨b, eb⟩ : ∃ b, fitRow T l.f1 = b := ⟨_, rfl⟩
  obtain ⟨c, ec⟩ : ∃ c, fitRow T l.f2 = c := ⟨_, rfl⟩
  have e0 := fit_ev T n M G l.f0 (by omega)
  have e1 := fit_ev T n M G l.f1 (by omega)
  have e2 := fit_ev T n M G l.f2 (by omega)
  rw [ea] at f0 l0 e0
  rw [eb] at f1 l1 e1
  rw [ec] at f2 l2 e2
  have pe := (scmp_ev T n M G a b (by omega)).eq (cmpRow_full T n a b (by omega) (by omega) (by omega))
  have qe := (scmp_ev T n M G b c (by omega)).eq (cmpRow_full T n b c (by omega) (by omega) (by omega))
  have re := (scmp_ev T n M G a c (by omega)).eq (cmpRow_full T n a c (by omega) (by omega) (by omega))
  have t1 := cmpFrom_trans T a b c n 0 f0 f1 f2
  have t2 := cmpFrom_trans T c b a n 0 f2 f1 f0
  have a1 := cmpFrom_anti T a b n 0
  have a2 := cmpFrom_anti T b c n 0
  have a3 := cmpFrom_anti T a c n 0
  have z1 := cmpFrom_zero T a b n 0 f0 f1
  apply Ev.rounds
  simp only [thresherlaw04_SchemaOrder.f, thresherlaw04_made.f]
  refine Ev.bind shown04_ev (Ev.bind (Ev.bind hmade (Ev.now _)) (Ev.bind e0 (Ev.bind e1 (Ev.bind e2 (Ev.bind pe (Ev.bind qe (Ev.bind re ?_)))))))
  exact order_loop T n M G a b (by omega) (by omega) (by omega) (by omega) _ _ _ f0 f1 rfl t1 (fun p q => by omega) (fun p => cmpFrom_congr T a b c n 0 (z1.mp p)) n 0 (by omega)
end Go.Proofs.Ytkodpbellndelaa.Pure
