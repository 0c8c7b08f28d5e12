/- Words that the printed texts of this seat lean on besides the kit's. -/
import Derived.Test.YtfbpplgpmgnmjaaWMore
import Derived.Test.YtfbpplgpmgnmjaaWNEv
import Derived.WalkSpells
namespace Go.Proofs.YtfbpplgpmgnmjaaW.PrintWords
open Go.RowKit
theorem ReadsRow.len_to {α : Type} {R : α → List Value → Prop} {size : Nat} {w : World} {A : Option Addr} {n m : Nat} {ps : List α} (h : n = m) (H : ReadsRow R size w A n ps) : ReadsRow R size w A m ps := h ▸ H
theorem cells_rd (k : IntKind) (l : List Int) (J : Int) (h0 : 0 ≤ J) (h1 : J < (l.length : Int)) : ((l.map (Value.int k)).toArray)[J.toNat]? = some (.int k (rd l J)) := by
  have h : J.toNat < l.length := by omega
  simp [rd, h, List.getD]
/-- xs[lo:hi:hi] -/
theorem cut_mid3 {P : Program} (t e : TypeId) (kl kh km : IntKind) {i : TypeInfo} (ht : P.underlying t = some (.slice e)) (hi : P.info? e = some i) (size : Nat) (hsz : i.size = size) (A : Option Addr) (n c : Nat) (lo hi' : Int) (h0 : 0 ≤ lo) (h1 : lo ≤ hi') (h2 : hi' ≤ n) (hc : n ≤ c) :
    ∀ W : World, (Instr.slice t (.slice A n c) (some (.int kl lo)) (some (.int kh hi')) (some (.int km hi'))).run P W = .ok (.slice (if hi'.toNat = lo.toNat then A else A.map (·.add (lo.toNat * size))) (hi'.toNat - lo.toNat) (hi'.toNat - lo.toNat)) W := by
  intro W
  have hel : P.elem t = e := by simp [Program.elem, ht]
  have hu : P.underlying t = some (.slice (P.elem t)) := by rw [hel]; exact ht
  rw [run_slice_lhm W t A n c hu kl kh km lo hi' hi' h0 h1 (Int.le_refl _) (by omega), hel]
  simp [sizeOf, typeInfo, hi, hsz, sliced, Result.andThen]
namespace Kd
theorem C_mid3 {α : Type} {k : Kd α} {w : World} {A : Option Addr} {xs : List α} {lo hi : Nat} (h : k.C w A xs.length xs) (h1 : lo ≤ hi) (h2 : hi ≤ xs.length) : k.C w (if hi = lo then A else A.map (·.add (lo * k.sz))) ((xs.take hi).drop lo).length ((xs.take hi).drop lo) := by
  have hl : (xs.take hi).length = hi := by rw [List.length_take]; omega
  exact C_drop (C_take h h2) (by omega) (by omega)
theorem F_mid3 {α : Type} {d : Kd α} {W : World} {ok : Nat → Prop} {A : Option Addr} {xs : List α} {lo hi : Nat} (h : F d W ok A xs.length xs) (h1 : lo ≤ hi) (h2 : hi ≤ xs.length) : F d W ok (if hi = lo then A else A.map (·.add (lo * d.sz))) ((xs.take hi).drop lo).length ((xs.take hi).drop lo) := F_imp h (fun _ hC => C_mid3 hC h1 h2)
end Kd
/-- A world, and what comes of it where nothing that was there is written: short words for the long walks. -/
inductive Up (w : World) : World → Prop
  | refl : Up w w
  | alloc {w1 : World} (h : Up w w1) (o : Obj) : Up w (w1.alloc o)
  | drewN {w1 : World} (h : Up w w1) (m : Nat) : Up w (w1.drewN m)
  | drew {w1 : World} (h : Up w w1) : Up w w1.drew
theorem R_up {α : Type} {d : Kd α} {e : Nat} {w w1 : World} {base : Nat} {ok : Nat → Prop} {v : Value} {xs : List α} (h : Kd.R d e w base ok v xs) (hu : Up w w1 := by (with_reducible repeat (first | apply Up.alloc | apply Up.drewN | apply Up.drew)); exact Up.refl) : Kd.R d e w1 base ok v xs := by
  induction hu with
  | refl => exact h
  | alloc _ o ih => exact Kd.R_alloc ih o
  | drewN _ m ih => exact Kd.R_drewN ih m
  | drew _ ih => exact Kd.R_drew ih
theorem N_up {α : Type} {d : Kd α} {e : Nat} {w w1 : World} {base : Nat} {ok : Nat → Prop} {v : Value} {xs : List α} (h : Kd.N d e w base ok v xs) (hu : Up w w1 := by (with_reducible repeat (first | apply Up.alloc | apply Up.drewN | apply Up.drew)); exact Up.refl) : Kd.N d e w1 base ok v xs := by
  induction hu with
  | refl => exact h
  | alloc _ o ih => exact Kd.N_alloc ih o
  | drewN _ m ih => exact Kd.N_drewN ih m
  | drew _ ih => exact Kd.N_drew ih
theorem S_up {α : Type} {d : Kd α} {e : Nat} {w w1 : World} {base : Nat} {ok : Nat → Prop} {v : Value} {xs : List α} (h : Kd.S d e w base ok v xs) (hu : Up w w1 := by (with_reducible repeat (first | apply Up.alloc | apply Up.drewN | apply Up.drew)); exact Up.refl) : Kd.S d e w1 base ok v xs := by
  induction hu with
  | refl => exact h
  | alloc _ o ih => exact Kd.S_alloc ih o
  | drewN _ m ih => exact Kd.S_drewN ih m
  | drew _ ih => exact Kd.S_drew ih
theorem V_up {α : Type} {d : Kd α} {e : Nat} {w w1 : World} {base : Nat} {ok : Nat → Prop} {v : Value} {xs : List α} (h : Kd.V d e w base ok v xs) (hu : Up w w1 := by (with_reducible repeat (first | apply Up.alloc | apply Up.drewN | apply Up.drew)); exact Up.refl) : Kd.V d e w1 base ok v xs := by
  induction hu with
  | refl => exact h
  | alloc _ o ih => exact Kd.V_alloc ih o
  | drewN _ m ih => exact Kd.V_drewN ih m
  | drew _ ih => exact Kd.V_drew ih
theorem blk_up {w w1 : World} {g : Nat} {o : Obj} (h : w.heap[g]? = some o) (hu : Up w w1 := by (with_reducible repeat (first | apply Up.alloc | apply Up.drewN | apply Up.drew)); exact Up.refl) : w1.heap[g]? = some o := by
  induction hu with
  | refl => exact h
  | alloc _ o ih => exact blk_alloc ih o
  | drewN _ m ih => exact blk_drewN ih m
  | drew _ ih => exact blk_drew ih
theorem below_up {w0 w w1 : World} (h : Below w0.heap.size w0 w) (hu : Up w w1 := by (with_reducible repeat (first | apply Up.alloc | apply Up.drewN | apply Up.drew)); exact Up.refl) : Below w0.heap.size w0 w1 := by
  induction hu with
  | refl => exact h
  | alloc _ o ih => exact below_alloc ih o
  | drewN _ m ih => exact pw_below_drewN ih m
  | drew _ ih => exact below_drew1 ih
theorem N_upm {α : Type} {d : Kd α} {e : Nat} {w w1 : World} {base : Nat} {ok ok' : Nat → Prop} {v : Value} {xs : List α} (h : Kd.N d e w base ok v xs) (hm : ∀ k, ok k → ok' k) (hu : Up w w1 := by (with_reducible repeat (first | apply Up.alloc | apply Up.drewN | apply Up.drew)); exact Up.refl) : Kd.N d e w1 base ok' v xs := Kd.N_mono (N_up h hu) hm
theorem V_upm {α : Type} {d : Kd α} {e : Nat} {w w1 : World} {base : Nat} {ok ok' : Nat → Prop} {v : Value} {xs : List α} (h : Kd.V d e w base ok v xs) (hm : ∀ k, ok k → ok' k) (hu : Up w w1 := by (with_reducible repeat (first | apply Up.alloc | apply Up.drewN | apply Up.drew)); exact Up.refl) : Kd.V d e w1 base ok' v xs := Kd.V_mono (V_up h hu) hm
theorem below_go {w0 w w1 : World} (h : Below w0.heap.size w0 w) (hu : Below w0.heap.size w0 w → Below w0.heap.size w0 w1 := by intro h_; repeat (first | (with_reducible first | exact h_ | apply below_alloc | apply pw_below_drewN | apply below_drew1 | refine below_set ?_ (Aside0.out (by assumption))) | exact h_)) : Below w0.heap.size w0 w1 := hu h
theorem R_away {α : Type} {d : Kd α} {e : Nat} {w : World} {base g : Nat} {ok : Nat → Prop} {v : Value} {xs : List α} (h : Kd.R d e w base ok v xs) (hok : ∀ k, ok k → k ≠ g) : some g ≠ v.ownBlock := fun he => hok g (h.1 g he.symm) rfl
/-- An array in memory, told as a row. -/
theorem arr_row {α : Type} {d : Kd α} {w : World} {g : Nat} {cs : Array Value} {l : List Value} {t : Nat} {xs : List α} (h : w.heap[g]? = some (.cells cs t (0, 0))) (hr : Reps (d.K w) d.sz xs l) (hl : cs.toList = l := by rfl) (hn : xs.length ≤ 9223372036854775807 := by simp) : Kd.C d w (some ⟨g, 0, none⟩) xs.length xs := by
  subst hl
  refine ⟨rfl, hn, fun _ => ⟨_, rfl, fun j p hj => ⟨(cs.toList.drop (j * d.sz)).take d.sz, ?_, hr.2 j p hj, fun i u hu => ?_⟩⟩⟩
  · have hjl := (List.getElem?_eq_some_iff.1 hj).1
    have h1 : j * d.sz + d.sz ≤ cs.toList.length := by rw [hr.1, ← Nat.succ_mul]; exact Nat.mul_le_mul_right _ hjl
    rw [List.length_take, List.length_drop]
    omega
  · rw [List.getElem?_take] at hu
    split at hu
    · rw [List.getElem?_drop] at hu
      rw [add_plain, blk_cell h]
      simpa using hu
    · cases hu
/-- 'l[:]' of an array in memory. -/
theorem arr_cut {P : Program} {t e n : Nat} {z : Value} {sz by_ : Nat} (W : World) (ht : P.underlying t = some (.array n e)) (hi : (P.info? e).map (fun i => (i.zero, i.size, i.bytes)) = some (some z, sz, by_)) (a : Addr) : (Instr.sliceAt t (.pointer (some a)) none none none).run P W = .ok (.slice (some a) n n) W := by
  obtain ⟨i, hi, hz, hs, hb⟩ := info_parts hi
  have he : P.elem t = e := by simp [Program.elem, ht]
  have hl : P.arrayLen t = n := by simp [Program.arrayLen, ht]
  rw [run_sliceAt_array_all W t a (by rw [he, hl]; exact ht), he, hl]
  simp [sizeOf, typeInfo, hi, slicedAt, Result.andThen]
  intro _
  cases a
  simp [Addr.add]
end Go.Proofs.YtfbpplgpmgnmjaaW.PrintWords
