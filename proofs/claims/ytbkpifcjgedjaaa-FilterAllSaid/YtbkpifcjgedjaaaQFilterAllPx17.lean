/- Texts of FilterAll. Merged: Px17. -/
import Derived.Test.YtbkpifcjgedjaaaQFilterAllPx0
import Derived.Test.YtbkpifcjgedjaaaQFilterAllPx9
-- Written by wip/tools/myprint.py over the kit's print (a program's print; Lean checks it).
namespace Go.Proofs.Ytbkpifcjgedjaaa.P
open Go.RowKit Go.Proofs.YtbkpifcjgedjaaaW.PrintWords Go.Proofs.YtbkpifcjgedjaaaW.PrintLast Go.Proofs.YtbkpifcjgedjaaaW.PrintMore
attribute [local go_sem] max2_int min2_int max_two min_two max_three min_three max_four min_four   -- for this text's walks alone
set_option linter.unusedVariables false
set_option linter.unusedSimpArgs false

/-! ### thresherref19_Keep: function 23 -/
mutual
def thresherref19_Keep.l0 : Nat → List (S39) → List (List (S37)) → List (List (S37)) → Int → List Int → Int → Int → Int → Option ((List (List (S37))))
 | 0, _, _, _, _, _, _, _, _ => none
 | k + 1, x1, x2, x7, x8, x332000, x332001, x332002, x332003 => if x8 < (x2.length : Int) then (thresherref19_Keep.l1 k x1 x2 x7 x8 true 0 x332000 x332001 x332002 x332003) else (some x7)
def thresherref19_Keep.l1 : Nat → List (S39) → List (List (S37)) → List (List (S37)) → Int → Bool → Int → List Int → Int → Int → Int → Option ((List (List (S37))))
 | 0, _, _, _, _, _, _, _, _, _, _ => none
 | k + 1, x1, x2, x7, x8, x9, x10, x332000, x332001, x332002, x332003 => if x10 < (x1.length : Int) then (if 0 ≤ x10 then (if 0 ≤ ((rd_T39 x1 x10).f0) then (if ((rd_T39 x1 x10).f0) < (x332000.length : Int) then (if 0 ≤ x8 then (if x8 < (x2.length : Int) then (if ((rd_T39 x1 x10).f0) < ((rd_L4 x2 x8).length : Int) then ((thresherref19_Holds.f k (rd x332000 ((rd_T39 x1 x10).f0)) ((rd_T39 x1 x10).f0) ((rd_T39 x1 x10).f1) ((rd_T39 x1 x10).f2.f0) ((rd_T39 x1 x10).f2.f1) ((rd_T37 (rd_L4 x2 x8) ((rd_T39 x1 x10).f0)).f0) ((rd_T37 (rd_L4 x2 x8) ((rd_T39 x1 x10).f0)).f1)).bind fun t341 => (if x9 = true then (thresherref19_Keep.l1 k x1 x2 x7 x8 t341 (wrap64 (x10 + 1)) x332000 x332001 x332002 x332003) else (thresherref19_Keep.l1 k x1 x2 x7 x8 false (wrap64 (x10 + 1)) x332000 x332001 x332002 x332003))) else (none)) else (none)) else (none)) else (none)) else (none)) else (none)) else (if x9 = true then (if 0 ≤ x8 then (if x8 < (x2.length : Int) then (if x7.length < 5864062014805 then (thresherref19_Keep.l0 k x1 x2 (x7 ++ [rd_L4 x2 x8]) (wrap64 (x8 + 1)) x332000 x332001 x332002 x332003) else (none)) else (none)) else (none)) else (thresherref19_Keep.l0 k x1 x2 x7 (wrap64 (x8 + 1)) x332000 x332001 x332002 x332003))
end
def thresherref19_Keep.f (k : Nat) (l0_0 : List Int) (a0_1 : Int) (a0_2 : Int) (a0_3 : Int) (l1 : List (S39)) (l2 : List (List (S37))) : Option ((List (List (S37)))) := thresherref19_Keep.l0 k l1 l2 (([] : List (List (S37)))) 0 l0_0 a0_1 a0_2 a0_3
theorem thresherref19_Keep.mono_l : ∀ k, (∀ y0 y1 y2 y3 y4 y5 y6 y7, LeO (thresherref19_Keep.l0 k y0 y1 y2 y3 y4 y5 y6 y7) (thresherref19_Keep.l0 (k + 1) y0 y1 y2 y3 y4 y5 y6 y7)) ∧ (∀ y0 y1 y2 y3 y4 y5 y6 y7 y8 y9, LeO (thresherref19_Keep.l1 k y0 y1 y2 y3 y4 y5 y6 y7 y8 y9) (thresherref19_Keep.l1 (k + 1) y0 y1 y2 y3 y4 y5 y6 y7 y8 y9))
 | 0 => ⟨fun _ _ _ _ _ _ _ _ r h => by simp [thresherref19_Keep.l0] at h, fun _ _ _ _ _ _ _ _ _ _ r h => by simp [thresherref19_Keep.l1] at h⟩
 | k + 1 => by
  obtain ⟨ih0, ih1⟩ := thresherref19_Keep.mono_l k
  refine ⟨?_, ?_⟩
  ·intro y0 y1 y2 y3 y4 y5 y6 y7
   unfold thresherref19_Keep.l0
   repeat' first
   | (with_reducible exact ih0 _ _ _ _ _ _ _ _)
   | (with_reducible exact ih1 _ _ _ _ _ _ _ _ _ _)
   | (with_reducible exact thresherref19_Holds.mono _ _ _ _ _ _ _ _)
   | (with_reducible exact LeO.refl _)
   | (with_reducible exact LeO.none _)
   | (with_reducible refine LeO.ite ?_ ?_)
   | (with_reducible refine LeO.bind ?_ (fun _ => ?_))
   | exact ih0 _ _ _ _ _ _ _ _
   | exact ih1 _ _ _ _ _ _ _ _ _ _
   | exact thresherref19_Holds.mono _ _ _ _ _ _ _ _
   | exact LeO.none _
   | refine LeO.ite ?_ ?_
   | refine LeO.bind ?_ (fun _ => ?_)
  ·intro y0 y1 y2 y3 y4 y5 y6 y7 y8 y9
   unfold thresherref19_Keep.l1
   repeat' first
   | (with_reducible exact ih0 _ _ _ _ _ _ _ _)
   | (with_reducible exact ih1 _ _ _ _ _ _ _ _ _ _)
   | (with_reducible exact thresherref19_Holds.mono _ _ _ _ _ _ _ _)
   | (with_reducible exact LeO.refl _)
   | (with_reducible exact LeO.none _)
   | (with_reducible refine LeO.ite ?_ ?_)
   | (with_reducible refine LeO.bind ?_ (fun _ => ?_))
   | exact ih0 _ _ _ _ _ _ _ _
   | exact ih1 _ _ _ _ _ _ _ _ _ _
   | exact thresherref19_Holds.mono _ _ _ _ _ _ _ _
   | exact LeO.none _
   | refine LeO.ite ?_ ?_
   | refine LeO.bind ?_ (fun _ => ?_)
theorem thresherref19_Keep.mono : ∀ a0 a1 a2 a3 a4 a5 k, LeO (thresherref19_Keep.f k a0 a1 a2 a3 a4 a5) (thresherref19_Keep.f (k + 1) a0 a1 a2 a3 a4 a5) := by
 intro a0 a1 a2 a3 a4 a5 k
 obtain ⟨ih0, ih1⟩ := thresherref19_Keep.mono_l k
 unfold thresherref19_Keep.f
 repeat' first
   | (with_reducible exact ih0 _ _ _ _ _ _ _ _)
   | (with_reducible exact ih1 _ _ _ _ _ _ _ _ _ _)
   | (with_reducible exact thresherref19_Holds.mono _ _ _ _ _ _ _ _)
   | (with_reducible exact LeO.refl _)
   | (with_reducible exact LeO.none _)
   | (with_reducible refine LeO.ite ?_ ?_)
   | (with_reducible refine LeO.bind ?_ (fun _ => ?_))
   | exact ih0 _ _ _ _ _ _ _ _
   | exact ih1 _ _ _ _ _ _ _ _ _ _
   | exact thresherref19_Holds.mono _ _ _ _ _ _ _ _
   | exact LeO.none _
   | refine LeO.ite ?_ ?_
   | refine LeO.bind ?_ (fun _ => ?_)
def thresherref19_Keep.T9 : Bool × List (List Nat × List Nat) := (true, [([], []), ([0], [0]), ([], []), ([], []), ([2, 3], [2, 3]), ([4], [4]), ([5], [5]), ([1, 6], [1, 6]), ([7], [7]), ([], []), ([], []), ([9, 10], [9, 10]), ([11], [11]), ([], []), ([], []), ([13, 14], [13, 14]), ([15], [15]), ([], []), ([], []), ([17, 18], [17, 18]), ([19], [19]), ([20], [20]), ([16, 21], [16, 21]), ([22], [22]), ([8, 12, 23], [8, 12, 23]), ([24, 24, 0, 1, 2, 3, 4, 5, 6, 7, 8, 9, 10, 11, 12, 13, 14, 15, 16, 17, 18, 19, 20, 21, 22, 23, 24], [24])])
def thresherref19_Keep.B9 : List Nat := [0, 1, 0, 0, 12, 28, 60, 127, 255, 0, 0, 1536, 3584, 0, 0, 24576, 57344, 0, 0, 393216, 917504, 1966080, 4186112, 8380416, 16777215, 33554431]
theorem thresherref19_Keep.tab9 : rtab .any (opsOf Try.f23 9) = thresherref19_Keep.T9 := by kernel_rfl
theorem thresherref19_Keep.bits9 : waitsOk thresherref19_Keep.T9.2 thresherref19_Keep.B9 = true := by kernel_rfl
set_option maxHeartbeats 8000000 in
set_option maxRecDepth 100000 in
theorem thresherref19_Keep.calls (k : Nat) (A0_0 : Option Addr) (c0_0 : Nat) (l0_0 : List Int) (a0_1 : Int) (a0_2 : Int) (a0_3 : Int) (A1 : Option Addr) (c1 : Nat) (l1 : List (S39)) (P2_ : Nat → Prop) (A2 : Option Addr) (c2 : Nat) (l2 : List (List (S37))) (r : List (List (S37))) (w : World) (hr0_0 : Kd.C (Kd.int .i64) w A0_0 l0_0.length l0_0) (hc0_0 : l0_0.length ≤ c0_0) (hr1 : Kd.C k39 w A1 l1.length l1) (hc1 : l1.length ≤ c1) (hs2 : Kd.V (Kd.slice 37 k37) 41 w w.heap.size (fun k_ => P2_ k_) (.slice A2 l2.length c2) l2) (h : thresherref19_Keep.f k l0_0 a0_1 a0_2 a0_3 l1 l2 = some r) :
  Calls Try.prog 23 #[.agg #[.slice A0_0 l0_0.length c0_0, .int .i64 a0_1, .int .i64 a0_2, .int .i64 a0_3], .slice A1 l1.length c1, .slice A2 l2.length c2] w fun e w' => ∃ v0_ : Value, e = .returned (v0_) ∧ Kd.N (Kd.slice 37 k37) 41 w' w.heap.size (fun k_ => (P2_ k_ ∨ w.heap.size ≤ k_)) v0_ r ∧ Below w.heap.size w w' := by
 have hu32 := Try.underlying32
 have hu39 := Try.underlying39
 have hu37 := Try.underlying37
 have HR0_0 := Aside0.mk hr0_0
 have HC0_0 := Aside0.mk hc0_0
 clear hr0_0 hc0_0
 have HR1 := Aside0.mk hr1
 have HC1 := Aside0.mk hc1
 clear hr1 hc1
 have HO2 := Aside0.mk (show Kd.V (Kd.slice 37 k37) 41 w w.heap.size (fun k_ => (P2_ k_ ∨ w.heap.size ≤ k_)) (.slice A2 l2.length c2) l2 from Kd.V_mono hs2 (fun k_ hk => .inl hk))
 have HB := Aside0.mk (Below.refl w.heap.size w)
 have H : (thresherref19_Keep.l0 k l1 l2 (([] : List (List (S37)))) 0 l0_0 a0_1 a0_2 a0_3) = some r := h
 clear h
 obtain ⟨y332, hy332⟩ : ∃ y_ : List (List (S37)), y_ = (([] : List (List (S37)))) := ⟨_, rfl⟩
 replace H : (thresherref19_Keep.l0 k l1 l2 y332 0 l0_0 a0_1 a0_2 a0_3) = some r := by first | (rw [hy332]; with_reducible exact H) | (have H2_ := (Option.bind_some _ _).symm.trans H; rw [hy332]; with_reducible exact H2_) | (have H2_ := (Option.bind_some _ _).symm.trans H; with_reducible exact H2_) | with_reducible exact H | (rw [hy332]; exact H) | exact H
 have Ny332 := Aside0.mk hy332
 clear hy332
 have H' := Aside0.mk H
 clear H
 go_enter Try.func23, Try.ntmps23
 go_wp2_with (first | ((with_reducible refine gate_dst (N := 3) rfl ?_); refine box_event ?hg (N := 3) ?hd (cs := #[.slice A0_0 l0_0.length c0_0, .int .i64 a0_1, .int .i64 a0_2, .int .i64 a0_3]) (t := 32) ?hr ?_; (case hd => rfl); (case hg => rfl); (case hr => first | (go_simp; done) | (go_simp; rfl)); intro gb331 hg w4 hbox hb; have n0_ := Aside0.mk (Kd.V_below (Kd.V_elderB (by (with_reducible repeat (first | apply Kd.V_alloc | apply Kd.V_drewN | apply Kd.V_drew)); exact HO2.out) gb331 (Nat.le_of_eq hg.symm)) hb); have n1_ := Aside0.mk (below_step (by repeat (first | (with_reducible first | exact HB.out | apply below_alloc | apply pw_below_drewN | apply below_drew1) | exact HB.out)) hb); have n2_ := Aside0.mk (hbox); have n3_ := Aside0.mk ((by rw [hg]; exact (below_size (by repeat (first | (with_reducible first | exact HB.out | apply below_alloc | apply pw_below_drewN | apply below_drew1) | exact HB.out))) : w.heap.size ≤ gb331)); have n4_ := Aside0.mk ((by rw [hg]; exact (below_size (by repeat (first | (with_reducible first | exact HB.out | apply below_alloc | apply pw_below_drewN | apply below_drew1) | exact HB.out))) : w.heap.size ≤ gb331)); clear HO2; clear HB; have HO2 := n0_; have HB := n1_; have BK331 := n2_; have GW331 := n3_; have GE331 := n4_; clear n0_ n1_ n2_ n3_ n4_; clear hb hbox hg) | ((with_reducible refine gate_dst (N := 12) rfl ?_); refine Kd.N_lit (Kd.slice 37 k37) _ 41 ?hg (N' := 12) ?hd (xs := ([] : List (List (S37)))) (inner := []) (ok := (fun k_ => (P2_ k_ ∨ w.heap.size ≤ k_) ∧ k_ ≠ gb331)) (okp := (fun k_ => (P2_ k_ ∨ w.heap.size ≤ k_) ∧ k_ ≠ gb331)) ?hr ?hp (fun _ hk => hk) ((show ∀ k_, w4.heap.size ≤ k_ → (fun k_ => (P2_ k_ ∨ w.heap.size ≤ k_) ∧ k_ ≠ gb331) k_ from fun k_ hk => ⟨(.inr (Nat.le_trans (below_size (by repeat (first | (with_reducible first | exact HB.out | apply below_alloc | apply pw_below_drewN | apply below_drew1 | refine below_set ?_ GE331.out) | exact HB.out))) hk)), Kd.freshB (g := gb331) (o := .cells #[.slice A0_0 l0_0.length c0_0, .int .i64 a0_1, .int .i64 a0_2, .int .i64 a0_3] 32 (0, 0)) (by (with_reducible repeat (first | refine blk_drewN ?_ _ | refine blk_drew ?_ | refine blk_alloc ?_ _)); exact BK331.out) k_ hk⟩) _ (Nat.le_refl _)) (Below.refl _ _) (Nat.le_refl _) (by simp) ?_; (case hd => rfl); (case hg => rfl); (case hr => first | (go_simp; done) | (go_simp; rfl)); (case hp => exact (Reps.none _ _)); intro v333 w5 ho6 hb hg_ hnew_; clear hg_ hnew_; (first | rw [← Ny332.out] at ho6 | (simp only [Int.reduceToNat] at ho6; rw [← Ny332.out] at ho6)); have n0_ := Aside0.mk (Kd.V_elder' (by (with_reducible repeat (first | apply Kd.V_alloc | apply Kd.V_drewN | apply Kd.V_drew)); exact HO2.out) (Kd.N_base ho6) hb); have n1_ := Aside0.mk (Kd.N_lower ho6 (below_size (by repeat (first | (with_reducible first | exact HB.out | apply below_alloc | apply pw_below_drewN | apply below_drew1 | refine below_set ?_ GE331.out) | exact HB.out)))); have n2_ := Aside0.mk (blk_below (g := gb331) (o := .cells #[.slice A0_0 l0_0.length c0_0, .int .i64 a0_1, .int .i64 a0_2, .int .i64 a0_3] 32 (0, 0)) (by (with_reducible repeat (first | refine blk_drewN ?_ _ | refine blk_drew ?_ | refine blk_alloc ?_ _)); exact BK331.out) hb); have n3_ := Aside0.mk (below_step (by repeat (first | (with_reducible first | exact HB.out | apply below_alloc | apply pw_below_drewN | apply below_drew1 | refine below_set ?_ GE331.out) | exact HB.out)) hb); clear HO2; clear BK331; clear HB; have HO2 := n0_; have HO334 := n1_; have BK331 := n2_; have HB := n3_; clear n0_ n1_ n2_ n3_; clear hb ho6))
 go_loopg [7, 8] k (fun kq v7 v8 w' => ∃ (x7_1 : List (List (S37))) (x8_1 : Int), v8 = .int .i64 x8_1 ∧ Aside0 (thresherref19_Keep.l0 kq l1 l2 x7_1 x8_1 l0_0 a0_1 a0_2 a0_3 = some r) ∧ Aside0 (kq ≤ k) ∧ Aside0 (Kd.V (Kd.slice 37 k37) 41 w' w.heap.size (fun k_ => (P2_ k_ ∨ w.heap.size ≤ k_) ∧ some k_ ≠ (v7 : Value).ownBlock ∧ k_ ≠ gb331) (.slice A2 l2.length c2) l2) ∧ Aside0 (Kd.N (Kd.slice 37 k37) 41 w' w.heap.size (fun k_ => (P2_ k_ ∨ w.heap.size ≤ k_) ∧ k_ ≠ gb331) v7 x7_1) ∧ Aside0 (w'.heap[gb331]? = some (.cells #[(.slice A0_0 l0_0.length c0_0), .int .i64 a0_1, .int .i64 a0_2, .int .i64 a0_3] 32 (0, 0))) ∧ Aside0 (Below w.heap.size w w'))
 case atStart => exact ⟨(y332), (0), (by first | rfl | (simp; done) | (simp [*]; done)), H', ⟨Nat.le_refl _⟩, ⟨by (with_reducible repeat (first | apply Kd.V_alloc | apply Kd.V_drewN | apply Kd.V_drew)); exact Kd.V_mono HO2.out (fun _ hk => ⟨hk.1.1, ⟨hk.2, hk.1.2⟩⟩)⟩, ⟨by (with_reducible repeat (first | apply Kd.N_alloc | apply Kd.N_drewN | apply Kd.N_drew)); exact HO334.out⟩, ⟨by (with_reducible repeat (first | refine blk_drewN ?_ _ | refine blk_drew ?_ | refine blk_alloc ?_ _)); exact BK331.out⟩, ⟨by repeat (first | (with_reducible first | exact HB.out | apply below_alloc | apply pw_below_drewN | apply below_drew1 | refine below_set ?_ GE331.out) | exact HB.out)⟩⟩
 case round =>
  clear H'
  try clear c1
  try clear c2
  try clear p2
  obtain ⟨x7_1, x8_1, rfl, HA, HK1, HO_2, HO_7, BK331, HB⟩ := hrel
  cases gk with
  | zero => exact absurd HA.out (by simp [thresherref19_Keep.l0])
  | succ k1 =>
   have H := HA.out
   clear HA
   simp only [thresherref19_Keep.l0] at H
   by_cases c7 : x8_1 < (l2.length : Int)
   ·rw [if_pos c7] at H
    have c7b0 : decide (x8_1 < (l2.length : Int)) = true := decide_eq_true c7
    clear c7
    have H' := Aside0.mk H
    clear H
    go_wp2
    go_loopg [9, 10] k1 (fun kq v9 v10 w' => ∃ (x9_2 : Bool) (x10_2 : Int), v9 = .bool x9_2 ∧ v10 = .int .i64 x10_2 ∧ Aside0 (thresherref19_Keep.l1 kq l1 l2 x7_1 x8_1 x9_2 x10_2 l0_0 a0_1 a0_2 a0_3 = some r) ∧ Aside0 (kq ≤ k1) ∧ Aside0 (Kd.V (Kd.slice 37 k37) 41 w' w.heap.size (fun k_ => (P2_ k_ ∨ w.heap.size ≤ k_) ∧ some k_ ≠ (u7 : Value).ownBlock ∧ k_ ≠ gb331) (.slice A2 l2.length c2) l2) ∧ Aside0 (Kd.N (Kd.slice 37 k37) 41 w' w.heap.size (fun k_ => (P2_ k_ ∨ w.heap.size ≤ k_) ∧ k_ ≠ gb331) u7 x7_1) ∧ Aside0 (w'.heap[gb331]? = some (.cells #[(.slice A0_0 l0_0.length c0_0), .int .i64 a0_1, .int .i64 a0_2, .int .i64 a0_3] 32 (0, 0))) ∧ Aside0 (Below w.heap.size w w'))
    case atStart => exact ⟨(true), (0), (by first | rfl | (simp; done) | (simp [*]; done)), (by first | rfl | (simp; done) | (simp [*]; done)), H', ⟨Nat.le_refl _⟩, ⟨by (with_reducible repeat (first | apply Kd.V_alloc | apply Kd.V_drewN | apply Kd.V_drew)); exact HO_2.out⟩, ⟨by (with_reducible repeat (first | apply Kd.N_alloc | apply Kd.N_drewN | apply Kd.N_drew)); exact HO_7.out⟩, ⟨by (with_reducible repeat (first | refine blk_drewN ?_ _ | refine blk_drew ?_ | refine blk_alloc ?_ _)); exact BK331.out⟩, ⟨by repeat (first | (with_reducible first | exact HB.out | apply below_alloc | apply pw_below_drewN | apply below_drew1 | refine below_set ?_ GE331.out) | exact HB.out)⟩⟩
    case round =>
     clear H'
     try clear c1
     try clear c2
     try clear p2
     try clear c7
     try clear c7b0
     try clear p2
     obtain ⟨x9_2, x10_2, rfl, rfl, HA, HK2, HO_2, HO_7, BK331, HB⟩ := hrel
     cases gk with
     | zero => exact absurd HA.out (by simp [thresherref19_Keep.l1])
     | succ k2 =>
      have H := HA.out
      clear HA
      simp only [thresherref19_Keep.l1] at H
      by_cases c8 : x10_2 < (l1.length : Int)
      ·rw [if_pos c8] at H
       have c8b0 : decide (x10_2 < (l1.length : Int)) = true := decide_eq_true c8
       clear c8
       by_cases c9 : 0 ≤ x10_2
       ·rw [if_pos c9] at H
        have c9b0 : decide (0 ≤ x10_2) = true := decide_eq_true c9
        clear c9
        by_cases c10 : 0 ≤ ((rd_T39 l1 x10_2).f0)
        ·rw [if_pos c10] at H
         have c10b0 : decide (0 ≤ ((rd_T39 l1 x10_2).f0)) = true := decide_eq_true c10
         clear c10
         by_cases c11 : ((rd_T39 l1 x10_2).f0) < (l0_0.length : Int)
         ·rw [if_pos c11] at H
          have c11b0 : decide (((rd_T39 l1 x10_2).f0) < (l0_0.length : Int)) = true := decide_eq_true c11
          clear c11
          by_cases c12 : 0 ≤ x8_1
          ·rw [if_pos c12] at H
           have c12b0 : decide (0 ≤ x8_1) = true := decide_eq_true c12
           clear c12
           by_cases c13 : x8_1 < (l2.length : Int)
           ·rw [if_pos c13] at H
            have c13b0 : decide (x8_1 < (l2.length : Int)) = true := decide_eq_true c13
            clear c13
            by_cases c14 : ((rd_T39 l1 x10_2).f0) < ((rd_L4 l2 x8_1).length : Int)
            ·rw [if_pos c14] at H
             have c14b0 : decide (((rd_T39 l1 x10_2).f0) < ((rd_L4 l2 x8_1).length : Int)) = true := decide_eq_true c14
             clear c14
             replace H := Option.bind_eq_some_iff.mp H
             obtain ⟨t341, A150, H⟩ := H
             replace H : (if x9_2 = true then (thresherref19_Keep.l1 k2 l1 l2 x7_1 x8_1 t341 (wrap64 (x10_2 + 1)) l0_0 a0_1 a0_2 a0_3) else (thresherref19_Keep.l1 k2 l1 l2 x7_1 x8_1 false (wrap64 (x10_2 + 1)) l0_0 a0_1 a0_2 a0_3)) = some r := H
             have A15 := Aside0.mk A150
             clear A150
             by_cases c16 : x9_2 = true
             ·subst c16
              have H1 : (thresherref19_Keep.l1 k2 l1 l2 x7_1 x8_1 t341 (wrap64 (x10_2 + 1)) l0_0 a0_1 a0_2 a0_3) = some r := by rw [if_pos rfl] at H; exact H
              clear H
              have H := H1
              clear H1
              have H' := Aside0.mk H
              clear H
              try go_wp2
              have n0_ := Aside0.mk (Kd.V_drew HO_2.out)
              have n1_ := Aside0.mk (Kd.N_drew HO_7.out)
              have n2_ := Aside0.mk (blk_drew BK331.out)
              have n3_ := Aside0.mk (below_drew1 HB.out)
              clear HO_2
              clear HO_7
              clear BK331
              clear HB
              have HO_2 := n0_
              have HO_7 := n1_
              have BK331 := n2_
              have HB := n3_
              clear n0_ n1_ n2_ n3_
              have p335 : 0 ≤ (x10_2 : Int) := of_decide_eq_true (by first | (with_reducible assumption) | assumption)
              have q335 : x10_2 < (l1.length : Int) := of_decide_eq_true (by first | (with_reducible assumption) | assumption)
              obtain ⟨ad335, e335, hx335_0, hx335_1, hx335_2, hx335_3⟩ := at_T39 HR1.out x10_2 p335 q335
              have hw335_3 := hx335_3
              have hw335_2 := hx335_2
              have hw335_1 := hx335_1
              have hw335_0 := hx335_0
              cases e335
              replace hx335_0 := (HB.out.cell (World.block_lt_of_cell? w _ hx335_0)).trans hx335_0
              replace hx335_1 := (HB.out.cell (World.block_lt_of_cell? w _ hx335_1)).trans hx335_1
              replace hx335_2 := (HB.out.cell (World.block_lt_of_cell? w _ hx335_2)).trans hx335_2
              replace hx335_3 := (HB.out.cell (World.block_lt_of_cell? w _ hx335_3)).trans hx335_3
              replace p335 := eq_true p335
              replace q335 := eq_true q335
              have p336 : 0 ≤ (((rd_T39 l1 x10_2).f0) : Int) := of_decide_eq_true (by first | (with_reducible assumption) | assumption)
              have q336 : ((rd_T39 l1 x10_2).f0) < (l0_0.length : Int) := of_decide_eq_true (by first | (with_reducible assumption) | assumption)
              obtain ⟨ad336, e336, hx336_0⟩ := Kd.at_int HR0_0.out ((rd_T39 l1 x10_2).f0) p336 q336
              have hw336_0 := hx336_0
              cases e336
              replace hx336_0 := (HB.out.cell (World.block_lt_of_cell? w _ hx336_0)).trans hx336_0
              replace p336 := eq_true p336
              replace q336 := eq_true q336
              have p337 : 0 ≤ (x10_2 : Int) := of_decide_eq_true (by first | (with_reducible assumption) | assumption)
              have q337 : x10_2 < (l1.length : Int) := of_decide_eq_true (by first | (with_reducible assumption) | assumption)
              obtain ⟨ad337, e337, hx337_0, hx337_1, hx337_2, hx337_3⟩ := at_T39 HR1.out x10_2 p337 q337
              have hw337_3 := hx337_3
              have hw337_2 := hx337_2
              have hw337_1 := hx337_1
              have hw337_0 := hx337_0
              obtain rfl : ad335 = ad337 := (by injection e337)
              replace hx337_0 := (HB.out.cell (World.block_lt_of_cell? w _ hx337_0)).trans hx337_0
              replace hx337_1 := (HB.out.cell (World.block_lt_of_cell? w _ hx337_1)).trans hx337_1
              replace hx337_2 := (HB.out.cell (World.block_lt_of_cell? w _ hx337_2)).trans hx337_2
              replace hx337_3 := (HB.out.cell (World.block_lt_of_cell? w _ hx337_3)).trans hx337_3
              replace p337 := eq_true p337
              replace q337 := eq_true q337
              have p338 : 0 ≤ (x8_1 : Int) := of_decide_eq_true (by first | (with_reducible assumption) | assumption)
              have q338 : x8_1 < (l2.length : Int) := of_decide_eq_true (by first | (with_reducible assumption) | assumption)
              obtain ⟨ad338, A338_0, c338_0, e338, hx338_0, hl338_0, hi338_0⟩ := at_L4 (Kd.V_reads' HO_2.out).2.2 x8_1 p338 q338
              cases e338
              obtain ⟨ce338, hce338, hMe338, hcc338⟩ := Kd.V_get HO_2.out [] x8_1 p338 (by first | exact q338 | exact of_decide_eq_true (by first | (with_reducible assumption) | assumption) | (have e_ := (Kd.V_reads' HO_2.out).1; omega))
              obtain ⟨ua338_0, uc338_0, rfl, ul338_0, ge338_0⟩ := Kd.FK_slice_open hMe338
              have hv338_0 := hcc338 0 _ rfl
              rw [Nat.add_zero, show ((Kd.slice 37 k37)).sz = 1 from rfl, Nat.mul_one] at hv338_0
              replace hv338_0 := Option.some.inj (hv338_0.symm.trans hx338_0)
              injection hv338_0 with hva_ hvn_ hvc_
              rw [hva_] at ge338_0
              rw [hvc_] at ul338_0
              have HL338_0 := Aside0.mk (show Kd.V k37 37 _ w.heap.size _ _ (rd_L4 l2 x8_1) from Kd.V_mk ul338_0 ge338_0)
              clear hva_ hvn_ hvc_ ge338_0 ul338_0
              clear hcc338 hce338
              have HR338_0 := Aside0.mk hi338_0
              have HC338_0 := Aside0.mk hl338_0
              clear hi338_0 hl338_0
              replace p338 := eq_true p338
              replace q338 := eq_true q338
              have p339 : 0 ≤ (x10_2 : Int) := of_decide_eq_true (by first | (with_reducible assumption) | assumption)
              have q339 : x10_2 < (l1.length : Int) := of_decide_eq_true (by first | (with_reducible assumption) | assumption)
              obtain ⟨ad339, e339, hx339_0, hx339_1, hx339_2, hx339_3⟩ := at_T39 HR1.out x10_2 p339 q339
              have hw339_3 := hx339_3
              have hw339_2 := hx339_2
              have hw339_1 := hx339_1
              have hw339_0 := hx339_0
              obtain rfl : ad335 = ad339 := (by injection e339)
              replace hx339_0 := (HB.out.cell (World.block_lt_of_cell? w _ hx339_0)).trans hx339_0
              replace hx339_1 := (HB.out.cell (World.block_lt_of_cell? w _ hx339_1)).trans hx339_1
              replace hx339_2 := (HB.out.cell (World.block_lt_of_cell? w _ hx339_2)).trans hx339_2
              replace hx339_3 := (HB.out.cell (World.block_lt_of_cell? w _ hx339_3)).trans hx339_3
              replace p339 := eq_true p339
              replace q339 := eq_true q339
              have p340 : 0 ≤ (((rd_T39 l1 x10_2).f0) : Int) := of_decide_eq_true (by first | (with_reducible assumption) | assumption)
              have q340 : ((rd_T39 l1 x10_2).f0) < ((rd_L4 l2 x8_1).length : Int) := of_decide_eq_true (by first | (with_reducible assumption) | assumption)
              obtain ⟨ad340, e340, hx340_0, hx340_1⟩ := at_T37 (by repeat (first | (with_reducible exact HR338_0.out) | (with_reducible refine Kd.C_alloc ?_ _) | (with_reducible refine Kd.C_drewN ?_ _) | (with_reducible refine Kd.C_drew ?_) | exact HR338_0.out)) ((rd_T39 l1 x10_2).f0) p340 q340
              cases e340
              replace p340 := eq_true p340
              replace q340 := eq_true q340
              refine start_ (n := 26) (S := fun w' => w'.cell? ⟨gb331, 0, none⟩ = some (.slice (some ad336) l0_0.length c0_0) ∧ w'.cell? ⟨gb331, 1, none⟩ = some (.int .i64 a0_1) ∧ w'.cell? ⟨gb331, 2, none⟩ = some (.int .i64 a0_2) ∧ w'.cell? ⟨gb331, 3, none⟩ = some (.int .i64 a0_3) ∧ w'.cell? (ad335.add ((x10_2).toNat * 4)) = some (.int .i64 ((rd_T39 l1 x10_2).f0)) ∧ w'.cell? ⟨(ad335.add ((x10_2).toNat * 4)).block, (ad335.add ((x10_2).toNat * 4)).off + 1, none⟩ = some (.int .i64 ((rd_T39 l1 x10_2).f1)) ∧ w'.cell? ⟨(ad335.add ((x10_2).toNat * 4)).block, (ad335.add ((x10_2).toNat * 4)).off + 2, none⟩ = some (.int .i64 ((rd_T39 l1 x10_2).f2.f0)) ∧ w'.cell? ⟨(ad335.add ((x10_2).toNat * 4)).block, (ad335.add ((x10_2).toNat * 4)).off + 3, none⟩ = some (.string ((rd_T39 l1 x10_2).f2.f1)) ∧ w'.cell? (ad336.add (((rd_T39 l1 x10_2).f0)).toNat) = some (.int .i64 (rd l0_0 ((rd_T39 l1 x10_2).f0))) ∧ w'.cell? (ad335.add ((x10_2).toNat * 4)) = some (.int .i64 ((rd_T39 l1 x10_2).f0)) ∧ w'.cell? ⟨(ad335.add ((x10_2).toNat * 4)).block, (ad335.add ((x10_2).toNat * 4)).off + 1, none⟩ = some (.int .i64 ((rd_T39 l1 x10_2).f1)) ∧ w'.cell? ⟨(ad335.add ((x10_2).toNat * 4)).block, (ad335.add ((x10_2).toNat * 4)).off + 2, none⟩ = some (.int .i64 ((rd_T39 l1 x10_2).f2.f0)) ∧ w'.cell? ⟨(ad335.add ((x10_2).toNat * 4)).block, (ad335.add ((x10_2).toNat * 4)).off + 3, none⟩ = some (.string ((rd_T39 l1 x10_2).f2.f1)) ∧ w'.cell? (ad338.add (x8_1).toNat) = some (.slice (some ad340) (rd_L4 l2 x8_1).length c338_0) ∧ w'.cell? (ad335.add ((x10_2).toNat * 4)) = some (.int .i64 ((rd_T39 l1 x10_2).f0)) ∧ w'.cell? ⟨(ad335.add ((x10_2).toNat * 4)).block, (ad335.add ((x10_2).toNat * 4)).off + 1, none⟩ = some (.int .i64 ((rd_T39 l1 x10_2).f1)) ∧ w'.cell? ⟨(ad335.add ((x10_2).toNat * 4)).block, (ad335.add ((x10_2).toNat * 4)).off + 2, none⟩ = some (.int .i64 ((rd_T39 l1 x10_2).f2.f0)) ∧ w'.cell? ⟨(ad335.add ((x10_2).toNat * 4)).block, (ad335.add ((x10_2).toNat * 4)).off + 3, none⟩ = some (.string ((rd_T39 l1 x10_2).f2.f1)) ∧ w'.cell? (ad340.add ((((rd_T39 l1 x10_2).f0)).toNat * 2)) = some (.int .i64 ((rd_T37 (rd_L4 l2 x8_1) ((rd_T39 l1 x10_2).f0)).f0)) ∧ w'.cell? ⟨(ad340.add ((((rd_T39 l1 x10_2).f0)).toNat * 2)).block, (ad340.add ((((rd_T39 l1 x10_2).f0)).toNat * 2)).off + 1, none⟩ = some (.string ((rd_T37 (rd_L4 l2 x8_1) ((rd_T39 l1 x10_2).f0)).f1))) (ds := []) #[false, false, false, false, false, false, false, false, false, false, false, false, false, false, false, false, false, false, false, false, false, false, false, false, false, false] (by kernel_rfl) rfl rfl ⟨(blk_cell BK331.out 0).trans rfl, (blk_cell BK331.out 1).trans rfl, (blk_cell BK331.out 2).trans rfl, (blk_cell BK331.out 3).trans rfl, ((HB.out.cell (World.block_lt_of_cell? w _ hw335_0)).trans hw335_0), ((HB.out.cell (World.block_lt_of_cell? w _ hw335_1)).trans hw335_1), ((HB.out.cell (World.block_lt_of_cell? w _ hw335_2)).trans hw335_2), ((HB.out.cell (World.block_lt_of_cell? w _ hw335_3)).trans hw335_3), ((HB.out.cell (World.block_lt_of_cell? w _ hw336_0)).trans hw336_0), ((HB.out.cell (World.block_lt_of_cell? w _ hw337_0)).trans hw337_0), ((HB.out.cell (World.block_lt_of_cell? w _ hw337_1)).trans hw337_1), ((HB.out.cell (World.block_lt_of_cell? w _ hw337_2)).trans hw337_2), ((HB.out.cell (World.block_lt_of_cell? w _ hw337_3)).trans hw337_3), hx338_0, ((HB.out.cell (World.block_lt_of_cell? w _ hw339_0)).trans hw339_0), ((HB.out.cell (World.block_lt_of_cell? w _ hw339_1)).trans hw339_1), ((HB.out.cell (World.block_lt_of_cell? w _ hw339_2)).trans hw339_2), ((HB.out.cell (World.block_lt_of_cell? w _ hw339_3)).trans hw339_3), hx340_0, hx340_1⟩ (fun hHeld => ?_); refine with_tabW thresherref19_Keep.tab9 thresherref19_Keep.bits9 (fun HT_ HW_ => ?_)
              generalize wr.drew = w17 at HO_2 HO_7 BK331 HB HL338_0 HR338_0 hx335_0 hx335_1 hx335_2 hx335_3 hx336_0 hx337_0 hx337_1 hx337_2 hx337_3 hx338_0 hx339_0 hx339_1 hx339_2 hx339_3 hx340_0 hx340_1 hHeld ⊢
              refine pure_ (i := 0) (N := some 25) (v := ?_) (a' := ?_) #[true, false, false, false, false, false, false, false, false, false, false, false, false, false, false, false, false, false, false, false, false, false, false, false, false, false] rfl rfl (any_of HT_.out (by kernel_rfl)) (fun _ _ _ h => h) (Or.inl ⟨by rfl, ?_⟩) ?_ ?_
              rotate_left; (intro w'; go_simp; with_reducible rfl); rotate_left; (simp only [Act.put, List.setIfInBounds_toArray, List.set_cons_zero, List.set_cons_succ, i64_w, i32_w]; rfl)
              refine pure_ (i := 2) (N := some 27) (v := ?_) (a' := ?_) #[true, false, true, false, false, false, false, false, false, false, false, false, false, false, false, false, false, false, false, false, false, false, false, false, false, false] rfl rfl (any_of HT_.out (by kernel_rfl)) (fun _ _ _ h => h) (Or.inl ⟨by rfl, ?_⟩) ?_ ?_
              rotate_left; (intro w'; go_simp; with_reducible rfl); rotate_left; (simp only [Act.put, List.setIfInBounds_toArray, List.set_cons_zero, List.set_cons_succ, i64_w, i32_w]; rfl)
              refine pure_ (i := 3) (N := some 28) (v := ?_) (a' := ?_) #[true, false, true, true, false, false, false, false, false, false, false, false, false, false, false, false, false, false, false, false, false, false, false, false, false, false] rfl rfl (any_of HT_.out (by kernel_rfl)) (fun _ _ _ h => h) (Or.inl ⟨by rfl, ?_⟩) ?_ ?_
              rotate_left; (intro w'; go_simp; with_reducible rfl); rotate_left; (simp only [Act.put, List.setIfInBounds_toArray, List.set_cons_zero, List.set_cons_succ, i64_w, i32_w]; rfl)
              refine pure_ (i := 4) (N := some 29) (v := ?_) (a' := ?_) #[true, false, true, true, true, false, false, false, false, false, false, false, false, false, false, false, false, false, false, false, false, false, false, false, false, false] rfl rfl (any_of HT_.out (by kernel_rfl)) (fun _ _ _ h => h) (Or.inl ⟨by rfl, ?_⟩) ?_ ?_
              rotate_left; (intro w'; go_simp; with_reducible rfl); rotate_left; (simp only [Act.put, List.setIfInBounds_toArray, List.set_cons_zero, List.set_cons_succ, i64_w, i32_w]; rfl)
              refine pure_ (i := 5) (N := some 30) (v := ?_) (a' := ?_) #[true, false, true, true, true, true, false, false, false, false, false, false, false, false, false, false, false, false, false, false, false, false, false, false, false, false] rfl rfl (any_of HT_.out (by kernel_rfl)) (fun _ _ _ h => h) (Or.inl ⟨by rfl, ?_⟩) ?_ ?_
              rotate_left; (intro w'; go_simp; with_reducible rfl); rotate_left; (simp only [Act.put, List.setIfInBounds_toArray, List.set_cons_zero, List.set_cons_succ, i64_w, i32_w]; rfl)
              refine pure_ (i := 9) (N := some 34) (v := ?_) (a' := ?_) #[true, false, true, true, true, true, false, false, false, true, false, false, false, false, false, false, false, false, false, false, false, false, false, false, false, false] rfl rfl (any_of HT_.out (by kernel_rfl)) (fun _ _ _ h => h) (Or.inl ⟨by rfl, ?_⟩) ?_ ?_
              rotate_left; (intro w'; go_simp; with_reducible rfl); rotate_left; (simp only [Act.put, List.setIfInBounds_toArray, List.set_cons_zero, List.set_cons_succ, i64_w, i32_w]; rfl)
              refine pure_ (i := 10) (N := some 35) (v := ?_) (a' := ?_) #[true, false, true, true, true, true, false, false, false, true, true, false, false, false, false, false, false, false, false, false, false, false, false, false, false, false] rfl rfl (any_of HT_.out (by kernel_rfl)) (fun _ _ _ h => h) (Or.inl ⟨by rfl, ?_⟩) ?_ ?_
              rotate_left; (intro w'; go_simp; with_reducible rfl); rotate_left; (simp only [Act.put, List.setIfInBounds_toArray, List.set_cons_zero, List.set_cons_succ, i64_w, i32_w]; rfl)
              refine pure_ (i := 11) (N := some 36) (v := ?_) (a' := ?_) #[true, false, true, true, true, true, false, false, false, true, true, true, false, false, false, false, false, false, false, false, false, false, false, false, false, false] rfl rfl (any_of HT_.out (by kernel_rfl)) (fun _ _ _ h => h) (Or.inl ⟨by rfl, ?_⟩) ?_ ?_
              rotate_left; (intro w'; go_simp; with_reducible rfl); rotate_left; (simp only [Act.put, List.setIfInBounds_toArray, List.set_cons_zero, List.set_cons_succ, i64_w, i32_w]; rfl)
              refine pure_ (i := 13) (N := some 38) (v := ?_) (a' := ?_) #[true, false, true, true, true, true, false, false, false, true, true, true, false, true, false, false, false, false, false, false, false, false, false, false, false, false] rfl rfl (any_of HT_.out (by kernel_rfl)) (fun _ _ _ h => h) (Or.inl ⟨by rfl, ?_⟩) ?_ ?_
              rotate_left; (intro w'; go_simp; with_reducible rfl); rotate_left; (simp only [Act.put, List.setIfInBounds_toArray, List.set_cons_zero, List.set_cons_succ, i64_w, i32_w]; rfl)
              refine pure_ (i := 14) (N := some 39) (v := ?_) (a' := ?_) #[true, false, true, true, true, true, false, false, false, true, true, true, false, true, true, false, false, false, false, false, false, false, false, false, false, false] rfl rfl (any_of HT_.out (by kernel_rfl)) (fun _ _ _ h => h) (Or.inl ⟨by rfl, ?_⟩) ?_ ?_
              rotate_left; (intro w'; go_simp; with_reducible rfl); rotate_left; (simp only [Act.put, List.setIfInBounds_toArray, List.set_cons_zero, List.set_cons_succ, i64_w, i32_w]; rfl)
              refine pure_ (i := 15) (N := some 40) (v := ?_) (a' := ?_) #[true, false, true, true, true, true, false, false, false, true, true, true, false, true, true, true, false, false, false, false, false, false, false, false, false, false] rfl rfl (any_of HT_.out (by kernel_rfl)) (fun _ _ _ h => h) (Or.inl ⟨by rfl, ?_⟩) ?_ ?_
              rotate_left; (intro w'; go_simp; with_reducible rfl); rotate_left; (simp only [Act.put, List.setIfInBounds_toArray, List.set_cons_zero, List.set_cons_succ, i64_w, i32_w]; rfl)
              refine pure_ (i := 17) (N := some 42) (v := ?_) (a' := ?_) #[true, false, true, true, true, true, false, false, false, true, true, true, false, true, true, true, false, true, false, false, false, false, false, false, false, false] rfl rfl (any_of HT_.out (by kernel_rfl)) (fun _ _ _ h => h) (Or.inl ⟨by rfl, ?_⟩) ?_ ?_
              rotate_left; (intro w'; go_simp; with_reducible rfl); rotate_left; (simp only [Act.put, List.setIfInBounds_toArray, List.set_cons_zero, List.set_cons_succ, i64_w, i32_w]; rfl)
              refine pure_ (i := 18) (N := some 43) (v := ?_) (a' := ?_) #[true, false, true, true, true, true, false, false, false, true, true, true, false, true, true, true, false, true, true, false, false, false, false, false, false, false] rfl rfl (any_of HT_.out (by kernel_rfl)) (fun _ _ _ h => h) (Or.inl ⟨by rfl, ?_⟩) ?_ ?_
              rotate_left; (intro w'; go_simp; with_reducible rfl); rotate_left; (simp only [Act.put, List.setIfInBounds_toArray, List.set_cons_zero, List.set_cons_succ, i64_w, i32_w]; rfl)
              refine pure_ (i := 19) (N := some 44) (v := ?_) (a' := ?_) #[true, false, true, true, true, true, false, false, false, true, true, true, false, true, true, true, false, true, true, true, false, false, false, false, false, false] rfl rfl (any_of HT_.out (by kernel_rfl)) (fun _ _ _ h => h) (Or.inl ⟨by rfl, ?_⟩) ?_ ?_
              rotate_left; (intro w'; go_simp; with_reducible rfl); rotate_left; (simp only [Act.put, List.setIfInBounds_toArray, List.set_cons_zero, List.set_cons_succ, i64_w, i32_w]; rfl)
              refine pure_ (i := 20) (N := some 45) (v := ?_) (a' := ?_) #[true, false, true, true, true, true, false, false, false, true, true, true, false, true, true, true, false, true, true, true, true, false, false, false, false, false] rfl rfl (any_of HT_.out (by kernel_rfl)) (fun _ _ _ h => h) (Or.inl ⟨by rfl, ?_⟩) ?_ ?_
              rotate_left; (intro w'; go_simp; with_reducible rfl); rotate_left; (simp only [Act.put, List.setIfInBounds_toArray, List.set_cons_zero, List.set_cons_succ, i64_w, i32_w]; rfl)
              refine take_ (i := 1) (N := some 26) (v := ?_) (a' := ?_) #[true, true, true, true, true, true, false, false, false, true, true, true, false, true, true, true, false, true, true, true, true, false, false, false, false, false] rfl rfl (take_ofW HT_.out HW_.out (by kernel_rfl)) (fun _ _ _ h => h) (Or.inl ⟨by rfl, ?_⟩) hHeld ?_ ?_
              rotate_left; (rintro w' ⟨s0, s1, s2, s3, s4, s5, s6, s7, s8, s9, s10, s11, s12, s13, s14, s15, s16, s17, s18, s19⟩; go_simp; with_reducible rfl); rotate_left; (simp only [Act.put, List.setIfInBounds_toArray, List.set_cons_zero, List.set_cons_succ, i64_w, i32_w]; rfl)
              refine take_ (i := 6) (N := some 31) (v := ?_) (a' := ?_) #[true, true, true, true, true, true, true, false, false, true, true, true, false, true, true, true, false, true, true, true, true, false, false, false, false, false] rfl rfl (take_ofW HT_.out HW_.out (by kernel_rfl)) (fun _ _ _ h => h) (Or.inl ⟨by rfl, ?_⟩) hHeld ?_ ?_
              rotate_left; (rintro w' ⟨s0, s1, s2, s3, s4, s5, s6, s7, s8, s9, s10, s11, s12, s13, s14, s15, s16, s17, s18, s19⟩; go_simp; with_reducible rfl); rotate_left; (simp only [Act.put, List.setIfInBounds_toArray, List.set_cons_zero, List.set_cons_succ, i64_w, i32_w]; rfl)
              refine pure_ (i := 7) (N := some 32) (v := ?_) (a' := ?_) #[true, true, true, true, true, true, true, true, false, true, true, true, false, true, true, true, false, true, true, true, true, false, false, false, false, false] rfl rfl (any_of HT_.out (by kernel_rfl)) (fun _ _ _ h => h) (Or.inl ⟨by rfl, ?_⟩) ?_ ?_
              rotate_left; (intro w'; go_simp; with_reducible rfl); rotate_left; (simp only [Act.put, List.setIfInBounds_toArray, List.set_cons_zero, List.set_cons_succ, i64_w, i32_w]; rfl)
              refine take_ (i := 8) (N := some 33) (v := ?_) (a' := ?_) #[true, true, true, true, true, true, true, true, true, true, true, true, false, true, true, true, false, true, true, true, true, false, false, false, false, false] rfl rfl (take_ofW HT_.out HW_.out (by kernel_rfl)) (fun _ _ _ h => h) (Or.inl ⟨by rfl, ?_⟩) hHeld ?_ ?_
              rotate_left; (rintro w' ⟨s0, s1, s2, s3, s4, s5, s6, s7, s8, s9, s10, s11, s12, s13, s14, s15, s16, s17, s18, s19⟩; go_simp; with_reducible rfl); rotate_left; (simp only [Act.put, List.setIfInBounds_toArray, List.set_cons_zero, List.set_cons_succ, i64_w, i32_w]; rfl)
              refine take_ (i := 12) (N := some 37) (v := ?_) (a' := ?_) #[true, true, true, true, true, true, true, true, true, true, true, true, true, true, true, true, false, true, true, true, true, false, false, false, false, false] rfl rfl (take_ofW HT_.out HW_.out (by kernel_rfl)) (fun _ _ _ h => h) (Or.inl ⟨by rfl, ?_⟩) hHeld ?_ ?_
              rotate_left; (rintro w' ⟨s0, s1, s2, s3, s4, s5, s6, s7, s8, s9, s10, s11, s12, s13, s14, s15, s16, s17, s18, s19⟩; go_simp; with_reducible rfl); rotate_left; (simp only [Act.put, List.setIfInBounds_toArray, List.set_cons_zero, List.set_cons_succ, i64_w, i32_w]; rfl)
              refine take_ (i := 16) (N := some 41) (v := ?_) (a' := ?_) #[true, true, true, true, true, true, true, true, true, true, true, true, true, true, true, true, true, true, true, true, true, false, false, false, false, false] rfl rfl (take_ofW HT_.out HW_.out (by kernel_rfl)) (fun _ _ _ h => h) (Or.inl ⟨by rfl, ?_⟩) hHeld ?_ ?_
              rotate_left; (rintro w' ⟨s0, s1, s2, s3, s4, s5, s6, s7, s8, s9, s10, s11, s12, s13, s14, s15, s16, s17, s18, s19⟩; go_simp; with_reducible rfl); rotate_left; (simp only [Act.put, List.setIfInBounds_toArray, List.set_cons_zero, List.set_cons_succ, i64_w, i32_w]; rfl)
              refine take_ (i := 21) (N := some 46) (v := ?_) (a' := ?_) #[true, true, true, true, true, true, true, true, true, true, true, true, true, true, true, true, true, true, true, true, true, true, false, false, false, false] rfl rfl (take_ofW HT_.out HW_.out (by kernel_rfl)) (fun _ _ _ h => h) (Or.inl ⟨by rfl, ?_⟩) hHeld ?_ ?_
              rotate_left; (rintro w' ⟨s0, s1, s2, s3, s4, s5, s6, s7, s8, s9, s10, s11, s12, s13, s14, s15, s16, s17, s18, s19⟩; go_simp; with_reducible rfl); rotate_left; (simp only [Act.put, List.setIfInBounds_toArray, List.set_cons_zero, List.set_cons_succ, i64_w, i32_w]; rfl)
              refine pure_ (i := 22) (N := some 47) (v := ?_) (a' := ?_) #[true, true, true, true, true, true, true, true, true, true, true, true, true, true, true, true, true, true, true, true, true, true, true, false, false, false] rfl rfl (any_of HT_.out (by kernel_rfl)) (fun _ _ _ h => h) (Or.inl ⟨by rfl, ?_⟩) ?_ ?_
              rotate_left; (intro w'; go_simp; with_reducible rfl); rotate_left; (simp only [Act.put, List.setIfInBounds_toArray, List.set_cons_zero, List.set_cons_succ, i64_w, i32_w]; rfl)
              refine take_ (i := 23) (N := some 48) (v := ?_) (a' := ?_) #[true, true, true, true, true, true, true, true, true, true, true, true, true, true, true, true, true, true, true, true, true, true, true, true, false, false] rfl rfl (take_ofW HT_.out HW_.out (by kernel_rfl)) (fun _ _ _ h => h) (Or.inl ⟨by rfl, ?_⟩) hHeld ?_ ?_
              rotate_left; (rintro w' ⟨s0, s1, s2, s3, s4, s5, s6, s7, s8, s9, s10, s11, s12, s13, s14, s15, s16, s17, s18, s19⟩; go_simp; with_reducible rfl); rotate_left; (simp only [Act.put, List.setIfInBounds_toArray, List.set_cons_zero, List.set_cons_succ, i64_w, i32_w]; rfl)
              refine one_ (i := 24) (N := some 49) #[true, true, true, true, true, true, true, true, true, true, true, true, true, true, true, true, true, true, true, true, true, true, true, true, true, false] rfl rfl (one_of HT_.out (by kernel_rfl)) (by decide) (fun K hK => ?_)
              refine goes_ Try.func26 (by kernel_rfl) rfl #[.int .i64 (rd l0_0 ((rd_T39 l1 x10_2).f0)), .agg #[.int .i64 ((rd_T39 l1 x10_2).f0), .int .i64 ((rd_T39 l1 x10_2).f1), .int .i64 ((rd_T39 l1 x10_2).f2.f0), .string ((rd_T39 l1 x10_2).f2.f1)], .agg #[.int .i64 ((rd_T37 (rd_L4 l2 x8_1) ((rd_T39 l1 x10_2).f0)).f0), .string ((rd_T37 (rd_L4 l2 x8_1) ((rd_T39 l1 x10_2).f0)).f1)]] (by rfl) rfl rfl (by (try simp only [List.map_toArray, List.map_cons, List.map_nil]); first | done | rfl | (simp only [List.length_drop, List.length_take]; rfl)) ?_
              with_reducible refine (thresherref19_Holds.calls k2 (rd l0_0 ((rd_T39 l1 x10_2).f0)) ((rd_T39 l1 x10_2).f0) ((rd_T39 l1 x10_2).f1) ((rd_T39 l1 x10_2).f2.f0) ((rd_T39 l1 x10_2).f2.f1) ((rd_T37 (rd_L4 l2 x8_1) ((rd_T39 l1 x10_2).f0)).f0) ((rd_T37 (rd_L4 l2 x8_1) ((rd_T39 l1 x10_2).f0)).f1) t341 _ A15.out).mono ?_
              rintro e w18 ⟨rfl, hb⟩
              have HS13_ := (hb.cell (World.block_lt_of_cell? _ _ (hHeld.2.2.2.2.2.2.2.2.2.2.2.2.2.1))).trans (hHeld.2.2.2.2.2.2.2.2.2.2.2.2.2.1)
              have HS18_ := (hb.cell (World.block_lt_of_cell? _ _ (hHeld.2.2.2.2.2.2.2.2.2.2.2.2.2.2.2.2.2.2.1))).trans (hHeld.2.2.2.2.2.2.2.2.2.2.2.2.2.2.2.2.2.2.1)
              have HS19_ := (hb.cell (World.block_lt_of_cell? _ _ (hHeld.2.2.2.2.2.2.2.2.2.2.2.2.2.2.2.2.2.2.2))).trans (hHeld.2.2.2.2.2.2.2.2.2.2.2.2.2.2.2.2.2.2.2)
              refine ⟨_, rfl, ?_⟩
              have n0_ := Aside0.mk (Kd.V_below (by (with_reducible repeat (first | apply Kd.V_alloc | apply Kd.V_drewN | apply Kd.V_drew)); exact HO_2.out) hb)
              have n1_ := Aside0.mk (Kd.N_below (by (with_reducible repeat (first | apply Kd.N_alloc | apply Kd.N_drewN | apply Kd.N_drew)); exact HO_7.out) hb)
              have n2_ := Aside0.mk (Kd.V_below (by (with_reducible repeat (first | apply Kd.V_alloc | apply Kd.V_drewN | apply Kd.V_drew)); exact HL338_0.out) hb)
              have n3_ := Aside0.mk (blk_below (g := gb331) (o := .cells #[.slice (some ad336) l0_0.length c0_0, .int .i64 a0_1, .int .i64 a0_2, .int .i64 a0_3] 32 (0, 0)) (by (with_reducible repeat (first | refine blk_drewN ?_ _ | refine blk_drew ?_ | refine blk_alloc ?_ _)); exact BK331.out) hb)
              have n4_ := Aside0.mk (Kd.C_below (by repeat (first | (with_reducible exact HR338_0.out) | (with_reducible refine Kd.C_alloc ?_ _) | (with_reducible refine Kd.C_drewN ?_ _) | (with_reducible refine Kd.C_drew ?_) | exact HR338_0.out)) hb)
              have n5_ := Aside0.mk (below_step (by repeat (first | (with_reducible first | exact HB.out | apply below_alloc | apply pw_below_drewN | apply below_drew1 | refine below_set ?_ GE331.out) | exact HB.out)) hb)
              clear HO_2
              clear HO_7
              clear HL338_0
              clear BK331
              clear HR338_0
              clear HB
              have HO_2 := n0_
              have HO_7 := n1_
              have HL338_0 := n2_
              have BK331 := n3_
              have HR338_0 := n4_
              have HB := n5_
              clear n0_ n1_ n2_ n3_ n4_ n5_
              (try clear hb)
              (try clear hb2)
              (try clear hk)
              (try clear hi)
              refine hK.out _ _ ⟨(blk_cell BK331.out 0).trans rfl, (blk_cell BK331.out 1).trans rfl, (blk_cell BK331.out 2).trans rfl, (blk_cell BK331.out 3).trans rfl, ((HB.out.cell (World.block_lt_of_cell? w _ hw335_0)).trans hw335_0), ((HB.out.cell (World.block_lt_of_cell? w _ hw335_1)).trans hw335_1), ((HB.out.cell (World.block_lt_of_cell? w _ hw335_2)).trans hw335_2), ((HB.out.cell (World.block_lt_of_cell? w _ hw335_3)).trans hw335_3), ((HB.out.cell (World.block_lt_of_cell? w _ hw336_0)).trans hw336_0), ((HB.out.cell (World.block_lt_of_cell? w _ hw337_0)).trans hw337_0), ((HB.out.cell (World.block_lt_of_cell? w _ hw337_1)).trans hw337_1), ((HB.out.cell (World.block_lt_of_cell? w _ hw337_2)).trans hw337_2), ((HB.out.cell (World.block_lt_of_cell? w _ hw337_3)).trans hw337_3), HS13_, ((HB.out.cell (World.block_lt_of_cell? w _ hw339_0)).trans hw339_0), ((HB.out.cell (World.block_lt_of_cell? w _ hw339_1)).trans hw339_1), ((HB.out.cell (World.block_lt_of_cell? w _ hw339_2)).trans hw339_2), ((HB.out.cell (World.block_lt_of_cell? w _ hw339_3)).trans hw339_3), HS18_, HS19_⟩ (fun hHeld => ?_)
              clear hK K
              refine norm_ (a' := ?_) ?_ ?_
              rotate_left
              ·show Act.put _ (some 49) _ = _
               simp only [Act.put, List.setIfInBounds_toArray, List.set_cons_zero, List.set_cons_succ, i64_w, i32_w]
               rfl
              refine pure_ (i := 25) (N := some 11) (v := ?_) (a' := ?_) #[true, true, true, true, true, true, true, true, true, true, true, true, true, true, true, true, true, true, true, true, true, true, true, true, true, true] rfl rfl (any_of HT_.out (by kernel_rfl)) (fun _ _ _ h => h) (Or.inl ⟨by rfl, ?_⟩) ?_ ?_
              rotate_left; (intro w'; go_simp; with_reducible rfl); rotate_left; (simp only [Act.put, List.setIfInBounds_toArray, List.set_cons_zero, List.set_cons_succ, i64_w, i32_w]; rfl)
              refine done_ (done_of HT_.out (by kernel_rfl)) ?_
              (try clear HS13_); (try clear HS18_); (try clear HS19_); (try clear hHeld)
              try go_wp2
              go_roundg k2
              case measure => have := HK1.out; have := HK2.out; omega
              case rel => exact ⟨(t341), (wrap64 (x10_2 + 1)), (by first | rfl | (simp; done) | (simp [*]; done)), (by first | rfl | (simp; done) | (simp [*]; done)), (by first | exact H' | (subst_vars; exact H')), ⟨by have := HK1.out; have := HK2.out; omega⟩, ⟨by (with_reducible repeat (first | apply Kd.V_alloc | apply Kd.V_drewN | apply Kd.V_drew)); exact HO_2.out⟩, ⟨by (with_reducible repeat (first | apply Kd.N_alloc | apply Kd.N_drewN | apply Kd.N_drew)); exact HO_7.out⟩, ⟨by (with_reducible repeat (first | refine blk_drewN ?_ _ | refine blk_drew ?_ | refine blk_alloc ?_ _)); exact BK331.out⟩, ⟨by repeat (first | (with_reducible first | exact HB.out | apply below_alloc | apply pw_below_drewN | apply below_drew1 | refine below_set ?_ GE331.out) | exact HB.out)⟩⟩
             ·replace c16 := Bool.eq_false_iff.mpr c16
              subst c16
              have H1 : (thresherref19_Keep.l1 k2 l1 l2 x7_1 x8_1 false (wrap64 (x10_2 + 1)) l0_0 a0_1 a0_2 a0_3) = some r := by rw [if_neg (show ¬ (false = true) by decide)] at H; exact H
              clear H
              have H := H1
              clear H1
              have H' := Aside0.mk H
              clear H
              try go_wp2
              have n0_ := Aside0.mk (Kd.V_drew HO_2.out)
              have n1_ := Aside0.mk (Kd.N_drew HO_7.out)
              have n2_ := Aside0.mk (blk_drew BK331.out)
              have n3_ := Aside0.mk (below_drew1 HB.out)
              clear HO_2
              clear HO_7
              clear BK331
              clear HB
              have HO_2 := n0_
              have HO_7 := n1_
              have BK331 := n2_
              have HB := n3_
              clear n0_ n1_ n2_ n3_
              have p335 : 0 ≤ (x10_2 : Int) := of_decide_eq_true (by first | (with_reducible assumption) | assumption)
              have q335 : x10_2 < (l1.length : Int) := of_decide_eq_true (by first | (with_reducible assumption) | assumption)
              obtain ⟨ad335, e335, hx335_0, hx335_1, hx335_2, hx335_3⟩ := at_T39 HR1.out x10_2 p335 q335
              have hw335_3 := hx335_3
              have hw335_2 := hx335_2
              have hw335_1 := hx335_1
              have hw335_0 := hx335_0
              cases e335
              replace hx335_0 := (HB.out.cell (World.block_lt_of_cell? w _ hx335_0)).trans hx335_0
              replace hx335_1 := (HB.out.cell (World.block_lt_of_cell? w _ hx335_1)).trans hx335_1
              replace hx335_2 := (HB.out.cell (World.block_lt_of_cell? w _ hx335_2)).trans hx335_2
              replace hx335_3 := (HB.out.cell (World.block_lt_of_cell? w _ hx335_3)).trans hx335_3
              replace p335 := eq_true p335
              replace q335 := eq_true q335
              have p336 : 0 ≤ (((rd_T39 l1 x10_2).f0) : Int) := of_decide_eq_true (by first | (with_reducible assumption) | assumption)
              have q336 : ((rd_T39 l1 x10_2).f0) < (l0_0.length : Int) := of_decide_eq_true (by first | (with_reducible assumption) | assumption)
              obtain ⟨ad336, e336, hx336_0⟩ := Kd.at_int HR0_0.out ((rd_T39 l1 x10_2).f0) p336 q336
              have hw336_0 := hx336_0
              cases e336
              replace hx336_0 := (HB.out.cell (World.block_lt_of_cell? w _ hx336_0)).trans hx336_0
              replace p336 := eq_true p336
              replace q336 := eq_true q336
              have p337 : 0 ≤ (x10_2 : Int) := of_decide_eq_true (by first | (with_reducible assumption) | assumption)
              have q337 : x10_2 < (l1.length : Int) := of_decide_eq_true (by first | (with_reducible assumption) | assumption)
              obtain ⟨ad337, e337, hx337_0, hx337_1, hx337_2, hx337_3⟩ := at_T39 HR1.out x10_2 p337 q337
              have hw337_3 := hx337_3
              have hw337_2 := hx337_2
              have hw337_1 := hx337_1
              have hw337_0 := hx337_0
              obtain rfl : ad335 = ad337 := (by injection e337)
              replace hx337_0 := (HB.out.cell (World.block_lt_of_cell? w _ hx337_0)).trans hx337_0
              replace hx337_1 := (HB.out.cell (World.block_lt_of_cell? w _ hx337_1)).trans hx337_1
              replace hx337_2 := (HB.out.cell (World.block_lt_of_cell? w _ hx337_2)).trans hx337_2
              replace hx337_3 := (HB.out.cell (World.block_lt_of_cell? w _ hx337_3)).trans hx337_3
              replace p337 := eq_true p337
              replace q337 := eq_true q337
              have p338 : 0 ≤ (x8_1 : Int) := of_decide_eq_true (by first | (with_reducible assumption) | assumption)
              have q338 : x8_1 < (l2.length : Int) := of_decide_eq_true (by first | (with_reducible assumption) | assumption)
              obtain ⟨ad338, A338_0, c338_0, e338, hx338_0, hl338_0, hi338_0⟩ := at_L4 (Kd.V_reads' HO_2.out).2.2 x8_1 p338 q338
              cases e338
              obtain ⟨ce338, hce338, hMe338, hcc338⟩ := Kd.V_get HO_2.out [] x8_1 p338 (by first | exact q338 | exact of_decide_eq_true (by first | (with_reducible assumption) | assumption) | (have e_ := (Kd.V_reads' HO_2.out).1; omega))
              obtain ⟨ua338_0, uc338_0, rfl, ul338_0, ge338_0⟩ := Kd.FK_slice_open hMe338
              have hv338_0 := hcc338 0 _ rfl
              rw [Nat.add_zero, show ((Kd.slice 37 k37)).sz = 1 from rfl, Nat.mul_one] at hv338_0
              replace hv338_0 := Option.some.inj (hv338_0.symm.trans hx338_0)
              injection hv338_0 with hva_ hvn_ hvc_
              rw [hva_] at ge338_0
              rw [hvc_] at ul338_0
              have HL338_0 := Aside0.mk (show Kd.V k37 37 _ w.heap.size _ _ (rd_L4 l2 x8_1) from Kd.V_mk ul338_0 ge338_0)
              clear hva_ hvn_ hvc_ ge338_0 ul338_0
              clear hcc338 hce338
              have HR338_0 := Aside0.mk hi338_0
              have HC338_0 := Aside0.mk hl338_0
              clear hi338_0 hl338_0
              replace p338 := eq_true p338
              replace q338 := eq_true q338
              have p339 : 0 ≤ (x10_2 : Int) := of_decide_eq_true (by first | (with_reducible assumption) | assumption)
              have q339 : x10_2 < (l1.length : Int) := of_decide_eq_true (by first | (with_reducible assumption) | assumption)
              obtain ⟨ad339, e339, hx339_0, hx339_1, hx339_2, hx339_3⟩ := at_T39 HR1.out x10_2 p339 q339
              have hw339_3 := hx339_3
              have hw339_2 := hx339_2
              have hw339_1 := hx339_1
              have hw339_0 := hx339_0
              obtain rfl : ad335 = ad339 := (by injection e339)
              replace hx339_0 := (HB.out.cell (World.block_lt_of_cell? w _ hx339_0)).trans hx339_0
              replace hx339_1 := (HB.out.cell (World.block_lt_of_cell? w _ hx339_1)).trans hx339_1
              replace hx339_2 := (HB.out.cell (World.block_lt_of_cell? w _ hx339_2)).trans hx339_2
              replace hx339_3 := (HB.out.cell (World.block_lt_of_cell? w _ hx339_3)).trans hx339_3
              replace p339 := eq_true p339
              replace q339 := eq_true q339
              have p340 : 0 ≤ (((rd_T39 l1 x10_2).f0) : Int) := of_decide_eq_true (by first | (with_reducible assumption) | assumption)
              have q340 : ((rd_T39 l1 x10_2).f0) < ((rd_L4 l2 x8_1).length : Int) := of_decide_eq_true (by first | (with_reducible assumption) | assumption)
              obtain ⟨ad340, e340, hx340_0, hx340_1⟩ := at_T37 (by repeat (first | (with_reducible exact HR338_0.out) | (with_reducible refine Kd.C_alloc ?_ _) | (with_reducible refine Kd.C_drewN ?_ _) | (with_reducible refine Kd.C_drew ?_) | exact HR338_0.out)) ((rd_T39 l1 x10_2).f0) p340 q340
              cases e340
              replace p340 := eq_true p340
              replace q340 := eq_true q340
              refine start_ (n := 26) (S := fun w' => w'.cell? ⟨gb331, 0, none⟩ = some (.slice (some ad336) l0_0.length c0_0) ∧ w'.cell? ⟨gb331, 1, none⟩ = some (.int .i64 a0_1) ∧ w'.cell? ⟨gb331, 2, none⟩ = some (.int .i64 a0_2) ∧ w'.cell? ⟨gb331, 3, none⟩ = some (.int .i64 a0_3) ∧ w'.cell? (ad335.add ((x10_2).toNat * 4)) = some (.int .i64 ((rd_T39 l1 x10_2).f0)) ∧ w'.cell? ⟨(ad335.add ((x10_2).toNat * 4)).block, (ad335.add ((x10_2).toNat * 4)).off + 1, none⟩ = some (.int .i64 ((rd_T39 l1 x10_2).f1)) ∧ w'.cell? ⟨(ad335.add ((x10_2).toNat * 4)).block, (ad335.add ((x10_2).toNat * 4)).off + 2, none⟩ = some (.int .i64 ((rd_T39 l1 x10_2).f2.f0)) ∧ w'.cell? ⟨(ad335.add ((x10_2).toNat * 4)).block, (ad335.add ((x10_2).toNat * 4)).off + 3, none⟩ = some (.string ((rd_T39 l1 x10_2).f2.f1)) ∧ w'.cell? (ad336.add (((rd_T39 l1 x10_2).f0)).toNat) = some (.int .i64 (rd l0_0 ((rd_T39 l1 x10_2).f0))) ∧ w'.cell? (ad335.add ((x10_2).toNat * 4)) = some (.int .i64 ((rd_T39 l1 x10_2).f0)) ∧ w'.cell? ⟨(ad335.add ((x10_2).toNat * 4)).block, (ad335.add ((x10_2).toNat * 4)).off + 1, none⟩ = some (.int .i64 ((rd_T39 l1 x10_2).f1)) ∧ w'.cell? ⟨(ad335.add ((x10_2).toNat * 4)).block, (ad335.add ((x10_2).toNat * 4)).off + 2, none⟩ = some (.int .i64 ((rd_T39 l1 x10_2).f2.f0)) ∧ w'.cell? ⟨(ad335.add ((x10_2).toNat * 4)).block, (ad335.add ((x10_2).toNat * 4)).off + 3, none⟩ = some (.string ((rd_T39 l1 x10_2).f2.f1)) ∧ w'.cell? (ad338.add (x8_1).toNat) = some (.slice (some ad340) (rd_L4 l2 x8_1).length c338_0) ∧ w'.cell? (ad335.add ((x10_2).toNat * 4)) = some (.int .i64 ((rd_T39 l1 x10_2).f0)) ∧ w'.cell? ⟨(ad335.add ((x10_2).toNat * 4)).block, (ad335.add ((x10_2).toNat * 4)).off + 1, none⟩ = some (.int .i64 ((rd_T39 l1 x10_2).f1)) ∧ w'.cell? ⟨(ad335.add ((x10_2).toNat * 4)).block, (ad335.add ((x10_2).toNat * 4)).off + 2, none⟩ = some (.int .i64 ((rd_T39 l1 x10_2).f2.f0)) ∧ w'.cell? ⟨(ad335.add ((x10_2).toNat * 4)).block, (ad335.add ((x10_2).toNat * 4)).off + 3, none⟩ = some (.string ((rd_T39 l1 x10_2).f2.f1)) ∧ w'.cell? (ad340.add ((((rd_T39 l1 x10_2).f0)).toNat * 2)) = some (.int .i64 ((rd_T37 (rd_L4 l2 x8_1) ((rd_T39 l1 x10_2).f0)).f0)) ∧ w'.cell? ⟨(ad340.add ((((rd_T39 l1 x10_2).f0)).toNat * 2)).block, (ad340.add ((((rd_T39 l1 x10_2).f0)).toNat * 2)).off + 1, none⟩ = some (.string ((rd_T37 (rd_L4 l2 x8_1) ((rd_T39 l1 x10_2).f0)).f1))) (ds := []) #[false, false, false, false, false, false, false, false, false, false, false, false, false, false, false, false, false, false, false, false, false, false, false, false, false, false] (by kernel_rfl) rfl rfl ⟨(blk_cell BK331.out 0).trans rfl, (blk_cell BK331.out 1).trans rfl, (blk_cell BK331.out 2).trans rfl, (blk_cell BK331.out 3).trans rfl, ((HB.out.cell (World.block_lt_of_cell? w _ hw335_0)).trans hw335_0), ((HB.out.cell (World.block_lt_of_cell? w _ hw335_1)).trans hw335_1), ((HB.out.cell (World.block_lt_of_cell? w _ hw335_2)).trans hw335_2), ((HB.out.cell (World.block_lt_of_cell? w _ hw335_3)).trans hw335_3), ((HB.out.cell (World.block_lt_of_cell? w _ hw336_0)).trans hw336_0), ((HB.out.cell (World.block_lt_of_cell? w _ hw337_0)).trans hw337_0), ((HB.out.cell (World.block_lt_of_cell? w _ hw337_1)).trans hw337_1), ((HB.out.cell (World.block_lt_of_cell? w _ hw337_2)).trans hw337_2), ((HB.out.cell (World.block_lt_of_cell? w _ hw337_3)).trans hw337_3), hx338_0, ((HB.out.cell (World.block_lt_of_cell? w _ hw339_0)).trans hw339_0), ((HB.out.cell (World.block_lt_of_cell? w _ hw339_1)).trans hw339_1), ((HB.out.cell (World.block_lt_of_cell? w _ hw339_2)).trans hw339_2), ((HB.out.cell (World.block_lt_of_cell? w _ hw339_3)).trans hw339_3), hx340_0, hx340_1⟩ (fun hHeld => ?_); refine with_tabW thresherref19_Keep.tab9 thresherref19_Keep.bits9 (fun HT_ HW_ => ?_)
              generalize wr.drew = w19 at HO_2 HO_7 BK331 HB HL338_0 HR338_0 hx335_0 hx335_1 hx335_2 hx335_3 hx336_0 hx337_0 hx337_1 hx337_2 hx337_3 hx338_0 hx339_0 hx339_1 hx339_2 hx339_3 hx340_0 hx340_1 hHeld ⊢
              refine pure_ (i := 0) (N := some 25) (v := ?_) (a' := ?_) #[true, false, false, false, false, false, false, false, false, false, false, false, false, false, false, false, false, false, false, false, false, false, false, false, false, false] rfl rfl (any_of HT_.out (by kernel_rfl)) (fun _ _ _ h => h) (Or.inl ⟨by rfl, ?_⟩) ?_ ?_
              rotate_left; (intro w'; go_simp; with_reducible rfl); rotate_left; (simp only [Act.put, List.setIfInBounds_toArray, List.set_cons_zero, List.set_cons_succ, i64_w, i32_w]; rfl)
              refine pure_ (i := 2) (N := some 27) (v := ?_) (a' := ?_) #[true, false, true, false, false, false, false, false, false, false, false, false, false, false, false, false, false, false, false, false, false, false, false, false, false, false] rfl rfl (any_of HT_.out (by kernel_rfl)) (fun _ _ _ h => h) (Or.inl ⟨by rfl, ?_⟩) ?_ ?_
              rotate_left; (intro w'; go_simp; with_reducible rfl); rotate_left; (simp only [Act.put, List.setIfInBounds_toArray, List.set_cons_zero, List.set_cons_succ, i64_w, i32_w]; rfl)
              refine pure_ (i := 3) (N := some 28) (v := ?_) (a' := ?_) #[true, false, true, true, false, false, false, false, false, false, false, false, false, false, false, false, false, false, false, false, false, false, false, false, false, false] rfl rfl (any_of HT_.out (by kernel_rfl)) (fun _ _ _ h => h) (Or.inl ⟨by rfl, ?_⟩) ?_ ?_
              rotate_left; (intro w'; go_simp; with_reducible rfl); rotate_left; (simp only [Act.put, List.setIfInBounds_toArray, List.set_cons_zero, List.set_cons_succ, i64_w, i32_w]; rfl)
              refine pure_ (i := 4) (N := some 29) (v := ?_) (a' := ?_) #[true, false, true, true, true, false, false, false, false, false, false, false, false, false, false, false, false, false, false, false, false, false, false, false, false, false] rfl rfl (any_of HT_.out (by kernel_rfl)) (fun _ _ _ h => h) (Or.inl ⟨by rfl, ?_⟩) ?_ ?_
              rotate_left; (intro w'; go_simp; with_reducible rfl); rotate_left; (simp only [Act.put, List.setIfInBounds_toArray, List.set_cons_zero, List.set_cons_succ, i64_w, i32_w]; rfl)
              refine pure_ (i := 5) (N := some 30) (v := ?_) (a' := ?_) #[true, false, true, true, true, true, false, false, false, false, false, false, false, false, false, false, false, false, false, false, false, false, false, false, false, false] rfl rfl (any_of HT_.out (by kernel_rfl)) (fun _ _ _ h => h) (Or.inl ⟨by rfl, ?_⟩) ?_ ?_
              rotate_left; (intro w'; go_simp; with_reducible rfl); rotate_left; (simp only [Act.put, List.setIfInBounds_toArray, List.set_cons_zero, List.set_cons_succ, i64_w, i32_w]; rfl)
              refine pure_ (i := 9) (N := some 34) (v := ?_) (a' := ?_) #[true, false, true, true, true, true, false, false, false, true, false, false, false, false, false, false, false, false, false, false, false, false, false, false, false, false] rfl rfl (any_of HT_.out (by kernel_rfl)) (fun _ _ _ h => h) (Or.inl ⟨by rfl, ?_⟩) ?_ ?_
              rotate_left; (intro w'; go_simp; with_reducible rfl); rotate_left; (simp only [Act.put, List.setIfInBounds_toArray, List.set_cons_zero, List.set_cons_succ, i64_w, i32_w]; rfl)
              refine pure_ (i := 10) (N := some 35) (v := ?_) (a' := ?_) #[true, false, true, true, true, true, false, false, false, true, true, false, false, false, false, false, false, false, false, false, false, false, false, false, false, false] rfl rfl (any_of HT_.out (by kernel_rfl)) (fun _ _ _ h => h) (Or.inl ⟨by rfl, ?_⟩) ?_ ?_
              rotate_left; (intro w'; go_simp; with_reducible rfl); rotate_left; (simp only [Act.put, List.setIfInBounds_toArray, List.set_cons_zero, List.set_cons_succ, i64_w, i32_w]; rfl)
              refine pure_ (i := 11) (N := some 36) (v := ?_) (a' := ?_) #[true, false, true, true, true, true, false, false, false, true, true, true, false, false, false, false, false, false, false, false, false, false, false, false, false, false] rfl rfl (any_of HT_.out (by kernel_rfl)) (fun _ _ _ h => h) (Or.inl ⟨by rfl, ?_⟩) ?_ ?_
              rotate_left; (intro w'; go_simp; with_reducible rfl); rotate_left; (simp only [Act.put, List.setIfInBounds_toArray, List.set_cons_zero, List.set_cons_succ, i64_w, i32_w]; rfl)
              refine pure_ (i := 13) (N := some 38) (v := ?_) (a' := ?_) #[true, false, true, true, true, true, false, false, false, true, true, true, false, true, false, false, false, false, false, false, false, false, false, false, false, false] rfl rfl (any_of HT_.out (by kernel_rfl)) (fun _ _ _ h => h) (Or.inl ⟨by rfl, ?_⟩) ?_ ?_
              rotate_left; (intro w'; go_simp; with_reducible rfl); rotate_left; (simp only [Act.put, List.setIfInBounds_toArray, List.set_cons_zero, List.set_cons_succ, i64_w, i32_w]; rfl)
              refine pure_ (i := 14) (N := some 39) (v := ?_) (a' := ?_) #[true, false, true, true, true, true, false, false, false, true, true, true, false, true, true, false, false, false, false, false, false, false, false, false, false, false] rfl rfl (any_of HT_.out (by kernel_rfl)) (fun _ _ _ h => h) (Or.inl ⟨by rfl, ?_⟩) ?_ ?_
              rotate_left; (intro w'; go_simp; with_reducible rfl); rotate_left; (simp only [Act.put, List.setIfInBounds_toArray, List.set_cons_zero, List.set_cons_succ, i64_w, i32_w]; rfl)
              refine pure_ (i := 15) (N := some 40) (v := ?_) (a' := ?_) #[true, false, true, true, true, true, false, false, false, true, true, true, false, true, true, true, false, false, false, false, false, false, false, false, false, false] rfl rfl (any_of HT_.out (by kernel_rfl)) (fun _ _ _ h => h) (Or.inl ⟨by rfl, ?_⟩) ?_ ?_
              rotate_left; (intro w'; go_simp; with_reducible rfl); rotate_left; (simp only [Act.put, List.setIfInBounds_toArray, List.set_cons_zero, List.set_cons_succ, i64_w, i32_w]; rfl)
              refine pure_ (i := 17) (N := some 42) (v := ?_) (a' := ?_) #[true, false, true, true, true, true, false, false, false, true, true, true, false, true, true, true, false, true, false, false, false, false, false, false, false, false] rfl rfl (any_of HT_.out (by kernel_rfl)) (fun _ _ _ h => h) (Or.inl ⟨by rfl, ?_⟩) ?_ ?_
              rotate_left; (intro w'; go_simp; with_reducible rfl); rotate_left; (simp only [Act.put, List.setIfInBounds_toArray, List.set_cons_zero, List.set_cons_succ, i64_w, i32_w]; rfl)
              refine pure_ (i := 18) (N := some 43) (v := ?_) (a' := ?_) #[true, false, true, true, true, true, false, false, false, true, true, true, false, true, true, true, false, true, true, false, false, false, false, false, false, false] rfl rfl (any_of HT_.out (by kernel_rfl)) (fun _ _ _ h => h) (Or.inl ⟨by rfl, ?_⟩) ?_ ?_
              rotate_left; (intro w'; go_simp; with_reducible rfl); rotate_left; (simp only [Act.put, List.setIfInBounds_toArray, List.set_cons_zero, List.set_cons_succ, i64_w, i32_w]; rfl)
              refine pure_ (i := 19) (N := some 44) (v := ?_) (a' := ?_) #[true, false, true, true, true, true, false, false, false, true, true, true, false, true, true, true, false, true, true, true, false, false, false, false, false, false] rfl rfl (any_of HT_.out (by kernel_rfl)) (fun _ _ _ h => h) (Or.inl ⟨by rfl, ?_⟩) ?_ ?_
              rotate_left; (intro w'; go_simp; with_reducible rfl); rotate_left; (simp only [Act.put, List.setIfInBounds_toArray, List.set_cons_zero, List.set_cons_succ, i64_w, i32_w]; rfl)
              refine pure_ (i := 20) (N := some 45) (v := ?_) (a' := ?_) #[true, false, true, true, true, true, false, false, false, true, true, true, false, true, true, true, false, true, true, true, true, false, false, false, false, false] rfl rfl (any_of HT_.out (by kernel_rfl)) (fun _ _ _ h => h) (Or.inl ⟨by rfl, ?_⟩) ?_ ?_
              rotate_left; (intro w'; go_simp; with_reducible rfl); rotate_left; (simp only [Act.put, List.setIfInBounds_toArray, List.set_cons_zero, List.set_cons_succ, i64_w, i32_w]; rfl)
              refine take_ (i := 1) (N := some 26) (v := ?_) (a' := ?_) #[true, true, true, true, true, true, false, false, false, true, true, true, false, true, true, true, false, true, true, true, true, false, false, false, false, false] rfl rfl (take_ofW HT_.out HW_.out (by kernel_rfl)) (fun _ _ _ h => h) (Or.inl ⟨by rfl, ?_⟩) hHeld ?_ ?_
              rotate_left; (rintro w' ⟨s0, s1, s2, s3, s4, s5, s6, s7, s8, s9, s10, s11, s12, s13, s14, s15, s16, s17, s18, s19⟩; go_simp; with_reducible rfl); rotate_left; (simp only [Act.put, List.setIfInBounds_toArray, List.set_cons_zero, List.set_cons_succ, i64_w, i32_w]; rfl)
              refine take_ (i := 6) (N := some 31) (v := ?_) (a' := ?_) #[true, true, true, true, true, true, true, false, false, true, true, true, false, true, true, true, false, true, true, true, true, false, false, false, false, false] rfl rfl (take_ofW HT_.out HW_.out (by kernel_rfl)) (fun _ _ _ h => h) (Or.inl ⟨by rfl, ?_⟩) hHeld ?_ ?_
              rotate_left; (rintro w' ⟨s0, s1, s2, s3, s4, s5, s6, s7, s8, s9, s10, s11, s12, s13, s14, s15, s16, s17, s18, s19⟩; go_simp; with_reducible rfl); rotate_left; (simp only [Act.put, List.setIfInBounds_toArray, List.set_cons_zero, List.set_cons_succ, i64_w, i32_w]; rfl)
              refine pure_ (i := 7) (N := some 32) (v := ?_) (a' := ?_) #[true, true, true, true, true, true, true, true, false, true, true, true, false, true, true, true, false, true, true, true, true, false, false, false, false, false] rfl rfl (any_of HT_.out (by kernel_rfl)) (fun _ _ _ h => h) (Or.inl ⟨by rfl, ?_⟩) ?_ ?_
              rotate_left; (intro w'; go_simp; with_reducible rfl); rotate_left; (simp only [Act.put, List.setIfInBounds_toArray, List.set_cons_zero, List.set_cons_succ, i64_w, i32_w]; rfl)
              refine take_ (i := 8) (N := some 33) (v := ?_) (a' := ?_) #[true, true, true, true, true, true, true, true, true, true, true, true, false, true, true, true, false, true, true, true, true, false, false, false, false, false] rfl rfl (take_ofW HT_.out HW_.out (by kernel_rfl)) (fun _ _ _ h => h) (Or.inl ⟨by rfl, ?_⟩) hHeld ?_ ?_
              rotate_left; (rintro w' ⟨s0, s1, s2, s3, s4, s5, s6, s7, s8, s9, s10, s11, s12, s13, s14, s15, s16, s17, s18, s19⟩; go_simp; with_reducible rfl); rotate_left; (simp only [Act.put, List.setIfInBounds_toArray, List.set_cons_zero, List.set_cons_succ, i64_w, i32_w]; rfl)
              refine take_ (i := 12) (N := some 37) (v := ?_) (a' := ?_) #[true, true, true, true, true, true, true, true, true, true, true, true, true, true, true, true, false, true, true, true, true, false, false, false, false, false] rfl rfl (take_ofW HT_.out HW_.out (by kernel_rfl)) (fun _ _ _ h => h) (Or.inl ⟨by rfl, ?_⟩) hHeld ?_ ?_
              rotate_left; (rintro w' ⟨s0, s1, s2, s3, s4, s5, s6, s7, s8, s9, s10, s11, s12, s13, s14, s15, s16, s17, s18, s19⟩; go_simp; with_reducible rfl); rotate_left; (simp only [Act.put, List.setIfInBounds_toArray, List.set_cons_zero, List.set_cons_succ, i64_w, i32_w]; rfl)
              refine take_ (i := 16) (N := some 41) (v := ?_) (a' := ?_) #[true, true, true, true, true, true, true, true, true, true, true, true, true, true, true, true, true, true, true, true, true, false, false, false, false, false] rfl rfl (take_ofW HT_.out HW_.out (by kernel_rfl)) (fun _ _ _ h => h) (Or.inl ⟨by rfl, ?_⟩) hHeld ?_ ?_
              rotate_left; (rintro w' ⟨s0, s1, s2, s3, s4, s5, s6, s7, s8, s9, s10, s11, s12, s13, s14, s15, s16, s17, s18, s19⟩; go_simp; with_reducible rfl); rotate_left; (simp only [Act.put, List.setIfInBounds_toArray, List.set_cons_zero, List.set_cons_succ, i64_w, i32_w]; rfl)
              refine take_ (i := 21) (N := some 46) (v := ?_) (a' := ?_) #[true, true, true, true, true, true, true, true, true, true, true, true, true, true, true, true, true, true, true, true, true, true, false, false, false, false] rfl rfl (take_ofW HT_.out HW_.out (by kernel_rfl)) (fun _ _ _ h => h) (Or.inl ⟨by rfl, ?_⟩) hHeld ?_ ?_
              rotate_left; (rintro w' ⟨s0, s1, s2, s3, s4, s5, s6, s7, s8, s9, s10, s11, s12, s13, s14, s15, s16, s17, s18, s19⟩; go_simp; with_reducible rfl); rotate_left; (simp only [Act.put, List.setIfInBounds_toArray, List.set_cons_zero, List.set_cons_succ, i64_w, i32_w]; rfl)
              refine pure_ (i := 22) (N := some 47) (v := ?_) (a' := ?_) #[true, true, true, true, true, true, true, true, true, true, true, true, true, true, true, true, true, true, true, true, true, true, true, false, false, false] rfl rfl (any_of HT_.out (by kernel_rfl)) (fun _ _ _ h => h) (Or.inl ⟨by rfl, ?_⟩) ?_ ?_
              rotate_left; (intro w'; go_simp; with_reducible rfl); rotate_left; (simp only [Act.put, List.setIfInBounds_toArray, List.set_cons_zero, List.set_cons_succ, i64_w, i32_w]; rfl)
              refine take_ (i := 23) (N := some 48) (v := ?_) (a' := ?_) #[true, true, true, true, true, true, true, true, true, true, true, true, true, true, true, true, true, true, true, true, true, true, true, true, false, false] rfl rfl (take_ofW HT_.out HW_.out (by kernel_rfl)) (fun _ _ _ h => h) (Or.inl ⟨by rfl, ?_⟩) hHeld ?_ ?_
              rotate_left; (rintro w' ⟨s0, s1, s2, s3, s4, s5, s6, s7, s8, s9, s10, s11, s12, s13, s14, s15, s16, s17, s18, s19⟩; go_simp; with_reducible rfl); rotate_left; (simp only [Act.put, List.setIfInBounds_toArray, List.set_cons_zero, List.set_cons_succ, i64_w, i32_w]; rfl)
              refine one_ (i := 24) (N := some 49) #[true, true, true, true, true, true, true, true, true, true, true, true, true, true, true, true, true, true, true, true, true, true, true, true, true, false] rfl rfl (one_of HT_.out (by kernel_rfl)) (by decide) (fun K hK => ?_)
              refine goes_ Try.func26 (by kernel_rfl) rfl #[.int .i64 (rd l0_0 ((rd_T39 l1 x10_2).f0)), .agg #[.int .i64 ((rd_T39 l1 x10_2).f0), .int .i64 ((rd_T39 l1 x10_2).f1), .int .i64 ((rd_T39 l1 x10_2).f2.f0), .string ((rd_T39 l1 x10_2).f2.f1)], .agg #[.int .i64 ((rd_T37 (rd_L4 l2 x8_1) ((rd_T39 l1 x10_2).f0)).f0), .string ((rd_T37 (rd_L4 l2 x8_1) ((rd_T39 l1 x10_2).f0)).f1)]] (by rfl) rfl rfl (by (try simp only [List.map_toArray, List.map_cons, List.map_nil]); first | done | rfl | (simp only [List.length_drop, List.length_take]; rfl)) ?_
              with_reducible refine (thresherref19_Holds.calls k2 (rd l0_0 ((rd_T39 l1 x10_2).f0)) ((rd_T39 l1 x10_2).f0) ((rd_T39 l1 x10_2).f1) ((rd_T39 l1 x10_2).f2.f0) ((rd_T39 l1 x10_2).f2.f1) ((rd_T37 (rd_L4 l2 x8_1) ((rd_T39 l1 x10_2).f0)).f0) ((rd_T37 (rd_L4 l2 x8_1) ((rd_T39 l1 x10_2).f0)).f1) t341 _ A15.out).mono ?_
              rintro e w20 ⟨rfl, hb⟩
              have HS13_ := (hb.cell (World.block_lt_of_cell? _ _ (hHeld.2.2.2.2.2.2.2.2.2.2.2.2.2.1))).trans (hHeld.2.2.2.2.2.2.2.2.2.2.2.2.2.1)
              have HS18_ := (hb.cell (World.block_lt_of_cell? _ _ (hHeld.2.2.2.2.2.2.2.2.2.2.2.2.2.2.2.2.2.2.1))).trans (hHeld.2.2.2.2.2.2.2.2.2.2.2.2.2.2.2.2.2.2.1)
              have HS19_ := (hb.cell (World.block_lt_of_cell? _ _ (hHeld.2.2.2.2.2.2.2.2.2.2.2.2.2.2.2.2.2.2.2))).trans (hHeld.2.2.2.2.2.2.2.2.2.2.2.2.2.2.2.2.2.2.2)
              refine ⟨_, rfl, ?_⟩
              have n0_ := Aside0.mk (Kd.V_below (by (with_reducible repeat (first | apply Kd.V_alloc | apply Kd.V_drewN | apply Kd.V_drew)); exact HO_2.out) hb)
              have n1_ := Aside0.mk (Kd.N_below (by (with_reducible repeat (first | apply Kd.N_alloc | apply Kd.N_drewN | apply Kd.N_drew)); exact HO_7.out) hb)
              have n2_ := Aside0.mk (Kd.V_below (by (with_reducible repeat (first | apply Kd.V_alloc | apply Kd.V_drewN | apply Kd.V_drew)); exact HL338_0.out) hb)
              have n3_ := Aside0.mk (blk_below (g := gb331) (o := .cells #[.slice (some ad336) l0_0.length c0_0, .int .i64 a0_1, .int .i64 a0_2, .int .i64 a0_3] 32 (0, 0)) (by (with_reducible repeat (first | refine blk_drewN ?_ _ | refine blk_drew ?_ | refine blk_alloc ?_ _)); exact BK331.out) hb)
              have n4_ := Aside0.mk (Kd.C_below (by repeat (first | (with_reducible exact HR338_0.out) | (with_reducible refine Kd.C_alloc ?_ _) | (with_reducible refine Kd.C_drewN ?_ _) | (with_reducible refine Kd.C_drew ?_) | exact HR338_0.out)) hb)
              have n5_ := Aside0.mk (below_step (by repeat (first | (with_reducible first | exact HB.out | apply below_alloc | apply pw_below_drewN | apply below_drew1 | refine below_set ?_ GE331.out) | exact HB.out)) hb)
              clear HO_2
              clear HO_7
              clear HL338_0
              clear BK331
              clear HR338_0
              clear HB
              have HO_2 := n0_
              have HO_7 := n1_
              have HL338_0 := n2_
              have BK331 := n3_
              have HR338_0 := n4_
              have HB := n5_
              clear n0_ n1_ n2_ n3_ n4_ n5_
              (try clear hb)
              (try clear hb2)
              (try clear hk)
              (try clear hi)
              refine hK.out _ _ ⟨(blk_cell BK331.out 0).trans rfl, (blk_cell BK331.out 1).trans rfl, (blk_cell BK331.out 2).trans rfl, (blk_cell BK331.out 3).trans rfl, ((HB.out.cell (World.block_lt_of_cell? w _ hw335_0)).trans hw335_0), ((HB.out.cell (World.block_lt_of_cell? w _ hw335_1)).trans hw335_1), ((HB.out.cell (World.block_lt_of_cell? w _ hw335_2)).trans hw335_2), ((HB.out.cell (World.block_lt_of_cell? w _ hw335_3)).trans hw335_3), ((HB.out.cell (World.block_lt_of_cell? w _ hw336_0)).trans hw336_0), ((HB.out.cell (World.block_lt_of_cell? w _ hw337_0)).trans hw337_0), ((HB.out.cell (World.block_lt_of_cell? w _ hw337_1)).trans hw337_1), ((HB.out.cell (World.block_lt_of_cell? w _ hw337_2)).trans hw337_2), ((HB.out.cell (World.block_lt_of_cell? w _ hw337_3)).trans hw337_3), HS13_, ((HB.out.cell (World.block_lt_of_cell? w _ hw339_0)).trans hw339_0), ((HB.out.cell (World.block_lt_of_cell? w _ hw339_1)).trans hw339_1), ((HB.out.cell (World.block_lt_of_cell? w _ hw339_2)).trans hw339_2), ((HB.out.cell (World.block_lt_of_cell? w _ hw339_3)).trans hw339_3), HS18_, HS19_⟩ (fun hHeld => ?_)
              clear hK K
              refine norm_ (a' := ?_) ?_ ?_
              rotate_left
              ·show Act.put _ (some 49) _ = _
               simp only [Act.put, List.setIfInBounds_toArray, List.set_cons_zero, List.set_cons_succ, i64_w, i32_w]
               rfl
              refine pure_ (i := 25) (N := some 11) (v := ?_) (a' := ?_) #[true, true, true, true, true, true, true, true, true, true, true, true, true, true, true, true, true, true, true, true, true, true, true, true, true, true] rfl rfl (any_of HT_.out (by kernel_rfl)) (fun _ _ _ h => h) (Or.inl ⟨by rfl, ?_⟩) ?_ ?_
              rotate_left; (intro w'; go_simp; with_reducible rfl); rotate_left; (simp only [Act.put, List.setIfInBounds_toArray, List.set_cons_zero, List.set_cons_succ, i64_w, i32_w]; rfl)
              refine done_ (done_of HT_.out (by kernel_rfl)) ?_
              (try clear HS13_); (try clear HS18_); (try clear HS19_); (try clear hHeld)
              try go_wp2
              go_roundg k2
              case measure => have := HK1.out; have := HK2.out; omega
              case rel => exact ⟨(false), (wrap64 (x10_2 + 1)), (by first | rfl | (simp; done) | (simp [*]; done)), (by first | rfl | (simp; done) | (simp [*]; done)), (by first | exact H' | (subst_vars; exact H')), ⟨by have := HK1.out; have := HK2.out; omega⟩, ⟨by (with_reducible repeat (first | apply Kd.V_alloc | apply Kd.V_drewN | apply Kd.V_drew)); exact HO_2.out⟩, ⟨by (with_reducible repeat (first | apply Kd.N_alloc | apply Kd.N_drewN | apply Kd.N_drew)); exact HO_7.out⟩, ⟨by (with_reducible repeat (first | refine blk_drewN ?_ _ | refine blk_drew ?_ | refine blk_alloc ?_ _)); exact BK331.out⟩, ⟨by repeat (first | (with_reducible first | exact HB.out | apply below_alloc | apply pw_below_drewN | apply below_drew1 | refine below_set ?_ GE331.out) | exact HB.out)⟩⟩
            ·rw [if_neg c14] at H
             exact absurd H (by simp)
           ·rw [if_neg c13] at H
            exact absurd H (by simp)
          ·rw [if_neg c12] at H
           exact absurd H (by simp)
         ·rw [if_neg c11] at H
          exact absurd H (by simp)
        ·rw [if_neg c10] at H
         exact absurd H (by simp)
       ·rw [if_neg c9] at H
        exact absurd H (by simp)
      ·rw [if_neg c8] at H
       have c8b0 : decide (x10_2 < (l1.length : Int)) = false := decide_eq_false c8
       clear c8
       by_cases c21 : x9_2 = true
       ·subst c21
        have H1 : (if 0 ≤ x8_1 then (if x8_1 < (l2.length : Int) then (if x7_1.length < 5864062014805 then (thresherref19_Keep.l0 k2 l1 l2 (x7_1 ++ [rd_L4 l2 x8_1]) (wrap64 (x8_1 + 1)) l0_0 a0_1 a0_2 a0_3) else (none)) else (none)) else (none)) = some r := by rw [if_pos rfl] at H; exact H
        clear H
        have H := H1
        clear H1
        by_cases c22 : 0 ≤ x8_1
        ·rw [if_pos c22] at H
         have c22b0 : decide (0 ≤ x8_1) = true := decide_eq_true c22
         clear c22
         by_cases c23 : x8_1 < (l2.length : Int)
         ·rw [if_pos c23] at H
          have c23b0 : decide (x8_1 < (l2.length : Int)) = true := decide_eq_true c23
          clear c23
          by_cases c24 : x7_1.length < 5864062014805
          ·rw [if_pos c24] at H
           have LMc24 := Aside0.mk c24
           clear c24
           obtain ⟨y343, hy343⟩ : ∃ y_ : List (List (S37)), y_ = (x7_1 ++ [rd_L4 l2 x8_1]) := ⟨_, rfl⟩
           replace H : (thresherref19_Keep.l0 k2 l1 l2 y343 (wrap64 (x8_1 + 1)) l0_0 a0_1 a0_2 a0_3) = some r := by first | (rw [hy343]; with_reducible exact H) | (have H2_ := (Option.bind_some _ _).symm.trans H; rw [hy343]; with_reducible exact H2_) | (have H2_ := (Option.bind_some _ _).symm.trans H; with_reducible exact H2_) | with_reducible exact H | (rw [hy343]; exact H) | exact H
           have Ny343 := Aside0.mk hy343
           clear hy343
           have H' := Aside0.mk H
           clear H
           have p342 : 0 ≤ (x8_1 : Int) := of_decide_eq_true (by first | (with_reducible assumption) | assumption)
           have q342 : x8_1 < (l2.length : Int) := of_decide_eq_true (by first | (with_reducible assumption) | assumption)
           obtain ⟨ad342, A342_0, c342_0, e342, hx342_0, hl342_0, hi342_0⟩ := at_L4 (Kd.V_reads' HO_2.out).2.2 x8_1 p342 q342
           cases e342
           obtain ⟨ce342, hce342, hMe342, hcc342⟩ := Kd.V_get HO_2.out [] x8_1 p342 (by first | exact q342 | exact of_decide_eq_true (by first | (with_reducible assumption) | assumption) | (have e_ := (Kd.V_reads' HO_2.out).1; omega))
           obtain ⟨ua342_0, uc342_0, rfl, ul342_0, ge342_0⟩ := Kd.FK_slice_open hMe342
           have hv342_0 := hcc342 0 _ rfl
           rw [Nat.add_zero, show ((Kd.slice 37 k37)).sz = 1 from rfl, Nat.mul_one] at hv342_0
           replace hv342_0 := Option.some.inj (hv342_0.symm.trans hx342_0)
           injection hv342_0 with hva_ hvn_ hvc_
           rw [hva_] at ge342_0
           rw [hvc_] at ul342_0
           have HL342_0 := Aside0.mk (show Kd.V k37 37 _ w.heap.size _ _ (rd_L4 l2 x8_1) from Kd.V_mk ul342_0 ge342_0)
           clear hva_ hvn_ hvc_ ge342_0 ul342_0
           clear hcc342 hce342
           have HR342_0 := Aside0.mk hi342_0
           have HC342_0 := Aside0.mk hl342_0
           clear hi342_0 hl342_0
           replace p342 := eq_true p342
           replace q342 := eq_true q342
           go_wp2_with (first | ((with_reducible refine gate_builtin (b := .append) (xs := #[.tmp 55, .tmp 60]) rfl ?_); at_builtin; refine Kd.N_append (Kd.slice 37 k37) (w0 := w) w.heap.size rfl (.tmp 55) (.tmp 60) 26 41 (.slice none 0 0) 24 rfl Try.underlying26 info41 rfl (by decide) (by omega) u7 x7_1 (rd_L4 l2 x8_1) [.slice A342_0 (rd_L4 l2 x8_1).length c342_0] (fun k_ => (P2_ k_ ∨ w.heap.size ≤ k_) ∧ k_ ≠ gb331) (fun k_ => ((fun k_ => (P2_ k_ ∨ w.heap.size ≤ k_) ∧ k_ ≠ gb331)) k_ ∧ some k_ ≠ (u7 : Value).ownBlock) rfl rfl ?aP (fun _ hk => hk) ?aF ?aO ?aB ?aS ?aL ?_; (case aP => exact (Kd.FK_slice_mk (Kd.V_reads' (Kd.V_mono (ok' := (fun k_ => ((fun k_ => (P2_ k_ ∨ w.heap.size ≤ k_) ∧ k_ ≠ gb331)) k_ ∧ some k_ ≠ (u7 : Value).ownBlock)) (HL342_0.out) (fun k_ hk => ⟨⟨hk.1, hk.2.2⟩, hk.2.1⟩))).2.1 (Kd.V_F (Kd.V_mono (ok' := (fun k_ => ((fun k_ => (P2_ k_ ∨ w.heap.size ≤ k_) ∧ k_ ≠ gb331)) k_ ∧ some k_ ≠ (u7 : Value).ownBlock)) (HL342_0.out) (fun k_ hk => ⟨⟨hk.1, hk.2.2⟩, hk.2.1⟩))))); (case aB => exact (by repeat (first | (with_reducible first | exact HB.out | apply below_alloc | apply pw_below_drewN | apply below_drew1 | refine below_set ?_ GE331.out) | exact HB.out))); (case aF => exact (fun k_ hk => ⟨(.inr (Nat.le_trans (below_size (by repeat (first | (with_reducible first | exact HB.out | apply below_alloc | apply pw_below_drewN | apply below_drew1 | refine below_set ?_ GE331.out) | exact HB.out))) hk)), Kd.freshB (g := gb331) (o := .cells #[.slice A0_0 l0_0.length c0_0, .int .i64 a0_1, .int .i64 a0_2, .int .i64 a0_3] 32 (0, 0)) (by (with_reducible repeat (first | refine blk_drewN ?_ _ | refine blk_drew ?_ | refine blk_alloc ?_ _)); exact BK331.out) k_ hk⟩)); (case aO => exact (by (with_reducible repeat (first | apply Kd.N_alloc | apply Kd.N_drewN | apply Kd.N_drew)); exact HO_7.out)); (case aS => exact (below_size (by repeat (first | (with_reducible first | exact HB.out | apply below_alloc | apply pw_below_drewN | apply below_drew1 | refine below_set ?_ GE331.out) | exact HB.out)))); (case aL => have := LMc24.out; omega); intro v344 w25 ho hb hg hat; rw [← Ny343.out] at ho; have n0_ := Aside0.mk (Kd.V_afterv (ok := (fun k_ => (P2_ k_ ∨ w.heap.size ≤ k_) ∧ k_ ≠ gb331)) (by (with_reducible repeat (first | apply Kd.V_alloc | apply Kd.V_drewN | apply Kd.V_drew)); exact Kd.V_mono HO_2.out (fun _ hk => ⟨⟨hk.1, hk.2.2⟩, hk.2.1⟩)) hg hat); have n1_ := Aside0.mk (blk_grown (g := gb331) (o := .cells #[.slice A0_0 l0_0.length c0_0, .int .i64 a0_1, .int .i64 a0_2, .int .i64 a0_3] 32 (0, 0)) (by (with_reducible repeat (first | refine blk_drewN ?_ _ | refine blk_drew ?_ | refine blk_alloc ?_ _)); exact BK331.out) hg (Kd.N_ne HO_7.out BK331.out (by decide))); have n2_ := Aside0.mk (Kd.V_afterv (ok := (fun k_ => (P2_ k_ ∨ w.heap.size ≤ k_) ∧ k_ ≠ gb331)) (by (with_reducible repeat (first | apply Kd.V_alloc | apply Kd.V_drewN | apply Kd.V_drew)); exact Kd.V_mono HL342_0.out (fun _ hk => ⟨⟨hk.1, hk.2.2⟩, hk.2.1⟩)) hg hat); have n3_ := Aside0.mk (hb); have n4_ := Aside0.mk (ho); clear HO_2; clear BK331; clear HL342_0; clear HB; clear HO_7; have HO_2 := n0_; have BK331 := n1_; have HL342_0 := n2_; have HB := n3_; have HO345 := n4_; clear n0_ n1_ n2_ n3_ n4_; clear ho hb hg hat))
           go_roundg k2
           case measure => have := HK1.out; have := HK2.out; omega
           case rel => exact ⟨(y343), (wrap64 (x8_1 + 1)), (by first | rfl | (simp; done) | (simp [*]; done)), (by first | exact H' | (subst_vars; exact H')), ⟨by have := HK1.out; have := HK2.out; omega⟩, ⟨by (with_reducible repeat (first | apply Kd.V_alloc | apply Kd.V_drewN | apply Kd.V_drew)); exact Kd.V_mono HO_2.out (fun _ hk => ⟨hk.1.1, ⟨hk.2, hk.1.2⟩⟩)⟩, ⟨by (with_reducible repeat (first | apply Kd.N_alloc | apply Kd.N_drewN | apply Kd.N_drew)); exact HO345.out⟩, ⟨by (with_reducible repeat (first | refine blk_drewN ?_ _ | refine blk_drew ?_ | refine blk_alloc ?_ _)); exact BK331.out⟩, ⟨by repeat (first | (with_reducible first | exact HB.out | apply below_alloc | apply pw_below_drewN | apply below_drew1 | refine below_set ?_ GE331.out) | exact HB.out)⟩⟩
          ·rw [if_neg c24] at H
           exact absurd H (by simp)
         ·rw [if_neg c23] at H
          exact absurd H (by simp)
        ·rw [if_neg c22] at H
         exact absurd H (by simp)
       ·replace c21 := Bool.eq_false_iff.mpr c21
        subst c21
        have H1 : (thresherref19_Keep.l0 k2 l1 l2 x7_1 (wrap64 (x8_1 + 1)) l0_0 a0_1 a0_2 a0_3) = some r := by rw [if_neg (show ¬ (false = true) by decide)] at H; exact H
        clear H
        have H := H1
        clear H1
        have H' := Aside0.mk H
        clear H
        go_wp2
        go_roundg k2
        case measure => have := HK1.out; have := HK2.out; omega
        case rel => exact ⟨(x7_1), (wrap64 (x8_1 + 1)), (by first | rfl | (simp; done) | (simp [*]; done)), (by first | exact H' | (subst_vars; exact H')), ⟨by have := HK1.out; have := HK2.out; omega⟩, ⟨by (with_reducible repeat (first | apply Kd.V_alloc | apply Kd.V_drewN | apply Kd.V_drew)); exact HO_2.out⟩, ⟨by (with_reducible repeat (first | apply Kd.N_alloc | apply Kd.N_drewN | apply Kd.N_drew)); exact HO_7.out⟩, ⟨by (with_reducible repeat (first | refine blk_drewN ?_ _ | refine blk_drew ?_ | refine blk_alloc ?_ _)); exact BK331.out⟩, ⟨by repeat (first | (with_reducible first | exact HB.out | apply below_alloc | apply pw_below_drewN | apply below_drew1 | refine below_set ?_ GE331.out) | exact HB.out)⟩⟩
   ·rw [if_neg c7] at H
    have c7b0 : decide (x8_1 < (l2.length : Int)) = false := decide_eq_false c7
    clear c7
    obtain rfl := Option.some.inj H
    go_wp2
    go_ret
    exact ⟨_, by first | rfl | (simp [errW_none, errW_some] <;> rfl) | (simp [*, errW_none, errW_some] <;> rfl), by (with_reducible repeat (first | apply Kd.N_alloc | apply Kd.N_drewN | apply Kd.N_drew)); exact Kd.N_mono HO_7.out (fun _ hk => hk.1), by repeat (first | (with_reducible first | exact HB.out | apply below_alloc | apply pw_below_drewN | apply below_drew1 | refine below_set ?_ GE331.out) | exact HB.out)⟩

end Go.Proofs.Ytbkpifcjgedjaaa.P

