/- Texts of FilterAll. Merged: Px15. -/
import Derived.Test.YtbkpifcjgedjaaaQFilterAllPx0
-- Written by wip/tools/myprint.py over the kit's print (a program's print; Lean checks it).
namespace Go.Proofs.Ytbkpifcjgedjaaa.P
open Go.RowKit Go.Proofs.YtbkpifcjgedjaaaW.PrintWords Go.Proofs.YtbkpifcjgedjaaaW.PrintLast Go.Proofs.YtbkpifcjgedjaaaW.PrintMore
attribute [local go_sem] max2_int min2_int max_two min_two max_three min_three max_four min_four   -- for this text's walks alone
set_option linter.unusedVariables false
set_option linter.unusedSimpArgs false

-- NOT PRINTED: function 5 (thresherlaw19_FilterMay)

/-! ### thresherlaw19_some: function 21 -/
mutual
def thresherlaw19_some.l0 : Nat → List (S39) → List (S39) → Int → Option ((List (S39)))
 | 0, _, _, _ => none
 | k + 1, x0, x3, x4 => if x4 < (x0.length : Int) then (thresherlaw19_some.j1 k x0 x3 x4 (decide (x4 < 20))) else (thresherlaw19_some.j1 k x0 x3 x4 false)
def thresherlaw19_some.j1 : Nat → List (S39) → List (S39) → Int → Bool → Option ((List (S39)))
 | 0, _, _, _, _ => none
 | k + 1, x0, x3, x4, x14 => if x14 = true then (if 0 ≤ x4 then (if x4 < (x0.length : Int) then (if (((rd_T39 x0 x4).f2.f1).size : Int) > 70 then (if 0 ≤ 70 then (if 70 ≤ (((rd_T39 x0 x4).f2.f1).size : Int) then (thresherlaw19_some.j2 k x0 x3 x4 ((rd_T39 x0 x4).f0) ((rd_T39 x0 x4).f1) ((rd_T39 x0 x4).f2.f0) (((rd_T39 x0 x4).f2.f1).extract 0 70)) else (none)) else (none)) else (thresherlaw19_some.j2 k x0 x3 x4 ((rd_T39 x0 x4).f0) ((rd_T39 x0 x4).f1) ((rd_T39 x0 x4).f2.f0) ((rd_T39 x0 x4).f2.f1))) else (none)) else (none)) else (some x3)
def thresherlaw19_some.j2 : Nat → List (S39) → List (S39) → Int → Int → Int → Int → ByteArray → Option ((List (S39)))
 | 0, _, _, _, _, _, _, _ => none
 | k + 1, x0, x3, x4, x323000, x323001, x323002, x323003 => if x3.length < 3518437208883 then (thresherlaw19_some.l0 k x0 (x3 ++ [(⟨x323000, x323001, (⟨x323002, x323003⟩ : S37)⟩ : S39)]) (wrap64 (x4 + 1))) else (none)
end
def thresherlaw19_some.f (k : Nat) (l0 : List (S39)) : Option ((List (S39))) := thresherlaw19_some.l0 k l0 (([] : List (S39))) 0
theorem thresherlaw19_some.mono_l : ∀ k, (∀ y0 y1 y2, LeO (thresherlaw19_some.l0 k y0 y1 y2) (thresherlaw19_some.l0 (k + 1) y0 y1 y2)) ∧ (∀ y0 y1 y2 y3, LeO (thresherlaw19_some.j1 k y0 y1 y2 y3) (thresherlaw19_some.j1 (k + 1) y0 y1 y2 y3)) ∧ (∀ y0 y1 y2 y3 y4 y5 y6, LeO (thresherlaw19_some.j2 k y0 y1 y2 y3 y4 y5 y6) (thresherlaw19_some.j2 (k + 1) y0 y1 y2 y3 y4 y5 y6))
 | 0 => ⟨fun _ _ _ r h => by simp [thresherlaw19_some.l0] at h, fun _ _ _ _ r h => by simp [thresherlaw19_some.j1] at h, fun _ _ _ _ _ _ _ r h => by simp [thresherlaw19_some.j2] at h⟩
 | k + 1 => by
  obtain ⟨ih0, ih1, ih2⟩ := thresherlaw19_some.mono_l k
  refine ⟨?_, ?_, ?_⟩
  ·intro y0 y1 y2
   unfold thresherlaw19_some.l0
   repeat' first
   | (with_reducible exact ih0 _ _ _)
   | (with_reducible exact ih1 _ _ _ _)
   | (with_reducible exact ih2 _ _ _ _ _ _ _)
   | (with_reducible exact LeO.refl _)
   | (with_reducible exact LeO.none _)
   | (with_reducible refine LeO.ite ?_ ?_)
   | (with_reducible refine LeO.bind ?_ (fun _ => ?_))
   | exact ih0 _ _ _
   | exact ih1 _ _ _ _
   | exact ih2 _ _ _ _ _ _ _
   | exact LeO.none _
   | refine LeO.ite ?_ ?_
   | refine LeO.bind ?_ (fun _ => ?_)
  ·intro y0 y1 y2 y3
   unfold thresherlaw19_some.j1
   repeat' first
   | (with_reducible exact ih0 _ _ _)
   | (with_reducible exact ih1 _ _ _ _)
   | (with_reducible exact ih2 _ _ _ _ _ _ _)
   | (with_reducible exact LeO.refl _)
   | (with_reducible exact LeO.none _)
   | (with_reducible refine LeO.ite ?_ ?_)
   | (with_reducible refine LeO.bind ?_ (fun _ => ?_))
   | exact ih0 _ _ _
   | exact ih1 _ _ _ _
   | exact ih2 _ _ _ _ _ _ _
   | exact LeO.none _
   | refine LeO.ite ?_ ?_
   | refine LeO.bind ?_ (fun _ => ?_)
  ·intro y0 y1 y2 y3 y4 y5 y6
   unfold thresherlaw19_some.j2
   repeat' first
   | (with_reducible exact ih0 _ _ _)
   | (with_reducible exact ih1 _ _ _ _)
   | (with_reducible exact ih2 _ _ _ _ _ _ _)
   | (with_reducible exact LeO.refl _)
   | (with_reducible exact LeO.none _)
   | (with_reducible refine LeO.ite ?_ ?_)
   | (with_reducible refine LeO.bind ?_ (fun _ => ?_))
   | exact ih0 _ _ _
   | exact ih1 _ _ _ _
   | exact ih2 _ _ _ _ _ _ _
   | exact LeO.none _
   | refine LeO.ite ?_ ?_
   | refine LeO.bind ?_ (fun _ => ?_)
theorem thresherlaw19_some.mono : ∀ a0 k, LeO (thresherlaw19_some.f k a0) (thresherlaw19_some.f (k + 1) a0) := by
 intro a0 k
 obtain ⟨ih0, ih1, ih2⟩ := thresherlaw19_some.mono_l k
 unfold thresherlaw19_some.f
 repeat' first
   | (with_reducible exact ih0 _ _ _)
   | (with_reducible exact ih1 _ _ _ _)
   | (with_reducible exact ih2 _ _ _ _ _ _ _)
   | (with_reducible exact LeO.refl _)
   | (with_reducible exact LeO.none _)
   | (with_reducible refine LeO.ite ?_ ?_)
   | (with_reducible refine LeO.bind ?_ (fun _ => ?_))
   | exact ih0 _ _ _
   | exact ih1 _ _ _ _
   | exact ih2 _ _ _ _ _ _ _
   | exact LeO.none _
   | refine LeO.ite ?_ ?_
   | refine LeO.bind ?_ (fun _ => ?_)
set_option maxHeartbeats 8000000 in
set_option maxRecDepth 100000 in
theorem thresherlaw19_some.calls (k : Nat) (A0 : Option Addr) (c0 : Nat) (l0 : List (S39)) (r : List (S39)) (w : World) (hr0 : Kd.C k39 w A0 l0.length l0) (hc0 : l0.length ≤ c0) (h : thresherlaw19_some.f k l0 = some r) :
  Calls Try.prog 21 #[.slice A0 l0.length c0] w fun e w' => ∃ v0_ : Value, e = .returned (v0_) ∧ Kd.R k39 39 w' w.heap.size (fun _ => True) v0_ r ∧ Below w.heap.size w w' := by
 have hu39 := Try.underlying39
 have HR0 := Aside0.mk hr0
 have HC0 := Aside0.mk hc0
 clear hr0 hc0
 have HB := Aside0.mk (Below.refl w.heap.size w)
 have H : (thresherlaw19_some.l0 k l0 (([] : List (S39))) 0) = some r := h
 clear h
 obtain ⟨y318, hy318⟩ : ∃ y_ : List (S39), y_ = (([] : List (S39))) := ⟨_, rfl⟩
 replace H : (thresherlaw19_some.l0 k l0 y318 0) = some r := by first | (rw [hy318]; with_reducible exact H) | (have H2_ := (Option.bind_some _ _).symm.trans H; rw [hy318]; with_reducible exact H2_) | (have H2_ := (Option.bind_some _ _).symm.trans H; with_reducible exact H2_) | with_reducible exact H | (rw [hy318]; exact H) | exact H
 have Ny318 := Aside0.mk hy318
 clear hy318
 have H' := Aside0.mk H
 clear H
 go_enter Try.func21, Try.ntmps21
 go_wp2_with (first | ((with_reducible refine gate_dst (N := 6) rfl ?_); refine Kd.R_lit k39 _ 39 ?hg (N := 6) ?hd (xs := ([] : List (S39))) (inner := []) (ok := fun _ => True) (okp := fun _ => True) ?hr ?hp (fun _ hk => hk) trivial (Below.refl _ _) (Nat.le_refl _) (by simp) ?_; (case hd => rfl); (case hg => rfl); (case hr => first | (go_simp; done) | (go_simp; rfl)); (case hp => exact (Reps.none _ _)); intro v319 w2 ho3 hb hg_ hnew_; clear hg_ hnew_; (first | rw [← Ny318.out] at ho3 | (simp only [Int.reduceToNat] at ho3; rw [← Ny318.out] at ho3)); have n0_ := Aside0.mk (Kd.R_lower ho3 (below_size (by repeat (first | (with_reducible first | exact HB.out | apply below_alloc | apply pw_below_drewN | apply below_drew1) | exact HB.out)))); have n1_ := Aside0.mk (below_step (by repeat (first | (with_reducible first | exact HB.out | apply below_alloc | apply pw_below_drewN | apply below_drew1) | exact HB.out)) hb); clear HB; have HO320 := n0_; have HB := n1_; clear n0_ n1_; clear hb ho3))
 go_loopg [3, 4] k (fun kq v3 v4 w' => ∃ (x3_1 : List (S39)) (x4_1 : Int), v4 = .int .i64 x4_1 ∧ Aside0 (thresherlaw19_some.l0 kq l0 x3_1 x4_1 = some r) ∧ Aside0 (kq ≤ k) ∧ Aside0 (Kd.R k39 39 w' w.heap.size (fun _ => True) v3 x3_1) ∧ Aside0 (Below w.heap.size w w'))
 case atStart => exact ⟨(y318), (0), (by first | rfl | (simp; done) | (simp [*]; done)), H', ⟨Nat.le_refl _⟩, ⟨by (with_reducible repeat (first | apply Kd.R_alloc | apply Kd.R_drewN | apply Kd.R_drew)); exact HO320.out⟩, ⟨by repeat (first | (with_reducible first | exact HB.out | apply below_alloc | apply pw_below_drewN | apply below_drew1) | exact HB.out)⟩⟩
 case round =>
  clear H'
  try clear c2
  try clear p2
  obtain ⟨x3_1, x4_1, rfl, HA, HK1, HO_3, HB⟩ := hrel
  cases gk with
  | zero => exact absurd HA.out (by simp [thresherlaw19_some.l0])
  | succ k1 =>
   have H := HA.out
   clear HA
   simp only [thresherlaw19_some.l0] at H
   have HC4 := Aside0.mk H
   clear H
   go_upto_region 3 with (fail)
   go_cut [14] (fun v14 wc => ∃ (kq : Nat) (x14_3 : Bool), v14 = .bool x14_3 ∧ Aside0 (thresherlaw19_some.j1 kq l0 x3_1 x4_1 x14_3 = some r) ∧ Aside0 (kq ≤ k1) ∧ Aside0 (Kd.R k39 39 wc w.heap.size (fun _ => True) u3 x3_1) ∧ Aside0 (Below w.heap.size w wc))
   case first =>
    have H := HC4.out
    clear HC4
    by_cases c5 : x4_1 < (l0.length : Int)
    ·rw [if_pos c5] at H
     have c5b0 : decide (x4_1 < (l0.length : Int)) = true := decide_eq_true c5
     clear c5
     (first | rw [c5b0] | (simp only [i64_w, i32_w]; rw [c5b0]) | skip)
     have H' := Aside0.mk H
     clear H
     go_wp2
     go_meet
     case rel => exact ⟨_, (decide (x4_1 < 20)), (by first | rfl | (simp; done) | (simp [*]; done)), (by first | exact H' | (subst_vars; exact H')), ⟨by have := HK1.out; first | omega | exact Nat.le_refl _⟩, ⟨by (with_reducible repeat (first | apply Kd.R_alloc | apply Kd.R_drewN | apply Kd.R_drew)); exact HO_3.out⟩, ⟨by repeat (first | (with_reducible first | exact HB.out | apply below_alloc | apply pw_below_drewN | apply below_drew1) | exact HB.out)⟩⟩
    ·rw [if_neg c5] at H
     have c5b0 : decide (x4_1 < (l0.length : Int)) = false := decide_eq_false c5
     clear c5
     (first | rw [c5b0] | (simp only [i64_w, i32_w]; rw [c5b0]) | skip)
     have H' := Aside0.mk H
     clear H
     go_wp2
     go_meet
     case rel => exact ⟨_, (false), (by first | rfl | (simp; done) | (simp [*]; done)), (by first | exact H' | (subst_vars; exact H')), ⟨by have := HK1.out; first | omega | exact Nat.le_refl _⟩, ⟨by (with_reducible repeat (first | apply Kd.R_alloc | apply Kd.R_drewN | apply Kd.R_drew)); exact HO_3.out⟩, ⟨by repeat (first | (with_reducible first | exact HB.out | apply below_alloc | apply pw_below_drewN | apply below_drew1) | exact HB.out)⟩⟩
   case rest =>
    clear HC4
    try clear c2
    try clear p2
    try clear c5
    try clear c5b0
    try clear p2
    obtain ⟨kq, x14_3, rfl, HA, HJ3, HO_3, HB⟩ := hcut
    cases kq with
    | zero => exact absurd HA.out (by simp [thresherlaw19_some.j1])
    | succ kj3 =>
     have H := HA.out
     clear HA
     simp only [thresherlaw19_some.j1] at H
     by_cases c6 : x14_3 = true
     ·subst c6
      have H1 : (if 0 ≤ x4_1 then (if x4_1 < (l0.length : Int) then (if (((rd_T39 l0 x4_1).f2.f1).size : Int) > 70 then (if 0 ≤ 70 then (if 70 ≤ (((rd_T39 l0 x4_1).f2.f1).size : Int) then (thresherlaw19_some.j2 kj3 l0 x3_1 x4_1 ((rd_T39 l0 x4_1).f0) ((rd_T39 l0 x4_1).f1) ((rd_T39 l0 x4_1).f2.f0) (((rd_T39 l0 x4_1).f2.f1).extract 0 70)) else (none)) else (none)) else (thresherlaw19_some.j2 kj3 l0 x3_1 x4_1 ((rd_T39 l0 x4_1).f0) ((rd_T39 l0 x4_1).f1) ((rd_T39 l0 x4_1).f2.f0) ((rd_T39 l0 x4_1).f2.f1))) else (none)) else (none)) = some r := by rw [if_pos rfl] at H; exact H
      clear H
      have H := H1
      clear H1
      by_cases c7 : 0 ≤ x4_1
      ·rw [if_pos c7] at H
       have c7b0 : decide (0 ≤ x4_1) = true := decide_eq_true c7
       clear c7
       by_cases c8 : x4_1 < (l0.length : Int)
       ·rw [if_pos c8] at H
        have c8b0 : decide (x4_1 < (l0.length : Int)) = true := decide_eq_true c8
        clear c8
        have HC9 := Aside0.mk H
        clear H
        have p321 : 0 ≤ (x4_1 : Int) := of_decide_eq_true (by first | (with_reducible assumption) | assumption)
        have q321 : x4_1 < (l0.length : Int) := of_decide_eq_true (by first | (with_reducible assumption) | assumption)
        obtain ⟨ad321, e321, hx321_0, hx321_1, hx321_2, hx321_3⟩ := at_T39 HR0.out x4_1 p321 q321
        cases e321
        replace hx321_0 := (HB.out.cell (World.block_lt_of_cell? w _ hx321_0)).trans hx321_0
        replace hx321_1 := (HB.out.cell (World.block_lt_of_cell? w _ hx321_1)).trans hx321_1
        replace hx321_2 := (HB.out.cell (World.block_lt_of_cell? w _ hx321_2)).trans hx321_2
        replace hx321_3 := (HB.out.cell (World.block_lt_of_cell? w _ hx321_3)).trans hx321_3
        replace p321 := eq_true p321
        replace q321 := eq_true q321
        go_upto_if 25 with (first | ((with_reducible refine gate_dst (N := 5) rfl ?_); refine box_event ?hg (N := 5) ?hd (cs := #[.int .i64 0, .int .i64 0, .int .i64 0, .string (⟨#[]⟩ : ByteArray)]) (t := 39) ?hr ?_; (case hd => rfl); (case hg => rfl); (case hr => first | (go_simp; done) | (go_simp; rfl)); intro gb322 hg w10 hbox hb; have n0_ := Aside0.mk (Kd.R_below (Kd.R_elderB (by (with_reducible repeat (first | apply Kd.R_alloc | apply Kd.R_drewN | apply Kd.R_drew)); exact HO_3.out) gb322 (Nat.le_of_eq hg.symm)) hb); have n1_ := Aside0.mk (below_step (by repeat (first | (with_reducible first | exact HB.out | apply below_alloc | apply pw_below_drewN | apply below_drew1) | exact HB.out)) hb); have n2_ := Aside0.mk (hbox); have n3_ := Aside0.mk ((by rw [hg]; exact (below_size (by repeat (first | (with_reducible first | exact HB.out | apply below_alloc | apply pw_below_drewN | apply below_drew1) | exact HB.out))) : w.heap.size ≤ gb322)); have n4_ := Aside0.mk ((by rw [hg]; exact (below_size (by repeat (first | (with_reducible first | exact HB.out | apply below_alloc | apply pw_below_drewN | apply below_drew1) | exact HB.out))) : w.heap.size ≤ gb322)); clear HO_3; clear HB; have HO_3 := n0_; have HB := n1_; have BK322 := n2_; have GW322 := n3_; have GE322 := n4_; clear n0_ n1_ n2_ n3_ n4_; clear hb hbox hg; have hcz11_0 : w10.cell? ⟨gb322, 0, none⟩ = some (.int .i64 0) := (blk_cell BK322.out 0).trans rfl; have hcz11_1 : w10.cell? ⟨gb322, 1, none⟩ = some (.int .i64 0) := (blk_cell BK322.out 1).trans rfl; have hcz11_2 : w10.cell? ⟨gb322, 2, none⟩ = some (.int .i64 0) := (blk_cell BK322.out 2).trans rfl; have hcz11_3 : w10.cell? ⟨gb322, 3, none⟩ = some (.string (⟨#[]⟩ : ByteArray)) := (blk_cell BK322.out 3).trans rfl; have hfz11_0 := blk_frozen BK322.out 0; have hfz11_1 := blk_frozen BK322.out 1; have hfz11_2 := blk_frozen BK322.out 2; have hfz11_3 := blk_frozen BK322.out 3))
        (try simp only [Act.put, List.setIfInBounds_toArray, List.set_cons_zero, List.set_cons_succ])
        go_cut [] (fun wc => ∃ (kq : Nat) (x323003_8 : ByteArray), Aside0 (thresherlaw19_some.j2 kq l0 x3_1 x4_1 ((rd_T39 l0 x4_1).f0) ((rd_T39 l0 x4_1).f1) ((rd_T39 l0 x4_1).f2.f0) x323003_8 = some r) ∧ Aside0 (kq ≤ kj3) ∧ Aside0 (Kd.R k39 39 wc w.heap.size (fun k_ => k_ ≠ gb322) u3 x3_1) ∧ Aside0 (wc.heap[gb322]? = some (.cells #[.int .i64 ((rd_T39 l0 x4_1).f0), .int .i64 ((rd_T39 l0 x4_1).f1), .int .i64 ((rd_T39 l0 x4_1).f2.f0), .string x323003_8] 39 (0, 0))) ∧ Aside0 (Below w.heap.size w wc))
        case first =>
         have H := HC9.out
         clear HC9
         by_cases c12 : (((rd_T39 l0 x4_1).f2.f1).size : Int) > 70
         ·rw [if_pos c12] at H
          have c12b0 : decide (70 < (((rd_T39 l0 x4_1).f2.f1).size : Int)) = true := decide_eq_true c12
          have c12b1 : decide (70 < ((rd_T39 l0 x4_1).f2.f1).size) = true := decide_eq_true (by omega)
          clear c12
          (first | rw [c12b0] | (simp only [i64_w, i32_w]; rw [c12b0]) | skip)
          by_cases c13 : 0 ≤ 70
          ·rw [if_pos c13] at H
           have c13b0 := eq_true c13
           have c13b1 : decide (0 ≤ 70) = true := decide_eq_true c13
           clear c13
           by_cases c14 : 70 ≤ (((rd_T39 l0 x4_1).f2.f1).size : Int)
           ·rw [if_pos c14] at H
            have c14b0 := eq_true c14
            have c14b1 : decide (70 ≤ (((rd_T39 l0 x4_1).f2.f1).size : Int)) = true := decide_eq_true c14
            clear c14
            have H' := Aside0.mk H
            clear H
            have hcz15_0 : w10.cell? ⟨gb322, 0, none⟩ = some (.int .i64 0) := (blk_cell BK322.out 0).trans rfl
            have hcz15_1 : w10.cell? ⟨gb322, 1, none⟩ = some (.int .i64 0) := (blk_cell BK322.out 1).trans rfl
            have hcz15_2 : w10.cell? ⟨gb322, 2, none⟩ = some (.int .i64 0) := (blk_cell BK322.out 2).trans rfl
            have hcz15_3 : w10.cell? ⟨gb322, 3, none⟩ = some (.string (⟨#[]⟩ : ByteArray)) := (blk_cell BK322.out 3).trans rfl
            have hfz15_0 := blk_frozen BK322.out 0
            have hfz15_1 := blk_frozen BK322.out 1
            have hfz15_2 := blk_frozen BK322.out 2
            have hfz15_3 := blk_frozen BK322.out 3
            go_wp2
            go_meet
            case rel => exact ⟨_, (((rd_T39 l0 x4_1).f2.f1).extract 0 70), (by first | exact H' | (subst_vars; exact H')), ⟨by have := HK1.out; have := HJ3.out; first | omega | exact Nat.le_refl _⟩, ⟨by (with_reducible repeat (first | apply Kd.R_alloc | apply Kd.R_drewN | apply Kd.R_drew)); exact Kd.R_mono (Kd.R_far (p := ⟨gb322, 3, none⟩) (Kd.R_far (p := ⟨gb322, 3, none⟩) (Kd.R_far (p := ⟨gb322, 2, none⟩) (Kd.R_far (p := ⟨gb322, 1, none⟩) (Kd.R_far (p := ⟨gb322, 0, none⟩) (Kd.R_mono HO_3.out (fun k_ hk => (⟨hk, hk.2⟩ : _ ∧ k_ ≠ gb322))) (fun _ hk => hk.2) (.int .i64 ((rd_T39 l0 x4_1).f0))) (fun _ hk => hk.2) (.int .i64 ((rd_T39 l0 x4_1).f1))) (fun _ hk => hk.2) (.int .i64 ((rd_T39 l0 x4_1).f2.f0))) (fun _ hk => hk.2) (.string ((rd_T39 l0 x4_1).f2.f1))) (fun _ hk => hk.2) (.string (((rd_T39 l0 x4_1).f2.f1).extract 0 70))) (fun _ hk => hk.1.2)⟩, ⟨by (with_reducible repeat (first | refine blk_drewN ?_ _ | refine blk_drew ?_ | refine blk_alloc ?_ _)); refine blk_put (cs := #[.int .i64 ((rd_T39 l0 x4_1).f0), .int .i64 ((rd_T39 l0 x4_1).f1), .int .i64 ((rd_T39 l0 x4_1).f2.f0), .string ((rd_T39 l0 x4_1).f2.f1)]) ?_ 3 _ rfl; (with_reducible repeat (first | refine blk_drewN ?_ _ | refine blk_drew ?_ | refine blk_alloc ?_ _)); refine blk_put (cs := #[.int .i64 ((rd_T39 l0 x4_1).f0), .int .i64 ((rd_T39 l0 x4_1).f1), .int .i64 ((rd_T39 l0 x4_1).f2.f0), .string (⟨#[]⟩ : ByteArray)]) ?_ 3 _ rfl; (with_reducible repeat (first | refine blk_drewN ?_ _ | refine blk_drew ?_ | refine blk_alloc ?_ _)); refine blk_put (cs := #[.int .i64 ((rd_T39 l0 x4_1).f0), .int .i64 ((rd_T39 l0 x4_1).f1), .int .i64 0, .string (⟨#[]⟩ : ByteArray)]) ?_ 2 _ rfl; (with_reducible repeat (first | refine blk_drewN ?_ _ | refine blk_drew ?_ | refine blk_alloc ?_ _)); refine blk_put (cs := #[.int .i64 ((rd_T39 l0 x4_1).f0), .int .i64 0, .int .i64 0, .string (⟨#[]⟩ : ByteArray)]) ?_ 1 _ rfl; (with_reducible repeat (first | refine blk_drewN ?_ _ | refine blk_drew ?_ | refine blk_alloc ?_ _)); refine blk_put (cs := #[.int .i64 0, .int .i64 0, .int .i64 0, .string (⟨#[]⟩ : ByteArray)]) ?_ 0 _ rfl; (with_reducible repeat (first | refine blk_drewN ?_ _ | refine blk_drew ?_ | refine blk_alloc ?_ _)); exact BK322.out⟩, ⟨by repeat (first | (with_reducible first | exact HB.out | apply below_alloc | apply pw_below_drewN | apply below_drew1 | refine below_set ?_ GE322.out) | exact HB.out)⟩⟩
           ·rw [if_neg c14] at H
            exact absurd H (by simp)
          ·rw [if_neg c13] at H
           exact absurd H (by simp)
         ·rw [if_neg c12] at H
          have c12b0 : decide (70 < (((rd_T39 l0 x4_1).f2.f1).size : Int)) = false := decide_eq_false c12
          have c12b1 : decide (70 < ((rd_T39 l0 x4_1).f2.f1).size) = false := decide_eq_false (by omega)
          clear c12
          (first | rw [c12b0] | (simp only [i64_w, i32_w]; rw [c12b0]) | skip)
          have H' := Aside0.mk H
          clear H
          go_wp2
          go_meet
          case rel => exact ⟨_, ((rd_T39 l0 x4_1).f2.f1), (by first | exact H' | (subst_vars; exact H')), ⟨by have := HK1.out; have := HJ3.out; first | omega | exact Nat.le_refl _⟩, ⟨by (with_reducible repeat (first | apply Kd.R_alloc | apply Kd.R_drewN | apply Kd.R_drew)); exact Kd.R_mono (Kd.R_far (p := ⟨gb322, 3, none⟩) (Kd.R_far (p := ⟨gb322, 2, none⟩) (Kd.R_far (p := ⟨gb322, 1, none⟩) (Kd.R_far (p := ⟨gb322, 0, none⟩) (Kd.R_mono HO_3.out (fun k_ hk => (⟨hk, hk.2⟩ : _ ∧ k_ ≠ gb322))) (fun _ hk => hk.2) (.int .i64 ((rd_T39 l0 x4_1).f0))) (fun _ hk => hk.2) (.int .i64 ((rd_T39 l0 x4_1).f1))) (fun _ hk => hk.2) (.int .i64 ((rd_T39 l0 x4_1).f2.f0))) (fun _ hk => hk.2) (.string ((rd_T39 l0 x4_1).f2.f1))) (fun _ hk => hk.1.2)⟩, ⟨by (with_reducible repeat (first | refine blk_drewN ?_ _ | refine blk_drew ?_ | refine blk_alloc ?_ _)); refine blk_put (cs := #[.int .i64 ((rd_T39 l0 x4_1).f0), .int .i64 ((rd_T39 l0 x4_1).f1), .int .i64 ((rd_T39 l0 x4_1).f2.f0), .string (⟨#[]⟩ : ByteArray)]) ?_ 3 _ rfl; (with_reducible repeat (first | refine blk_drewN ?_ _ | refine blk_drew ?_ | refine blk_alloc ?_ _)); refine blk_put (cs := #[.int .i64 ((rd_T39 l0 x4_1).f0), .int .i64 ((rd_T39 l0 x4_1).f1), .int .i64 0, .string (⟨#[]⟩ : ByteArray)]) ?_ 2 _ rfl; (with_reducible repeat (first | refine blk_drewN ?_ _ | refine blk_drew ?_ | refine blk_alloc ?_ _)); refine blk_put (cs := #[.int .i64 ((rd_T39 l0 x4_1).f0), .int .i64 0, .int .i64 0, .string (⟨#[]⟩ : ByteArray)]) ?_ 1 _ rfl; (with_reducible repeat (first | refine blk_drewN ?_ _ | refine blk_drew ?_ | refine blk_alloc ?_ _)); refine blk_put (cs := #[.int .i64 0, .int .i64 0, .int .i64 0, .string (⟨#[]⟩ : ByteArray)]) ?_ 0 _ rfl; (with_reducible repeat (first | refine blk_drewN ?_ _ | refine blk_drew ?_ | refine blk_alloc ?_ _)); exact BK322.out⟩, ⟨by repeat (first | (with_reducible first | exact HB.out | apply below_alloc | apply pw_below_drewN | apply below_drew1 | refine below_set ?_ GE322.out) | exact HB.out)⟩⟩
        case rest =>
         clear HC9
         try clear c1
         try clear c2
         try clear p2
         try clear p3
         try clear q3
         try clear hx3
         try clear c5
         try clear c5b0
         try clear c6
         try clear c7
         try clear c7b0
         try clear c8
         try clear c8b0
         try clear c12
         try clear c12b0
         try clear c12b1
         try clear c13
         try clear c13b0
         try clear c13b1
         try clear c14
         try clear c14b0
         try clear c14b1
         try clear hcz11_0
         try clear hcz11_1
         try clear hcz11_2
         try clear hcz11_3
         try clear hcz15_0
         try clear hcz15_1
         try clear hcz15_2
         try clear hcz15_3
         try clear hfz11_0
         try clear hfz11_1
         try clear hfz11_2
         try clear hfz11_3
         try clear hfz15_0
         try clear hfz15_1
         try clear hfz15_2
         try clear hfz15_3
         try clear hx321_0
         try clear hx321_1
         try clear hx321_2
         try clear hx321_3
         try clear p2
         try clear p321
         try clear q321
         obtain ⟨kq, x323003_8, HA, HJ8, HO_3, BK322, HB⟩ := hcut
         cases kq with
         | zero => exact absurd HA.out (by simp [thresherlaw19_some.j2])
         | succ kj8 =>
          have H := HA.out
          clear HA
          simp only [thresherlaw19_some.j2] at H
          by_cases c16 : x3_1.length < 3518437208883
          ·rw [if_pos c16] at H
           have LMc16 := Aside0.mk c16
           clear c16
           obtain ⟨y323, hy323⟩ : ∃ y_ : List (S39), y_ = (x3_1 ++ [(⟨((rd_T39 l0 x4_1).f0), ((rd_T39 l0 x4_1).f1), (⟨((rd_T39 l0 x4_1).f2.f0), x323003_8⟩ : S37)⟩ : S39)]) := ⟨_, rfl⟩
           replace H : (thresherlaw19_some.l0 kj8 l0 y323 (wrap64 (x4_1 + 1))) = some r := by first | (rw [hy323]; with_reducible exact H) | (have H2_ := (Option.bind_some _ _).symm.trans H; rw [hy323]; with_reducible exact H2_) | (have H2_ := (Option.bind_some _ _).symm.trans H; with_reducible exact H2_) | with_reducible exact H | (rw [hy323]; exact H) | exact H
           have Ny323 := Aside0.mk hy323
           clear hy323
           have H' := Aside0.mk H
           clear H
           have hcz17_0 : wc.cell? ⟨gb322, 0, none⟩ = some (.int .i64 ((rd_T39 l0 x4_1).f0)) := (blk_cell BK322.out 0).trans rfl
           have hcz17_1 : wc.cell? ⟨gb322, 1, none⟩ = some (.int .i64 ((rd_T39 l0 x4_1).f1)) := (blk_cell BK322.out 1).trans rfl
           have hcz17_2 : wc.cell? ⟨gb322, 2, none⟩ = some (.int .i64 ((rd_T39 l0 x4_1).f2.f0)) := (blk_cell BK322.out 2).trans rfl
           have hcz17_3 : wc.cell? ⟨gb322, 3, none⟩ = some (.string x323003_8) := (blk_cell BK322.out 3).trans rfl
           have hfz17_0 := blk_frozen BK322.out 0
           have hfz17_1 := blk_frozen BK322.out 1
           have hfz17_2 := blk_frozen BK322.out 2
           have hfz17_3 := blk_frozen BK322.out 3
           go_wp2_with (first | ((with_reducible refine gate_builtin (b := .append) (xs := #[.tmp 32, .tmp 34]) rfl ?_); at_builtin; refine Kd.R_append k39 (w0 := w) w.heap.size rfl (.tmp 32) (.tmp 34) 25 39 (.agg #[(.int .i64 0), (.int .i64 0), (.int .i64 0), (.string ⟨#[]⟩)]) 40 rfl Try.underlying25 info39 rfl (by decide) (by omega) u3 x3_1 (⟨((rd_T39 l0 x4_1).f0), ((rd_T39 l0 x4_1).f1), (⟨((rd_T39 l0 x4_1).f2.f0), x323003_8⟩ : S37)⟩ : S39) [.int .i64 ((rd_T39 l0 x4_1).f0), .int .i64 ((rd_T39 l0 x4_1).f1), .int .i64 ((rd_T39 l0 x4_1).f2.f0), .string x323003_8] (fun k_ => k_ ≠ gb322) (fun _ => False) rfl rfl ?aP (fun _ hk => hk.elim) ?aF ?aO ?aB ?aS ?aL ?_; (case aP => exact k39_mkM _ _ _ (⟨((rd_T39 l0 x4_1).f0), ((rd_T39 l0 x4_1).f1), (⟨((rd_T39 l0 x4_1).f2.f0), x323003_8⟩ : S37)⟩ : S39)); (case aB => exact (by repeat (first | (with_reducible first | exact HB.out | apply below_alloc | apply pw_below_drewN | apply below_drew1 | refine below_set ?_ GE322.out) | exact HB.out))); (case aF => exact (fun k_ hk => Kd.freshB (g := gb322) (o := .cells #[.int .i64 ((rd_T39 l0 x4_1).f0), .int .i64 ((rd_T39 l0 x4_1).f1), .int .i64 ((rd_T39 l0 x4_1).f2.f0), .string x323003_8] 39 (0, 0)) (by (with_reducible repeat (first | refine blk_drewN ?_ _ | refine blk_drew ?_ | refine blk_alloc ?_ _)); exact BK322.out) k_ hk)); (case aO => exact (by (with_reducible repeat (first | apply Kd.R_alloc | apply Kd.R_drewN | apply Kd.R_drew)); exact HO_3.out)); (case aS => exact (below_size (by repeat (first | (with_reducible first | exact HB.out | apply below_alloc | apply pw_below_drewN | apply below_drew1 | refine below_set ?_ GE322.out) | exact HB.out)))); (case aL => have := LMc16.out; omega); intro v324 w18 ho hb hg hat; rw [← Ny323.out] at ho; have n0_ := Aside0.mk (blk_grown (g := gb322) (o := .cells #[.int .i64 ((rd_T39 l0 x4_1).f0), .int .i64 ((rd_T39 l0 x4_1).f1), .int .i64 ((rd_T39 l0 x4_1).f2.f0), .string x323003_8] 39 (0, 0)) (by (with_reducible repeat (first | refine blk_drewN ?_ _ | refine blk_drew ?_ | refine blk_alloc ?_ _)); exact BK322.out) hg (Kd.R_away HO_3.out (fun _ hk => hk))); have n1_ := Aside0.mk (hb); have n2_ := Aside0.mk (ho); clear BK322; clear HB; clear HO_3; have BK322 := n0_; have HB := n1_; have HO325 := n2_; clear n0_ n1_ n2_; clear ho hb hg hat))
           go_roundg kj8
           case measure => have := HK1.out; have := HJ3.out; have := HJ8.out; omega
           case rel => exact ⟨(y323), (wrap64 (x4_1 + 1)), (by first | rfl | (simp; done) | (simp [*]; done)), (by first | exact H' | (subst_vars; exact H')), ⟨by have := HK1.out; have := HJ3.out; have := HJ8.out; omega⟩, ⟨by (with_reducible repeat (first | apply Kd.R_alloc | apply Kd.R_drewN | apply Kd.R_drew)); exact Kd.R_mono HO325.out (fun _ hk => trivial)⟩, ⟨by repeat (first | (with_reducible first | exact HB.out | apply below_alloc | apply pw_below_drewN | apply below_drew1 | refine below_set ?_ GE322.out) | exact HB.out)⟩⟩
          ·rw [if_neg c16] at H
           exact absurd H (by simp)
       ·rw [if_neg c8] at H
        exact absurd H (by simp)
      ·rw [if_neg c7] at H
       exact absurd H (by simp)
     ·replace c6 := Bool.eq_false_iff.mpr c6
      subst c6
      have H1 : (some x3_1) = some r := by rw [if_neg (show ¬ (false = true) by decide)] at H; exact H
      clear H
      have H := H1
      clear H1
      obtain rfl := Option.some.inj H
      go_wp2
      go_ret
      exact ⟨_, by first | rfl | (simp [errW_none, errW_some] <;> rfl) | (simp [*, errW_none, errW_some] <;> rfl), by (with_reducible repeat (first | apply Kd.R_alloc | apply Kd.R_drewN | apply Kd.R_drew)); exact HO_3.out, by repeat (first | (with_reducible first | exact HB.out | apply below_alloc | apply pw_below_drewN | apply below_drew1) | exact HB.out)⟩

end Go.Proofs.Ytbkpifcjgedjaaa.P

