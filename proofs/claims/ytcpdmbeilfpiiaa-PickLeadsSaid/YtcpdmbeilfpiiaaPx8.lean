-- Written by wip/tools/myprint.py over the kit's print (a program's print; Lean checks it).
import Derived.Test.YtcpdmbeilfpiiaaPx0
import Derived.Test.YtcpdmbeilfpiiaaPx1
import Derived.Test.YtcpdmbeilfpiiaaPx3
import Derived.Test.YtcpdmbeilfpiiaaPx5
import Derived.Test.YtcpdmbeilfpiiaaHPick
namespace Go.Proofs.Ytcpdmbeilfpiiaa.P
open Go.RowKit Go.Proofs.YtcpdmbeilfpiiaaW.PrintWords Go.Proofs.YtcpdmbeilfpiiaaW.PrintLast Go.Proofs.YtcpdmbeilfpiiaaW.PrintMore
attribute [local go_sem] max2_int min2_int max_two min_two max_three min_three max_four min_four   -- for this text's walks alone
set_option linter.unusedVariables false
set_option linter.unusedSimpArgs false

/-! ### thresherlaw15_PickLeads: function 6 -/
mutual
def thresherlaw15_PickLeads.l0 : Nat → Bool → List Int → Int → Int → Int → Option (Bool)
  | 0, _, _, _, _, _ => none
  | k + 1, x3, x4, x5, x6, x7 => if x7 < 60 then ((pick_Pick.f x4).bind fun bt239 => ((pick_May.f (x4.length : Int) bt239.1 bt239.2).bind fun t241 => (if (t241 != (decide ((x4.length : Int) ≥ 2))) = true then (thresherlaw15_PickLeads.j1 k x3 x4 x5 x6 x7 bt239.1 bt239.2 t241 true) else (if t241 = true then (thresherlaw15_PickLeads.j1 k x3 x4 x5 x6 x7 bt239.1 bt239.2 t241 false) else (if bt239.1 = 0 then (thresherlaw15_PickLeads.j1 k x3 x4 x5 x6 x7 bt239.1 bt239.2 t241 (bt239.2 != 0)) else (thresherlaw15_PickLeads.j1 k x3 x4 x5 x6 x7 bt239.1 bt239.2 t241 true)))))) else (if x3 = true then (if (x4.length : Int) = (mn x5 1) then (some (decide (x6 ≤ (mx (wrap64 (x5 - 1)) 0)))) else (some false)) else (some false))
def thresherlaw15_PickLeads.j1 : Nat → Bool → List Int → Int → Int → Int → Int → Int → Bool → Bool → Option (Bool)
  | 0, _, _, _, _, _, _, _, _, _ => none
  | k + 1, x3, x4, x5, x6, x7, x8, x9, x10, x51 => if x51 = true then (some false) else (if x10 = true then (thresherlaw15_PickLeads.l1 k x3 x4 x5 x6 x7 x8 x9 0 x8) else (if x3 = true then (if (x4.length : Int) = (mn x5 1) then (some (decide (x6 ≤ (mx (wrap64 (x5 - 1)) 0)))) else (some false)) else (some false)))
def thresherlaw15_PickLeads.l1 : Nat → Bool → List Int → Int → Int → Int → Int → Int → Int → Int → Option (Bool)
  | 0, _, _, _, _, _, _, _, _, _ => none
  | k + 1, x3, x4, x5, x6, x7, x8, x9, x11, x12 => if x12 < x9 then (if 0 ≤ x12 then (if x12 < (x4.length : Int) then (thresherlaw15_PickLeads.l1 k x3 x4 x5 x6 x7 x8 x9 (wrap64 (x11 + (rd x4 x12))) (wrap64 (x12 + 1))) else (none)) else (none)) else ((pick_After.f k x4 x8 x9 x11).bind fun t243 => (if (t243.length : Int) = (wrap64 ((wrap64 ((x4.length : Int) - (wrap64 (x9 - x8)))) + 1)) then (thresherlaw15_PickLeads.l0 k x3 t243 x5 (wrap64 (x6 + 1)) (wrap64 (x7 + 1))) else (some false)))
end
def thresherlaw15_PickLeads.f (k : Nat) (l0 : List Int) : Option (Bool) := (thresherlaw15_shown.f).bind fun t229 => ((some (([] : List Int) : List Int)).bind fun y230 => ((thresherlaw15_few.f l0).bind fun t233 => (if y230.length + t233.length < 17592186044416 then ((some (y230 ++ t233 : List Int)).bind fun y236 => (thresherlaw15_PickLeads.l0 k t229 y236 (y236.length : Int) 0 0)) else (none))))
theorem thresherlaw15_PickLeads.mono_l : ∀ k, (∀ y0 y1 y2 y3 y4, LeO (thresherlaw15_PickLeads.l0 k y0 y1 y2 y3 y4) (thresherlaw15_PickLeads.l0 (k + 1) y0 y1 y2 y3 y4)) ∧ (∀ y0 y1 y2 y3 y4 y5 y6 y7 y8, LeO (thresherlaw15_PickLeads.j1 k y0 y1 y2 y3 y4 y5 y6 y7 y8) (thresherlaw15_PickLeads.j1 (k + 1) y0 y1 y2 y3 y4 y5 y6 y7 y8)) ∧ (∀ y0 y1 y2 y3 y4 y5 y6 y7 y8, LeO (thresherlaw15_PickLeads.l1 k y0 y1 y2 y3 y4 y5 y6 y7 y8) (thresherlaw15_PickLeads.l1 (k + 1) y0 y1 y2 y3 y4 y5 y6 y7 y8))
  | 0 => ⟨fun _ _ _ _ _ r h => by simp [thresherlaw15_PickLeads.l0] at h, fun _ _ _ _ _ _ _ _ _ r h => by simp [thresherlaw15_PickLeads.j1] at h, fun _ _ _ _ _ _ _ _ _ r h => by simp [thresherlaw15_PickLeads.l1] at h⟩
  | k + 1 => by
    obtain ⟨ih0, ih1, ih2⟩ := thresherlaw15_PickLeads.mono_l k
    refine ⟨?_, ?_, ?_⟩
    · intro y0 y1 y2 y3 y4
      unfold thresherlaw15_PickLeads.l0
      repeat' first
      | (with_reducible exact ih0 _ _ _ _ _)
      | (with_reducible exact ih1 _ _ _ _ _ _ _ _ _)
      | (with_reducible exact ih2 _ _ _ _ _ _ _ _ _)
      | (with_reducible exact pick_After.mono _ _ _ _ _)
      | (with_reducible exact LeO.refl _)
      | (with_reducible exact LeO.none _)
      | (with_reducible refine LeO.ite ?_ ?_)
      | (with_reducible refine LeO.bind ?_ (fun _ => ?_))
      | exact ih0 _ _ _ _ _
      | exact ih1 _ _ _ _ _ _ _ _ _
      | exact ih2 _ _ _ _ _ _ _ _ _
      | exact pick_After.mono _ _ _ _ _
      | exact LeO.none _
      | refine LeO.ite ?_ ?_
      | refine LeO.bind ?_ (fun _ => ?_)
    · intro y0 y1 y2 y3 y4 y5 y6 y7 y8
      unfold thresherlaw15_PickLeads.j1
      repeat' first
      | (with_reducible exact ih0 _ _ _ _ _)
      | (with_reducible exact ih1 _ _ _ _ _ _ _ _ _)
      | (with_reducible exact ih2 _ _ _ _ _ _ _ _ _)
      | (with_reducible exact pick_After.mono _ _ _ _ _)
      | (with_reducible exact LeO.refl _)
      | (with_reducible exact LeO.none _)
      | (with_reducible refine LeO.ite ?_ ?_)
      | (with_reducible refine LeO.bind ?_ (fun _ => ?_))
      | exact ih0 _ _ _ _ _
      | exact ih1 _ _ _ _ _ _ _ _ _
      | exact ih2 _ _ _ _ _ _ _ _ _
      | exact pick_After.mono _ _ _ _ _
      | exact LeO.none _
      | refine LeO.ite ?_ ?_
      | refine LeO.bind ?_ (fun _ => ?_)
    · intro y0 y1 y2 y3 y4 y5 y6 y7 y8
      unfold thresherlaw15_PickLeads.l1
      repeat' first
      | (with_reducible exact ih0 _ _ _ _ _)
      | (with_reducible exact ih1 _ _ _ _ _ _ _ _ _)
      | (with_reducible exact ih2 _ _ _ _ _ _ _ _ _)
      | (with_reducible exact pick_After.mono _ _ _ _ _)
      | (with_reducible exact LeO.refl _)
      | (with_reducible exact LeO.none _)
      | (with_reducible refine LeO.ite ?_ ?_)
      | (with_reducible refine LeO.bind ?_ (fun _ => ?_))
      | exact ih0 _ _ _ _ _
      | exact ih1 _ _ _ _ _ _ _ _ _
      | exact ih2 _ _ _ _ _ _ _ _ _
      | exact pick_After.mono _ _ _ _ _
      | exact LeO.none _
      | refine LeO.ite ?_ ?_
      | refine LeO.bind ?_ (fun _ => ?_)
theorem thresherlaw15_PickLeads.mono : ∀ a0 k, LeO (thresherlaw15_PickLeads.f k a0) (thresherlaw15_PickLeads.f (k + 1) a0) := by
  intro a0 k
  obtain ⟨ih0, ih1, ih2⟩ := thresherlaw15_PickLeads.mono_l k
  unfold thresherlaw15_PickLeads.f
  repeat' first
      | (with_reducible exact ih0 _ _ _ _ _)
      | (with_reducible exact ih1 _ _ _ _ _ _ _ _ _)
      | (with_reducible exact ih2 _ _ _ _ _ _ _ _ _)
      | (with_reducible exact pick_After.mono _ _ _ _ _)
      | (with_reducible exact LeO.refl _)
      | (with_reducible exact LeO.none _)
      | (with_reducible refine LeO.ite ?_ ?_)
      | (with_reducible refine LeO.bind ?_ (fun _ => ?_))
      | exact ih0 _ _ _ _ _
      | exact ih1 _ _ _ _ _ _ _ _ _
      | exact ih2 _ _ _ _ _ _ _ _ _
      | exact pick_After.mono _ _ _ _ _
      | exact LeO.none _
      | refine LeO.ite ?_ ?_
      | refine LeO.bind ?_ (fun _ => ?_)
set_option maxHeartbeats 8000000 in
set_option maxRecDepth 100000 in
theorem thresherlaw15_PickLeads.calls (k : Nat) (A0 : Option Addr) (c0 : Nat) (l0 : List Int) (r : Bool) (w : World) (hr0 : Kd.C (Kd.int .i64) w A0 l0.length l0) (hc0 : l0.length ≤ c0) (h : thresherlaw15_PickLeads.f k l0 = some r) :
    Calls Try.prog 6 #[.slice A0 l0.length c0] w fun e w' => e = .returned (.bool r) ∧ Below w.heap.size w w' := by
  have HR0 := Aside0.mk hr0
  have HC0 := Aside0.mk hc0
  clear hr0 hc0
  have HB := Aside0.mk (Below.refl w.heap.size w)
  have H : ((thresherlaw15_shown.f).bind fun t229 => ((some (([] : List Int) : List Int)).bind fun y230 => ((thresherlaw15_few.f l0).bind fun t233 => (if y230.length + t233.length < 17592186044416 then ((some (y230 ++ t233 : List Int)).bind fun y236 => (thresherlaw15_PickLeads.l0 k t229 y236 (y236.length : Int) 0 0)) else (none))))) = some r := h
  clear h
  replace H := Option.bind_eq_some_iff.mp H
  obtain ⟨t229, A20, H⟩ := H
  replace H : ((some (([] : List Int) : List Int)).bind fun y230 => ((thresherlaw15_few.f l0).bind fun t233 => (if y230.length + t233.length < 17592186044416 then ((some (y230 ++ t233 : List Int)).bind fun y236 => (thresherlaw15_PickLeads.l0 k t229 y236 (y236.length : Int) 0 0)) else (none)))) = some r := H
  have A2 := Aside0.mk A20
  clear A20
  obtain ⟨y230, hy230⟩ : ∃ y_ : List Int, y_ = (([] : List Int)) := ⟨_, rfl⟩
  replace H : ((thresherlaw15_few.f l0).bind fun t233 => (if y230.length + t233.length < 17592186044416 then ((some (y230 ++ t233 : List Int)).bind fun y236 => (thresherlaw15_PickLeads.l0 k t229 y236 (y236.length : Int) 0 0)) else (none))) = some r := by first | (rw [hy230]; with_reducible exact H) | (have H2_ := (Option.bind_some _ _).symm.trans H; rw [hy230]; with_reducible exact H2_) | (have H2_ := (Option.bind_some _ _).symm.trans H; with_reducible exact H2_) | with_reducible exact H | (rw [hy230]; exact H) | exact H
  have Ny230 := Aside0.mk hy230
  clear hy230
  replace H := Option.bind_eq_some_iff.mp H
  obtain ⟨t233, A30, H⟩ := H
  replace H : (if y230.length + t233.length < 17592186044416 then ((some (y230 ++ t233 : List Int)).bind fun y236 => (thresherlaw15_PickLeads.l0 k t229 y236 (y236.length : Int) 0 0)) else (none)) = some r := H
  have A3 := Aside0.mk A30
  clear A30
  by_cases c4 : y230.length + t233.length < 17592186044416
  · rw [if_pos c4] at H
    have LMc4 := Aside0.mk c4
    clear c4
    obtain ⟨y236, hy236⟩ : ∃ y_ : List Int, y_ = (y230 ++ t233) := ⟨_, rfl⟩
    replace H : (thresherlaw15_PickLeads.l0 k t229 y236 (y236.length : Int) 0 0) = some r := by first | (rw [hy236]; with_reducible exact H) | (have H2_ := (Option.bind_some _ _).symm.trans H; rw [hy236]; with_reducible exact H2_) | (have H2_ := (Option.bind_some _ _).symm.trans H; with_reducible exact H2_) | with_reducible exact H | (rw [hy236]; exact H) | exact H
    have Ny236 := Aside0.mk hy236
    clear hy236
    have H' := Aside0.mk H
    clear H
    go_enter Try.func6, Try.ntmps6
    go_wp2_with (first | ((with_reducible refine gate_callee (f := 8) rfl ?_); refine goesL_ (some 14) rfl rfl Try.func8 (by kernel_rfl) rfl #[] rfl (by (try simp only [List.map_toArray, List.map_cons, List.map_nil]); first | done | rfl | (simp only [List.length_drop, List.length_take]; rfl)) ?_; (with_reducible refine (thresherlaw15_shown.calls  t229 _ A2.out).mono ?_); rintro e w5 ⟨rfl, hb⟩; refine ⟨_, rfl, ?_⟩; have n0_ := Aside0.mk (below_step (by repeat (first | (with_reducible first | exact HB.out | apply below_alloc | apply pw_below_drewN | apply below_drew1) | exact HB.out)) hb); clear HB; have HB := n0_; clear n0_; (try clear hb); (try clear hb2); (try clear hk); (try clear hi)) | ((with_reducible refine gate_dst (N := 15) rfl ?_); (try (refine gate_guard (by rfl) ?_; dsimp only)); refine Kd.R_lit (Kd.int .i64) _ 3 ?hg (N := 15) ?hd (xs := ([] : List Int)) (inner := []) (ok := fun _ => True) (okp := fun _ => True) ?hr ?hp (fun _ hk => hk) trivial (Below.refl _ _) (Nat.le_refl _) (by simp) ?_; (case hd => rfl); (case hg => rfl); (case hr => first | (go_simp; done) | (go_simp; rfl)); (case hp => exact (Reps.none _ _)); intro v231 w6 ho7 hb hg_ hnew_; clear hg_ hnew_; (first | rw [← Ny230.out] at ho7 | (simp only [Int.reduceToNat] at ho7; rw [← Ny230.out] at ho7)); have n0_ := Aside0.mk (Kd.R_lower ho7 (below_size (by repeat (first | (with_reducible first | exact HB.out | apply below_alloc | apply pw_below_drewN | apply below_drew1) | exact HB.out)))); have n1_ := Aside0.mk (below_step (by repeat (first | (with_reducible first | exact HB.out | apply below_alloc | apply pw_below_drewN | apply below_drew1) | exact HB.out)) hb); clear HB; have HO232 := n0_; have HB := n1_; clear n0_ n1_; clear hb ho7) | ((with_reducible refine gate_callee (f := 9) rfl ?_); refine goesL_ (some 17) rfl rfl Try.func9 (by kernel_rfl) rfl #[.slice A0 l0.length c0] rfl (by (try simp only [List.map_toArray, List.map_cons, List.map_nil]); first | done | rfl | (simp only [List.length_drop, List.length_take]; rfl)) ?_; (with_reducible refine (thresherlaw15_few.calls (fun k_ => k_ < w.heap.size) _ _ l0 t233 _ ?side1 A3.out).mono ?_); (case side1 => exact Kd.V_mk HC0.out (Kd.F_below (Kd.C_F (Kd.heap_int .i64) HR0.out) (by repeat (first | (with_reducible first | exact HB.out | apply below_alloc | apply pw_below_drewN | apply below_drew1) | exact HB.out)))); rintro e w8 ⟨v234, rfl, ho0, hb⟩; refine ⟨_, rfl, ?_⟩; have n0_ := Aside0.mk (Kd.R_below (by (with_reducible repeat (first | apply Kd.R_alloc | apply Kd.R_drewN | apply Kd.R_drew)); exact HO232.out) hb); have n1_ := Aside0.mk (Kd.V_lower (Kd.V_mono (ok' := fun k_ => some k_ ≠ (v231 : Value).ownBlock) ho0 (fun k_ hk_ => Or.elim hk_ (fun hs_ => fun e_ => Nat.not_le.2 hs_ (Kd.R_base HO232.out k_ e_.symm)) (fun hn_ => (Kd.fresh' (Kd.R_lt (by (with_reducible repeat (first | apply Kd.R_alloc | apply Kd.R_drewN | apply Kd.R_drew)); exact HO232.out)) k_ hn_)))) (below_size (by repeat (first | (with_reducible first | exact HB.out | apply below_alloc | apply pw_below_drewN | apply below_drew1) | exact HB.out)))); have n2_ := Aside0.mk (below_step (by repeat (first | (with_reducible first | exact HB.out | apply below_alloc | apply pw_below_drewN | apply below_drew1) | exact HB.out)) hb); clear HO232; clear HB; have HO232 := n0_; have HO235 := n1_; have HB := n2_; clear n0_ n1_ n2_; (try clear hb); (try clear hb2); (try clear hk); (try clear hi); (try clear ho0); obtain ⟨Ao10, co10, eo10⟩ := Kd.V_slice HO235.out; subst eo10) | ((with_reducible refine gate_builtin (b := .append) (xs := #[.tmp 15, .tmp 17]) rfl ?_); (try (refine gate_guard (by rfl) ?_; dsimp only)); at_builtin; refine Kd.R_append_rows (Kd.int .i64) (w0 := w) w.heap.size rfl (.tmp 15) (.tmp 17) 22 3 (.int .i64 0) 8 rfl Try.underlying22 info3 rfl (by decide) (by omega) v231 y230 t233 _ _ _ (fun _ => True) (fun _ => False) rfl rfl ?aO ?aR (fun _ _ h => h) (fun _ h => h.elim) ?aF ?aB ?aS ?aL ?_; (case aR => repeat (first | exact (Kd.V_reads' HO235.out).2.2 | (with_reducible refine Kd.C_alloc ?_ _) | (with_reducible refine Kd.C_drewN ?_ _) | (with_reducible refine Kd.C_drew ?_))); (case aB => exact (by repeat (first | (with_reducible first | exact HB.out | apply below_alloc | apply pw_below_drewN | apply below_drew1) | exact HB.out))); (case aF => exact (fun _ _ => trivial)); (case aO => exact (by (with_reducible repeat (first | apply Kd.R_alloc | apply Kd.R_drewN | apply Kd.R_drew)); exact HO232.out)); (case aS => exact (below_size (by repeat (first | (with_reducible first | exact HB.out | apply below_alloc | apply pw_below_drewN | apply below_drew1) | exact HB.out)))); (case aL => have := LMc4.out; omega); intro v237 w9 ho hb hg hat; rw [← Ny236.out] at ho; have n0_ := Aside0.mk (Kd.V_afterv (ok := (fun _ => True)) (by (with_reducible repeat (first | apply Kd.V_alloc | apply Kd.V_drewN | apply Kd.V_drew)); exact Kd.V_mono HO235.out (fun _ hk => ⟨trivial, hk⟩)) hg hat); have n1_ := Aside0.mk (hb); have n2_ := Aside0.mk (ho); clear HO235; clear HB; clear HO232; have HO235 := n0_; have HB := n1_; have HO238 := n2_; clear n0_ n1_ n2_; clear ho hb hg hat; obtain ⟨Ao11, co11, eo11⟩ := Kd.R_slice HO238.out; subst eo11))
    go_loopg [4, 6, 7] k (fun kq v4 v6 v7 w' => ∃ (x4_1 : List Int) (x6_1 : Int) (x7_1 : Int), v6 = .int .i64 x6_1 ∧ v7 = .int .i64 x7_1 ∧ Aside0 (thresherlaw15_PickLeads.l0 kq t229 x4_1 (y236.length : Int) x6_1 x7_1 = some r) ∧ Aside0 (kq ≤ k) ∧ Aside0 (Kd.R (Kd.int .i64) 3 w' w.heap.size (fun _ => True) v4 x4_1) ∧ Aside0 (Below w.heap.size w w'))
    case atStart => exact ⟨(y236), (0), (0), (by first | rfl | (simp; done) | (simp [*]; done)), (by first | rfl | (simp; done) | (simp [*]; done)), H', ⟨Nat.le_refl _⟩, ⟨by (with_reducible repeat (first | apply Kd.R_alloc | apply Kd.R_drewN | apply Kd.R_drew)); exact HO238.out⟩, ⟨by repeat (first | (with_reducible first | exact HB.out | apply below_alloc | apply pw_below_drewN | apply below_drew1) | exact HB.out)⟩⟩
    case round =>
      clear H'
      try clear p2
      try clear c4
      try clear c6
      try clear c8
      try clear c9
      obtain ⟨x4_1, x6_1, x7_1, rfl, rfl, HA, HK1, HO_4, HB⟩ := hrel
      cases gk with
      | zero => exact absurd HA.out (by simp [thresherlaw15_PickLeads.l0])
      | succ k1 =>
        have H := HA.out
        clear HA
        simp only [thresherlaw15_PickLeads.l0] at H
        by_cases c12 : x7_1 < 60
        · rw [if_pos c12] at H
          have c12b0 : decide (x7_1 < 60) = true := decide_eq_true c12
          clear c12
          replace H := Option.bind_eq_some_iff.mp H
          obtain ⟨⟨t239, t240⟩, A130, H⟩ := H
          replace H : ((pick_May.f (x4_1.length : Int) t239 t240).bind fun t241 => (if (t241 != (decide ((x4_1.length : Int) ≥ 2))) = true then (thresherlaw15_PickLeads.j1 k1 t229 x4_1 (y236.length : Int) x6_1 x7_1 t239 t240 t241 true) else (if t241 = true then (thresherlaw15_PickLeads.j1 k1 t229 x4_1 (y236.length : Int) x6_1 x7_1 t239 t240 t241 false) else (if t239 = 0 then (thresherlaw15_PickLeads.j1 k1 t229 x4_1 (y236.length : Int) x6_1 x7_1 t239 t240 t241 (t240 != 0)) else (thresherlaw15_PickLeads.j1 k1 t229 x4_1 (y236.length : Int) x6_1 x7_1 t239 t240 t241 true))))) = some r := H
          have A13 := Aside0.mk A130
          clear A130
          replace H := Option.bind_eq_some_iff.mp H
          obtain ⟨t241, A140, H⟩ := H
          replace H : (if (t241 != (decide ((x4_1.length : Int) ≥ 2))) = true then (thresherlaw15_PickLeads.j1 k1 t229 x4_1 (y236.length : Int) x6_1 x7_1 t239 t240 t241 true) else (if t241 = true then (thresherlaw15_PickLeads.j1 k1 t229 x4_1 (y236.length : Int) x6_1 x7_1 t239 t240 t241 false) else (if t239 = 0 then (thresherlaw15_PickLeads.j1 k1 t229 x4_1 (y236.length : Int) x6_1 x7_1 t239 t240 t241 (t240 != 0)) else (thresherlaw15_PickLeads.j1 k1 t229 x4_1 (y236.length : Int) x6_1 x7_1 t239 t240 t241 true)))) = some r := H
          have A14 := Aside0.mk A140
          clear A140
          have HC15 := Aside0.mk H
          clear H
          obtain ⟨Ao16, co16, eo16⟩ := Kd.R_slice HO_4.out
          subst eo16
          go_upto_region 10 with (first | ((with_reducible refine gate_callee (f := 10) rfl ?_); refine goesL_ (some 27) rfl rfl Try.func10 (by kernel_rfl) rfl #[.slice Ao16 x4_1.length co16] rfl (by (try simp only [List.map_toArray, List.map_cons, List.map_nil]); first | done | rfl | (simp only [List.length_drop, List.length_take]; rfl)) ?_; (with_reducible refine (pick_Pick.calls _ _ x4_1 t239 t240 _ ?side1 ?side2 A13.out).mono ?_); (case side1 => repeat (first | exact (Kd.R_reads' HO_4.out).2.2 | (with_reducible refine Kd.C_alloc ?_ _) | (with_reducible refine Kd.C_drewN ?_ _) | (with_reducible refine Kd.C_drew ?_))); (case side2 => exact (Kd.R_reads' HO_4.out).2.1); rintro e w17 ⟨rfl, hb⟩; refine ⟨_, rfl, ?_⟩; have n0_ := Aside0.mk (Kd.R_below (by (with_reducible repeat (first | apply Kd.R_alloc | apply Kd.R_drewN | apply Kd.R_drew)); exact HO_4.out) hb); have n1_ := Aside0.mk (below_step (by repeat (first | (with_reducible first | exact HB.out | apply below_alloc | apply pw_below_drewN | apply below_drew1) | exact HB.out)) hb); clear HO_4; clear HB; have HO_4 := n0_; have HB := n1_; clear n0_ n1_; (try clear hb); (try clear hb2); (try clear hk); (try clear hi)) | ((with_reducible refine gate_callee (f := 11) rfl ?_); refine goesL_ (some 34) rfl rfl Try.func11 (by kernel_rfl) rfl #[.int .i64 (x4_1.length : Int), .int .i64 t239, .int .i64 t240] rfl (by (try simp only [List.map_toArray, List.map_cons, List.map_nil]); first | done | rfl | (simp only [List.length_drop, List.length_take]; rfl)) ?_; (with_reducible refine (pick_May.calls (x4_1.length : Int) t239 t240 t241 _ A14.out).mono ?_); rintro e w18 ⟨rfl, hb⟩; refine ⟨_, rfl, ?_⟩; have n0_ := Aside0.mk (Kd.R_below (by (with_reducible repeat (first | apply Kd.R_alloc | apply Kd.R_drewN | apply Kd.R_drew)); exact HO_4.out) hb); have n1_ := Aside0.mk (below_step (by repeat (first | (with_reducible first | exact HB.out | apply below_alloc | apply pw_below_drewN | apply below_drew1) | exact HB.out)) hb); clear HO_4; clear HB; have HO_4 := n0_; have HB := n1_; clear n0_ n1_; (try clear hb); (try clear hb2); (try clear hk); (try clear hi)))
          (try simp only [Act.put, List.setIfInBounds_toArray, List.set_cons_zero, List.set_cons_succ])
          go_cut [51] (fun v51 wc => ∃ (kq : Nat) (x51_14 : Bool), v51 = .bool x51_14 ∧ Aside0 (thresherlaw15_PickLeads.j1 kq t229 x4_1 (y236.length : Int) x6_1 x7_1 t239 t240 t241 x51_14 = some r) ∧ Aside0 (kq ≤ k1) ∧ Aside0 (Kd.R (Kd.int .i64) 3 wc w.heap.size (fun _ => True) (.slice Ao16 x4_1.length co16) x4_1) ∧ Aside0 (Below w.heap.size w wc))
          case first =>
            have H := HC15.out
            clear HC15
            by_cases c19 : (t241 != (decide ((x4_1.length : Int) ≥ 2))) = true
            · rw [if_pos c19] at H
              have c19b0 : (t241 != (decide ((x4_1.length : Int) ≥ 2))) = true := c19
              (try (have c19b1 : decide (t241 = (decide ((x4_1.length : Int) ≥ 2))) = false := by simpa using c19))
              (try (have c19b2 : (t241 == (decide ((x4_1.length : Int) ≥ 2))) = false := by simpa using c19))
              (try (have c19b3 : ¬ (t241 = (decide ((x4_1.length : Int) ≥ 2))) := by simpa using c19))
              clear c19
              (first | rw [c19b0] | (simp only [i64_w, i32_w]; rw [c19b0]) | skip)
              have H' := Aside0.mk H
              clear H
              go_wp2
              go_meet
              case rel => exact ⟨_, (true), (by first | rfl | (simp; done) | (simp [*]; done)), (by first | exact H' | (subst_vars; exact H')), ⟨by have := HK1.out; first | omega | exact Nat.le_refl _⟩, ⟨by (with_reducible repeat (first | apply Kd.R_alloc | apply Kd.R_drewN | apply Kd.R_drew)); exact HO_4.out⟩, ⟨by repeat (first | (with_reducible first | exact HB.out | apply below_alloc | apply pw_below_drewN | apply below_drew1) | exact HB.out)⟩⟩
            · rw [if_neg c19] at H
              have c19b0 : (t241 != (decide ((x4_1.length : Int) ≥ 2))) = false := by simpa using c19
              (try (have c19b1 : decide (t241 = (decide ((x4_1.length : Int) ≥ 2))) = true := by simpa using c19))
              (try (have c19b2 : (t241 == (decide ((x4_1.length : Int) ≥ 2))) = true := by simpa using c19))
              clear c19
              (first | rw [c19b0] | (simp only [i64_w, i32_w]; rw [c19b0]) | skip)
              by_cases c20 : t241 = true
              · subst c20
                have H1 : (thresherlaw15_PickLeads.j1 k1 t229 x4_1 (y236.length : Int) x6_1 x7_1 t239 t240 true false) = some r := by rw [if_pos rfl] at H; exact H
                clear H
                have H := H1
                clear H1
                have H' := Aside0.mk H
                clear H
                go_wp2
                go_meet
                case rel => exact ⟨_, (false), (by first | rfl | (simp; done) | (simp [*]; done)), (by first | exact H' | (subst_vars; exact H')), ⟨by have := HK1.out; first | omega | exact Nat.le_refl _⟩, ⟨by (with_reducible repeat (first | apply Kd.R_alloc | apply Kd.R_drewN | apply Kd.R_drew)); exact HO_4.out⟩, ⟨by repeat (first | (with_reducible first | exact HB.out | apply below_alloc | apply pw_below_drewN | apply below_drew1) | exact HB.out)⟩⟩
              · replace c20 := Bool.eq_false_iff.mpr c20
                subst c20
                have H1 : (if t239 = 0 then (thresherlaw15_PickLeads.j1 k1 t229 x4_1 (y236.length : Int) x6_1 x7_1 t239 t240 false (t240 != 0)) else (thresherlaw15_PickLeads.j1 k1 t229 x4_1 (y236.length : Int) x6_1 x7_1 t239 t240 false true)) = some r := by rw [if_neg (show ¬ (false = true) by decide)] at H; exact H
                clear H
                have H := H1
                clear H1
                by_cases c21 : t239 = 0
                · rw [if_pos c21] at H
                  have c21b0 : (t239 == 0) = true := beq_iff_eq.mpr c21
                  have c21b1 : (t239 != 0) = false := bne_eq_false_iff_eq.mpr c21
                  clear c21
                  have H' := Aside0.mk H
                  clear H
                  go_wp2
                  go_meet
                  case rel => exact ⟨_, ((t240 != 0)), (by first | rfl | (simp; done) | (simp [*]; done)), (by first | exact H' | (subst_vars; exact H')), ⟨by have := HK1.out; first | omega | exact Nat.le_refl _⟩, ⟨by (with_reducible repeat (first | apply Kd.R_alloc | apply Kd.R_drewN | apply Kd.R_drew)); exact HO_4.out⟩, ⟨by repeat (first | (with_reducible first | exact HB.out | apply below_alloc | apply pw_below_drewN | apply below_drew1) | exact HB.out)⟩⟩
                · rw [if_neg c21] at H
                  have c21b0 : (t239 == 0) = false := beq_eq_false_iff_ne.mpr c21
                  have c21b1 : (t239 != 0) = true := bne_iff_ne.mpr c21
                  have H' := Aside0.mk H
                  clear H
                  go_wp2
                  go_meet
                  case rel => exact ⟨_, (true), (by first | rfl | (simp; done) | (simp [*]; done)), (by first | exact H' | (subst_vars; exact H')), ⟨by have := HK1.out; first | omega | exact Nat.le_refl _⟩, ⟨by (with_reducible repeat (first | apply Kd.R_alloc | apply Kd.R_drewN | apply Kd.R_drew)); exact HO_4.out⟩, ⟨by repeat (first | (with_reducible first | exact HB.out | apply below_alloc | apply pw_below_drewN | apply below_drew1) | exact HB.out)⟩⟩
          case rest =>
            clear HC15
            try clear c1
            try clear c2
            try clear p2
            try clear c4
            try clear c6
            try clear c8
            try clear c9
            try clear c10
            try clear c11
            try clear c12
            try clear c12b0
            try clear c19
            try clear c19b0
            try clear c19b1
            try clear c19b2
            try clear c20
            try clear c21
            try clear c21b0
            try clear c21b1
            try clear p2
            obtain ⟨kq, x51_14, rfl, HA, HJ14, HO_4, HB⟩ := hcut
            cases kq with
            | zero => exact absurd HA.out (by simp [thresherlaw15_PickLeads.j1])
            | succ kj14 =>
              have H := HA.out
              clear HA
              simp only [thresherlaw15_PickLeads.j1] at H
              by_cases c22 : x51_14 = true
              · subst c22
                have H1 : (some false) = some r := by rw [if_pos rfl] at H; exact H
                clear H
                have H := H1
                clear H1
                obtain rfl := Option.some.inj H
                go_wp2
                go_ret
                exact ⟨by first | rfl | (simp [errW_none, errW_some] <;> rfl) | (simp [*, errW_none, errW_some] <;> rfl), by repeat (first | (with_reducible first | exact HB.out | apply below_alloc | apply pw_below_drewN | apply below_drew1) | exact HB.out)⟩
              · replace c22 := Bool.eq_false_iff.mpr c22
                subst c22
                have H1 : (if t241 = true then (thresherlaw15_PickLeads.l1 kj14 t229 x4_1 (y236.length : Int) x6_1 x7_1 t239 t240 0 t239) else (if t229 = true then (if (x4_1.length : Int) = (mn (y236.length : Int) 1) then (some (decide (x6_1 ≤ (mx (wrap64 ((y236.length : Int) - 1)) 0)))) else (some false)) else (some false))) = some r := by rw [if_neg (show ¬ (false = true) by decide)] at H; exact H
                clear H
                have H := H1
                clear H1
                by_cases c23 : t241 = true
                · subst c23
                  have H1 : (thresherlaw15_PickLeads.l1 kj14 t229 x4_1 (y236.length : Int) x6_1 x7_1 t239 t240 0 t239) = some r := by rw [if_pos rfl] at H; exact H
                  clear H
                  have H := H1
                  clear H1
                  have H' := Aside0.mk H
                  clear H
                  go_wp2
                  go_loopg [11, 12] kj14 (fun kq v11 v12 w' => ∃ (x11_3 : Int) (x12_3 : Int), v11 = .int .i64 x11_3 ∧ v12 = .int .i64 x12_3 ∧ Aside0 (thresherlaw15_PickLeads.l1 kq t229 x4_1 (y236.length : Int) x6_1 x7_1 t239 t240 x11_3 x12_3 = some r) ∧ Aside0 (kq ≤ kj14) ∧ Aside0 (Kd.R (Kd.int .i64) 3 w' w.heap.size (fun _ => True) (.slice Ao16 x4_1.length co16) x4_1) ∧ Aside0 (Below w.heap.size w w'))
                  case atStart => exact ⟨(0), (t239), (by first | rfl | (simp; done) | (simp [*]; done)), (by first | rfl | (simp; done) | (simp [*]; done)), H', ⟨Nat.le_refl _⟩, ⟨by (with_reducible repeat (first | apply Kd.R_alloc | apply Kd.R_drewN | apply Kd.R_drew)); exact HO_4.out⟩, ⟨by repeat (first | (with_reducible first | exact HB.out | apply below_alloc | apply pw_below_drewN | apply below_drew1) | exact HB.out)⟩⟩
                  case round =>
                    clear H'
                    try clear c1
                    try clear c2
                    try clear p2
                    try clear c4
                    try clear c6
                    try clear p6
                    try clear c8
                    try clear c9
                    try clear c10
                    try clear c11
                    try clear c12
                    try clear c12b0
                    try clear c19
                    try clear c19b0
                    try clear c19b1
                    try clear c19b2
                    try clear c20
                    try clear c21
                    try clear c21b0
                    try clear c21b1
                    try clear c22
                    try clear c23
                    try clear p2
                    obtain ⟨x11_3, x12_3, rfl, rfl, HA, HK3, HO_4, HB⟩ := hrel
                    cases gk with
                    | zero => exact absurd HA.out (by simp [thresherlaw15_PickLeads.l1])
                    | succ k3 =>
                      have H := HA.out
                      clear HA
                      simp only [thresherlaw15_PickLeads.l1] at H
                      by_cases c24 : x12_3 < t240
                      · rw [if_pos c24] at H
                        have c24b0 : decide (x12_3 < t240) = true := decide_eq_true c24
                        clear c24
                        by_cases c25 : 0 ≤ x12_3
                        · rw [if_pos c25] at H
                          have c25b0 : decide (0 ≤ x12_3) = true := decide_eq_true c25
                          clear c25
                          by_cases c26 : x12_3 < (x4_1.length : Int)
                          · rw [if_pos c26] at H
                            have c26b0 : decide (x12_3 < (x4_1.length : Int)) = true := decide_eq_true c26
                            clear c26
                            have H' := Aside0.mk H
                            clear H
                            have p242 : 0 ≤ (x12_3 : Int) := of_decide_eq_true (by first | (with_reducible assumption) | assumption)
                            have q242 : x12_3 < (x4_1.length : Int) := of_decide_eq_true (by first | (with_reducible assumption) | assumption)
                            obtain ⟨ad242, e242, hx242_0⟩ := Kd.at_int (Kd.R_reads' HO_4.out).2.2 x12_3 p242 q242
                            cases e242
                            replace p242 := eq_true p242
                            replace q242 := eq_true q242
                            go_wp2
                            go_roundg k3
                            case measure => have := HK1.out; have := HJ14.out; have := HK3.out; omega
                            case rel => exact ⟨(wrap64 (x11_3 + (rd x4_1 x12_3))), (wrap64 (x12_3 + 1)), (by first | rfl | (simp; done) | (simp [*]; done)), (by first | rfl | (simp; done) | (simp [*]; done)), (by first | exact H' | (subst_vars; exact H')), ⟨by have := HK1.out; have := HJ14.out; have := HK3.out; omega⟩, ⟨by (with_reducible repeat (first | apply Kd.R_alloc | apply Kd.R_drewN | apply Kd.R_drew)); exact HO_4.out⟩, ⟨by repeat (first | (with_reducible first | exact HB.out | apply below_alloc | apply pw_below_drewN | apply below_drew1) | exact HB.out)⟩⟩
                          · rw [if_neg c26] at H
                            exact absurd H (by simp)
                        · rw [if_neg c25] at H
                          exact absurd H (by simp)
                      · rw [if_neg c24] at H
                        have c24b0 : decide (x12_3 < t240) = false := decide_eq_false c24
                        clear c24
                        replace H := Option.bind_eq_some_iff.mp H
                        obtain ⟨t243, A270, H⟩ := H
                        replace H : (if (t243.length : Int) = (wrap64 ((wrap64 ((x4_1.length : Int) - (wrap64 (t240 - t239)))) + 1)) then (thresherlaw15_PickLeads.l0 k3 t229 t243 (y236.length : Int) (wrap64 (x6_1 + 1)) (wrap64 (x7_1 + 1))) else (some false)) = some r := H
                        have A27 := Aside0.mk A270
                        clear A270
                        by_cases c28 : (t243.length : Int) = (wrap64 ((wrap64 ((x4_1.length : Int) - (wrap64 (t240 - t239)))) + 1))
                        · rw [if_pos c28] at H
                          have c28b0 : ((t243.length : Int) == (wrap64 ((wrap64 ((x4_1.length : Int) - (wrap64 (t240 - t239)))) + 1))) = true := beq_iff_eq.mpr c28
                          have c28b1 : ((t243.length : Int) != (wrap64 ((wrap64 ((x4_1.length : Int) - (wrap64 (t240 - t239)))) + 1))) = false := bne_eq_false_iff_eq.mpr c28
                          clear c28
                          have H' := Aside0.mk H
                          clear H
                          go_wp2_with (first | ((with_reducible refine gate_callee (f := 14) rfl ?_); refine goesL_ (some 72) rfl rfl Try.func14 (by kernel_rfl) rfl #[.slice Ao16 x4_1.length co16, .int .i64 t239, .int .i64 t240, .int .i64 x11_3] rfl (by (try simp only [List.map_toArray, List.map_cons, List.map_nil]); first | done | rfl | (simp only [List.length_drop, List.length_take]; rfl)) ?_; (with_reducible refine (pick_After.calls k3 (fun k_ => some k_ = (.slice Ao16 x4_1.length co16 : Value).ownBlock) _ _ x4_1 t239 t240 x11_3 t243 _ ?side1 A27.out).mono ?_); (case side1 => exact Kd.R_V (Kd.R_tight rfl (HO_4.out))); rintro e w29 ⟨v244, rfl, ho0, hb⟩; refine ⟨_, rfl, ?_⟩; have n0_ := Aside0.mk (Kd.R_elder' (by (with_reducible repeat (first | apply Kd.R_alloc | apply Kd.R_drewN | apply Kd.R_drew)); exact HO_4.out) (Kd.R_base ho0) hb); have n1_ := Aside0.mk (Kd.R_lower (Kd.R_new' (Kd.R_mono (ok' := fun k_ => True) ho0 (fun _ hk_ => trivial)) (Kd.R_lt (by (with_reducible repeat (first | apply Kd.R_alloc | apply Kd.R_drewN | apply Kd.R_drew)); exact HO_4.out))) (below_size (by repeat (first | (with_reducible first | exact HB.out | apply below_alloc | apply pw_below_drewN | apply below_drew1) | exact HB.out)))); have n2_ := Aside0.mk (below_step (by repeat (first | (with_reducible first | exact HB.out | apply below_alloc | apply pw_below_drewN | apply below_drew1) | exact HB.out)) hb); clear HO_4; clear HB; have HO_4 := n0_; have HO245 := n1_; have HB := n2_; clear n0_ n1_ n2_; (try clear hb); (try clear hb2); (try clear hk); (try clear hi); (try clear ho0); obtain ⟨Ao30, co30, eo30⟩ := Kd.R_slice HO245.out; subst eo30))
                          go_roundg k3
                          case measure => have := HK1.out; have := HJ14.out; have := HK3.out; omega
                          case rel => exact ⟨(t243), (wrap64 (x6_1 + 1)), (wrap64 (x7_1 + 1)), (by first | rfl | (simp; done) | (simp [*]; done)), (by first | rfl | (simp; done) | (simp [*]; done)), (by first | exact H' | (subst_vars; exact H')), ⟨by have := HK1.out; have := HJ14.out; have := HK3.out; omega⟩, ⟨by (with_reducible repeat (first | apply Kd.R_alloc | apply Kd.R_drewN | apply Kd.R_drew)); exact Kd.R_mono HO245.out (fun _ hk => trivial)⟩, ⟨by repeat (first | (with_reducible first | exact HB.out | apply below_alloc | apply pw_below_drewN | apply below_drew1) | exact HB.out)⟩⟩
                        · rw [if_neg c28] at H
                          have c28b0 : ((t243.length : Int) == (wrap64 ((wrap64 ((x4_1.length : Int) - (wrap64 (t240 - t239)))) + 1))) = false := beq_eq_false_iff_ne.mpr c28
                          have c28b1 : ((t243.length : Int) != (wrap64 ((wrap64 ((x4_1.length : Int) - (wrap64 (t240 - t239)))) + 1))) = true := bne_iff_ne.mpr c28
                          obtain rfl := Option.some.inj H
                          go_wp2_with (first | ((with_reducible refine gate_callee (f := 14) rfl ?_); refine goesL_ (some 72) rfl rfl Try.func14 (by kernel_rfl) rfl #[.slice Ao16 x4_1.length co16, .int .i64 t239, .int .i64 t240, .int .i64 x11_3] rfl (by (try simp only [List.map_toArray, List.map_cons, List.map_nil]); first | done | rfl | (simp only [List.length_drop, List.length_take]; rfl)) ?_; (with_reducible refine (pick_After.calls k3 (fun k_ => some k_ = (.slice Ao16 x4_1.length co16 : Value).ownBlock) _ _ x4_1 t239 t240 x11_3 t243 _ ?side1 A27.out).mono ?_); (case side1 => exact Kd.R_V (Kd.R_tight rfl (HO_4.out))); rintro e w31 ⟨v244, rfl, ho0, hb⟩; refine ⟨_, rfl, ?_⟩; have n0_ := Aside0.mk (Kd.R_elder' (by (with_reducible repeat (first | apply Kd.R_alloc | apply Kd.R_drewN | apply Kd.R_drew)); exact HO_4.out) (Kd.R_base ho0) hb); have n1_ := Aside0.mk (Kd.R_lower (Kd.R_new' (Kd.R_mono (ok' := fun k_ => True) ho0 (fun _ hk_ => trivial)) (Kd.R_lt (by (with_reducible repeat (first | apply Kd.R_alloc | apply Kd.R_drewN | apply Kd.R_drew)); exact HO_4.out))) (below_size (by repeat (first | (with_reducible first | exact HB.out | apply below_alloc | apply pw_below_drewN | apply below_drew1) | exact HB.out)))); have n2_ := Aside0.mk (below_step (by repeat (first | (with_reducible first | exact HB.out | apply below_alloc | apply pw_below_drewN | apply below_drew1) | exact HB.out)) hb); clear HO_4; clear HB; have HO_4 := n0_; have HO245 := n1_; have HB := n2_; clear n0_ n1_ n2_; (try clear hb); (try clear hb2); (try clear hk); (try clear hi); (try clear ho0); obtain ⟨Ao32, co32, eo32⟩ := Kd.R_slice HO245.out; subst eo32))
                          go_ret
                          exact ⟨by first | rfl | (simp [errW_none, errW_some] <;> rfl) | (simp [*, errW_none, errW_some] <;> rfl), by repeat (first | (with_reducible first | exact HB.out | apply below_alloc | apply pw_below_drewN | apply below_drew1) | exact HB.out)⟩
                · replace c23 := Bool.eq_false_iff.mpr c23
                  subst c23
                  have H1 : (if t229 = true then (if (x4_1.length : Int) = (mn (y236.length : Int) 1) then (some (decide (x6_1 ≤ (mx (wrap64 ((y236.length : Int) - 1)) 0)))) else (some false)) else (some false)) = some r := by rw [if_neg (show ¬ (false = true) by decide)] at H; exact H
                  clear H
                  have H := H1
                  clear H1
                  by_cases c33 : t229 = true
                  · subst c33
                    have H1 : (if (x4_1.length : Int) = (mn (y236.length : Int) 1) then (some (decide (x6_1 ≤ (mx (wrap64 ((y236.length : Int) - 1)) 0)))) else (some false)) = some r := by rw [if_pos rfl] at H; exact H
                    clear H
                    have H := H1
                    clear H1
                    obtain ⟨ji34, hji34⟩ : ∃ j_ : Int, (mn (y236.length : Int) 1) = j_ := ⟨_, rfl⟩
                    replace H : (if (x4_1.length : Int) = (ji34) then (some (decide (x6_1 ≤ (mx (wrap64 ((y236.length : Int) - 1)) 0)))) else (some false)) = some r := by first | (rw [hji34] at H; exact H) | (simp only [hji34] at H ⊢; exact H)
                    have hji34_ : (if 1 < (y236.length : Int) then 1 else (y236.length : Int)) = ji34 := hji34
                    by_cases c35 : (x4_1.length : Int) = (ji34)
                    · rw [if_pos c35] at H
                      have c35b0 : ((x4_1.length : Int) == (ji34)) = true := beq_iff_eq.mpr c35
                      have c35b1 : ((x4_1.length : Int) != (ji34)) = false := bne_eq_false_iff_eq.mpr c35
                      clear c35
                      obtain ⟨ji36, hji36⟩ : ∃ j_ : Int, (mx (wrap64 ((y236.length : Int) - 1)) 0) = j_ := ⟨_, rfl⟩
                      replace H : (some (decide (x6_1 ≤ (ji36)))) = some r := by first | (rw [hji36] at H; exact H) | (simp only [hji36] at H ⊢; exact H)
                      have hji36_ : (if (wrap64 ((y236.length : Int) - 1)) < 0 then 0 else (wrap64 ((y236.length : Int) - 1))) = ji36 := hji36
                      obtain rfl := Option.some.inj H
                      go_wp2
                      go_ret
                      exact ⟨by first | rfl | (simp [errW_none, errW_some] <;> rfl) | (simp only [← hji34, ← hji36]; first | rfl | (simp [errW_none, errW_some] <;> rfl)) | (simp [*, errW_none, errW_some] <;> rfl), by repeat (first | (with_reducible first | exact HB.out | apply below_alloc | apply pw_below_drewN | apply below_drew1) | exact HB.out)⟩
                    · rw [if_neg c35] at H
                      have c35b0 : ((x4_1.length : Int) == (ji34)) = false := beq_eq_false_iff_ne.mpr c35
                      have c35b1 : ((x4_1.length : Int) != (ji34)) = true := bne_iff_ne.mpr c35
                      obtain rfl := Option.some.inj H
                      go_wp2
                      go_ret
                      exact ⟨by first | rfl | (simp [errW_none, errW_some] <;> rfl) | (simp only [← hji34]; first | rfl | (simp [errW_none, errW_some] <;> rfl)) | (simp [*, errW_none, errW_some] <;> rfl), by repeat (first | (with_reducible first | exact HB.out | apply below_alloc | apply pw_below_drewN | apply below_drew1) | exact HB.out)⟩
                  · replace c33 := Bool.eq_false_iff.mpr c33
                    subst c33
                    have H1 : (some false) = some r := by rw [if_neg (show ¬ (false = true) by decide)] at H; exact H
                    clear H
                    have H := H1
                    clear H1
                    obtain rfl := Option.some.inj H
                    go_wp2
                    go_ret
                    exact ⟨by first | rfl | (simp [errW_none, errW_some] <;> rfl) | (simp [*, errW_none, errW_some] <;> rfl), by repeat (first | (with_reducible first | exact HB.out | apply below_alloc | apply pw_below_drewN | apply below_drew1) | exact HB.out)⟩
        · rw [if_neg c12] at H
          have c12b0 : decide (x7_1 < 60) = false := decide_eq_false c12
          clear c12
          by_cases c37 : t229 = true
          · subst c37
            have H1 : (if (x4_1.length : Int) = (mn (y236.length : Int) 1) then (some (decide (x6_1 ≤ (mx (wrap64 ((y236.length : Int) - 1)) 0)))) else (some false)) = some r := by rw [if_pos rfl] at H; exact H
            clear H
            have H := H1
            clear H1
            obtain ⟨ji38, hji38⟩ : ∃ j_ : Int, (mn (y236.length : Int) 1) = j_ := ⟨_, rfl⟩
            replace H : (if (x4_1.length : Int) = (ji38) then (some (decide (x6_1 ≤ (mx (wrap64 ((y236.length : Int) - 1)) 0)))) else (some false)) = some r := by first | (rw [hji38] at H; exact H) | (simp only [hji38] at H ⊢; exact H)
            have hji38_ : (if 1 < (y236.length : Int) then 1 else (y236.length : Int)) = ji38 := hji38
            by_cases c39 : (x4_1.length : Int) = (ji38)
            · rw [if_pos c39] at H
              have c39b0 : ((x4_1.length : Int) == (ji38)) = true := beq_iff_eq.mpr c39
              have c39b1 : ((x4_1.length : Int) != (ji38)) = false := bne_eq_false_iff_eq.mpr c39
              clear c39
              obtain ⟨ji40, hji40⟩ : ∃ j_ : Int, (mx (wrap64 ((y236.length : Int) - 1)) 0) = j_ := ⟨_, rfl⟩
              replace H : (some (decide (x6_1 ≤ (ji40)))) = some r := by first | (rw [hji40] at H; exact H) | (simp only [hji40] at H ⊢; exact H)
              have hji40_ : (if (wrap64 ((y236.length : Int) - 1)) < 0 then 0 else (wrap64 ((y236.length : Int) - 1))) = ji40 := hji40
              obtain rfl := Option.some.inj H
              obtain ⟨Ao41, co41, eo41⟩ := Kd.R_slice HO_4.out
              subst eo41
              go_wp2
              go_ret
              exact ⟨by first | rfl | (simp [errW_none, errW_some] <;> rfl) | (simp only [← hji38, ← hji40]; first | rfl | (simp [errW_none, errW_some] <;> rfl)) | (simp [*, errW_none, errW_some] <;> rfl), by repeat (first | (with_reducible first | exact HB.out | apply below_alloc | apply pw_below_drewN | apply below_drew1) | exact HB.out)⟩
            · rw [if_neg c39] at H
              have c39b0 : ((x4_1.length : Int) == (ji38)) = false := beq_eq_false_iff_ne.mpr c39
              have c39b1 : ((x4_1.length : Int) != (ji38)) = true := bne_iff_ne.mpr c39
              obtain rfl := Option.some.inj H
              obtain ⟨Ao42, co42, eo42⟩ := Kd.R_slice HO_4.out
              subst eo42
              go_wp2
              go_ret
              exact ⟨by first | rfl | (simp [errW_none, errW_some] <;> rfl) | (simp only [← hji38]; first | rfl | (simp [errW_none, errW_some] <;> rfl)) | (simp [*, errW_none, errW_some] <;> rfl), by repeat (first | (with_reducible first | exact HB.out | apply below_alloc | apply pw_below_drewN | apply below_drew1) | exact HB.out)⟩
          · replace c37 := Bool.eq_false_iff.mpr c37
            subst c37
            have H1 : (some false) = some r := by rw [if_neg (show ¬ (false = true) by decide)] at H; exact H
            clear H
            have H := H1
            clear H1
            obtain rfl := Option.some.inj H
            go_wp2
            go_ret
            exact ⟨by first | rfl | (simp [errW_none, errW_some] <;> rfl) | (simp [*, errW_none, errW_some] <;> rfl), by repeat (first | (with_reducible first | exact HB.out | apply below_alloc | apply pw_below_drewN | apply below_drew1) | exact HB.out)⟩
  · rw [if_neg c4] at H
    exact absurd H (by simp)

/-- THE ONE PURE STATEMENT of thresherlaw15_PickLeads: yours. -/
def thresherlaw15_PickLeads.Pure : Prop := ∀ (l0 : List Int), l0.length ≤ maxLen → l0.length * 8 ≤ 140737488351232 → (∀ x ∈ l0, (Lit.int .i64 x).wf = true) → ∃ k, thresherlaw15_PickLeads.f k l0 = some true
theorem thresherlaw15_PickLeads.walk (P : thresherlaw15_PickLeads.Pure) (a0 : Option Addr) (len0 cap0 : Nat) (z0 : List Int) (w : World) (w0 : (a0 = none ∧ len0 = 0 ∧ cap0 = 0 ∧ z0 = []) ∨ ∃ x, a0 = some x ∧ len0 ≤ cap0 ∧ cap0 ≤ maxLen ∧ z0.length = cap0 ∧ (∀ i, i < z0.length → w.cell? (x.add i) = some (.int .i64 (z0.getD i 0))) ∧ ∀ n ∈ z0, (Lit.int .i64 n).wf = true) (y0 : len0 * 8 ≤ 140737488351232) :
    Calls Try.prog 6 #[.slice a0 len0 cap0] w fun e w' => e = .returned (.bool true) ∧ Below w.heap.size w w' := by
  obtain ⟨l0, rfl, hr0, hm0, hw0, hc0⟩ := ReadsInt.ofRowC w0
  obtain ⟨k, h⟩ := P l0 hm0 y0 hw0
  refine (thresherlaw15_PickLeads.calls k _ _ l0 true w (Kd.C_of_reads (d := (0 : Int)) (h1 := fun _ => rfl) hr0) hc0 h).mono ?_
  rintro e w' ⟨rfl, hd⟩
  exact ⟨rfl, hd⟩

end Go.Proofs.Ytcpdmbeilfpiiaa.P
