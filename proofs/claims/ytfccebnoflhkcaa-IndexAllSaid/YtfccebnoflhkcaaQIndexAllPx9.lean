/- Texts of IndexAll. Merged: Px9. -/
import Derived.Test.YtfccebnoflhkcaaQIndexAllPx0
import Derived.Test.YtfccebnoflhkcaaQIndexAllPx5
-- Written by wip/tools/myprint.py over the kit's print (a program's print; Lean checks it).
namespace Go.Proofs.Ytfccebnoflhkcaa.P
open Go.RowKit Go.Proofs.YtfccebnoflhkcaaW.PrintWords Go.Proofs.YtfccebnoflhkcaaW.PrintLast Go.Proofs.YtfccebnoflhkcaaW.PrintMore
attribute [local go_sem] max2_int min2_int max_two min_two max_three min_three max_four min_four   -- for this text's walks alone
set_option linter.unusedVariables false
set_option linter.unusedSimpArgs false

/-! ### thresherref12_meets: function 27 -/
def thresherref12_meets.j0 : Nat → List (List (S44)) → Int → Bool → List Int → Int → Int → Int → Bool → Bool → List (S44) → List (S44) → Option (Bool)
 | 0, _, _, _, _, _, _, _, _, _, _, _ => none
 | k + 1, x1, x2, x24, x274000, x274001, x274002, x274003, x275000, x275001, x275002, x275003 => if x24 = true then (some false) else (if x2 = (wrap64 ((x1.length : Int) - 1)) then (some true) else (if x275000 = true then (if 0 ≤ (wrap64 (x2 + 1)) then (if (wrap64 (x2 + 1)) < (x1.length : Int) then ((thresherref04_Compare.f k x274000 x274001 x274002 x274003 (rd_L5 x1 (wrap64 (x2 + 1))) x275002).bind fun t278 => (some (decide (t278 ≥ 0)))) else (none)) else (none)) else (some true)))
def thresherref12_meets.f (k : Nat) (l0_0 : List Int) (a0_1 : Int) (a0_2 : Int) (a0_3 : Int) (l1 : List (List (S44))) (a2 : Int) (a3_0 : Bool) (a3_1 : Bool) (l3_2 : List (S44)) (l3_3 : List (S44)) : Option (Bool) := if 0 ≤ a2 then (if a2 < (l1.length : Int) then ((thresherref04_Compare.f k l0_0 a0_1 a0_2 a0_3 (rd_L5 l1 a2) l3_3).bind fun t276 => (if a3_1 = true then (thresherref12_meets.j0 k l1 a2 (decide (t276 > 0)) l0_0 a0_1 a0_2 a0_3 a3_0 a3_1 l3_2 l3_3) else (thresherref12_meets.j0 k l1 a2 false l0_0 a0_1 a0_2 a0_3 a3_0 a3_1 l3_2 l3_3))) else (none)) else (none)
theorem thresherref12_meets.mono_l : ∀ k, (∀ y0 y1 y2 y3 y4 y5 y6 y7 y8 y9 y10, LeO (thresherref12_meets.j0 k y0 y1 y2 y3 y4 y5 y6 y7 y8 y9 y10) (thresherref12_meets.j0 (k + 1) y0 y1 y2 y3 y4 y5 y6 y7 y8 y9 y10))
 | 0 => fun _ _ _ _ _ _ _ _ _ _ _ r h => by simp [thresherref12_meets.j0] at h
 | k + 1 => by
  have ih0 := thresherref12_meets.mono_l k
  ·intro y0 y1 y2 y3 y4 y5 y6 y7 y8 y9 y10
   unfold thresherref12_meets.j0
   repeat' first
   | (with_reducible exact ih0 _ _ _ _ _ _ _ _ _ _ _)
   | (with_reducible exact thresherref04_Compare.mono _ _ _ _ _ _ _)
   | (with_reducible exact LeO.refl _)
   | (with_reducible exact LeO.none _)
   | (with_reducible refine LeO.ite ?_ ?_)
   | (with_reducible refine LeO.bind ?_ (fun _ => ?_))
   | exact ih0 _ _ _ _ _ _ _ _ _ _ _
   | exact thresherref04_Compare.mono _ _ _ _ _ _ _
   | exact LeO.none _
   | refine LeO.ite ?_ ?_
   | refine LeO.bind ?_ (fun _ => ?_)
theorem thresherref12_meets.mono : ∀ a0 a1 a2 a3 a4 a5 a6 a7 a8 a9 k, LeO (thresherref12_meets.f k a0 a1 a2 a3 a4 a5 a6 a7 a8 a9) (thresherref12_meets.f (k + 1) a0 a1 a2 a3 a4 a5 a6 a7 a8 a9) := by
 intro a0 a1 a2 a3 a4 a5 a6 a7 a8 a9 k
 have ih0 := thresherref12_meets.mono_l k
 unfold thresherref12_meets.f
 repeat' first
   | (with_reducible exact ih0 _ _ _ _ _ _ _ _ _ _ _)
   | (with_reducible exact thresherref04_Compare.mono _ _ _ _ _ _ _)
   | (with_reducible exact LeO.refl _)
   | (with_reducible exact LeO.none _)
   | (with_reducible refine LeO.ite ?_ ?_)
   | (with_reducible refine LeO.bind ?_ (fun _ => ?_))
   | exact ih0 _ _ _ _ _ _ _ _ _ _ _
   | exact thresherref04_Compare.mono _ _ _ _ _ _ _
   | exact LeO.none _
   | refine LeO.ite ?_ ?_
   | refine LeO.bind ?_ (fun _ => ?_)
def thresherref12_meets.T1 : Bool × List (List Nat × List Nat) := (true, [([], []), ([], []), ([], []), ([1, 2], [1, 2]), ([3], [3]), ([], []), ([5], [5]), ([0, 4, 6], [0, 4, 6]), ([7, 7, 0, 1, 2, 3, 4, 5, 6, 7], [7])])
def thresherref12_meets.B1 : List Nat := [0, 0, 0, 6, 14, 0, 32, 127, 255]
theorem thresherref12_meets.tab1 : rtab .any (opsOf Try.f27 1) = thresherref12_meets.T1 := by kernel_rfl
theorem thresherref12_meets.bits1 : waitsOk thresherref12_meets.T1.2 thresherref12_meets.B1 = true := by kernel_rfl
def thresherref12_meets.T6 : Bool × List (List Nat × List Nat) := (true, [([], []), ([], []), ([], []), ([2], [2]), ([1, 3], [1, 3]), ([4], [4]), ([], []), ([6], [6]), ([0, 5, 7], [0, 5, 7]), ([8, 8, 0, 1, 2, 3, 4, 5, 6, 7, 8], [8])])
def thresherref12_meets.B6 : List Nat := [0, 0, 0, 4, 14, 30, 0, 64, 255, 511]
theorem thresherref12_meets.tab6 : rtab .any (opsOf Try.f27 6) = thresherref12_meets.T6 := by kernel_rfl
theorem thresherref12_meets.bits6 : waitsOk thresherref12_meets.T6.2 thresherref12_meets.B6 = true := by kernel_rfl
set_option maxHeartbeats 8000000 in
set_option maxRecDepth 100000 in
theorem thresherref12_meets.calls (k : Nat) (A0_0 : Option Addr) (c0_0 : Nat) (l0_0 : List Int) (a0_1 : Int) (a0_2 : Int) (a0_3 : Int) (A1 : Option Addr) (c1 : Nat) (l1 : List (List (S44))) (a2 : Int) (a3_0 : Bool) (a3_1 : Bool) (A3_2 : Option Addr) (c3_2 : Nat) (l3_2 : List (S44)) (A3_3 : Option Addr) (c3_3 : Nat) (l3_3 : List (S44)) (r : Bool) (w : World) (hr0_0 : Kd.C (Kd.int .i64) w A0_0 l0_0.length l0_0) (hc0_0 : l0_0.length ≤ c0_0) (hr1 : Kd.C (Kd.slice 44 k44) w A1 l1.length l1) (hc1 : l1.length ≤ c1) (hr3_2 : Kd.C k44 w A3_2 l3_2.length l3_2) (hc3_2 : l3_2.length ≤ c3_2) (hr3_3 : Kd.C k44 w A3_3 l3_3.length l3_3) (hc3_3 : l3_3.length ≤ c3_3) (h : thresherref12_meets.f k l0_0 a0_1 a0_2 a0_3 l1 a2 a3_0 a3_1 l3_2 l3_3 = some r) :
  Calls Try.prog 27 #[.agg #[.slice A0_0 l0_0.length c0_0, .int .i64 a0_1, .int .i64 a0_2, .int .i64 a0_3], .slice A1 l1.length c1, .int .i64 a2, .agg #[.bool a3_0, .bool a3_1, .slice A3_2 l3_2.length c3_2, .slice A3_3 l3_3.length c3_3]] w fun e w' => e = .returned (.bool r) ∧ Below w.heap.size w w' := by
 have hu33 := Try.underlying33
 have hu29 := Try.underlying29
 have HR0_0 := Aside0.mk hr0_0
 have HC0_0 := Aside0.mk hc0_0
 clear hr0_0 hc0_0
 have HR1 := Aside0.mk hr1
 have HC1 := Aside0.mk hc1
 clear hr1 hc1
 have HR3_2 := Aside0.mk hr3_2
 have HC3_2 := Aside0.mk hc3_2
 clear hr3_2 hc3_2
 have HR3_3 := Aside0.mk hr3_3
 have HC3_3 := Aside0.mk hc3_3
 clear hr3_3 hc3_3
 have HB := Aside0.mk (Below.refl w.heap.size w)
 have H : (if 0 ≤ a2 then (if a2 < (l1.length : Int) then ((thresherref04_Compare.f k l0_0 a0_1 a0_2 a0_3 (rd_L5 l1 a2) l3_3).bind fun t276 => (if a3_1 = true then (thresherref12_meets.j0 k l1 a2 (decide (t276 > 0)) l0_0 a0_1 a0_2 a0_3 a3_0 a3_1 l3_2 l3_3) else (thresherref12_meets.j0 k l1 a2 false l0_0 a0_1 a0_2 a0_3 a3_0 a3_1 l3_2 l3_3))) else (none)) else (none)) = some r := h
 clear h
 by_cases c5 : 0 ≤ a2
 ·rw [if_pos c5] at H
  have c5b0 : decide (0 ≤ a2) = true := decide_eq_true c5
  clear c5
  by_cases c6 : a2 < (l1.length : Int)
  ·rw [if_pos c6] at H
   have c6b0 : decide (a2 < (l1.length : Int)) = true := decide_eq_true c6
   clear c6
   replace H := Option.bind_eq_some_iff.mp H
   obtain ⟨t276, A70, H⟩ := H
   replace H : (if a3_1 = true then (thresherref12_meets.j0 k l1 a2 (decide (t276 > 0)) l0_0 a0_1 a0_2 a0_3 a3_0 a3_1 l3_2 l3_3) else (thresherref12_meets.j0 k l1 a2 false l0_0 a0_1 a0_2 a0_3 a3_0 a3_1 l3_2 l3_3)) = some r := H
   have A7 := Aside0.mk A70
   clear A70
   have HC8 := Aside0.mk H
   clear H
   go_enter Try.func27, Try.ntmps27
   try go_wp2_with (first | ((with_reducible refine gate_dst (N := 4) rfl ?_); refine box_event ?hg (N := 4) ?hd (cs := #[.slice A0_0 l0_0.length c0_0, .int .i64 a0_1, .int .i64 a0_2, .int .i64 a0_3]) (t := 33) ?hr ?_; (case hd => rfl); (case hg => rfl); (case hr => first | (go_simp; done) | (go_simp; rfl)); intro gb273 hg w9 hbox hb; have n0_ := Aside0.mk (below_step (by repeat (first | (with_reducible first | exact HB.out | apply below_alloc | apply pw_below_drewN | apply below_drew1) | exact HB.out)) hb); have n1_ := Aside0.mk (hbox); have n2_ := Aside0.mk ((by rw [hg]; exact (below_size (by repeat (first | (with_reducible first | exact HB.out | apply below_alloc | apply pw_below_drewN | apply below_drew1) | exact HB.out))) : w.heap.size ≤ gb273)); have n3_ := Aside0.mk ((by rw [hg]; exact (below_size (by repeat (first | (with_reducible first | exact HB.out | apply below_alloc | apply pw_below_drewN | apply below_drew1) | exact HB.out))) : w.heap.size ≤ gb273)); clear HB; have HB := n0_; have BK273 := n1_; have GW273 := n2_; have GE273 := n3_; clear n0_ n1_ n2_ n3_; clear hb hbox hg) | ((with_reducible refine gate_dst (N := 7) rfl ?_); refine box_event ?hg (N := 7) ?hd (cs := #[.bool a3_0, .bool a3_1, .slice A3_2 l3_2.length c3_2, .slice A3_3 l3_3.length c3_3]) (t := 29) ?hr ?_; (case hd => rfl); (case hg => rfl); (case hr => first | (go_simp; done) | (go_simp; rfl)); intro gb274 hg w10 hbox hb; have n0_ := Aside0.mk (blk_below (g := gb273) (o := .cells #[.slice A0_0 l0_0.length c0_0, .int .i64 a0_1, .int .i64 a0_2, .int .i64 a0_3] 33 (0, 0)) (by (with_reducible repeat (first | refine blk_drewN ?_ _ | refine blk_drew ?_ | refine blk_alloc ?_ _)); exact BK273.out) hb); have n1_ := Aside0.mk (below_step (by repeat (first | (with_reducible first | exact HB.out | apply below_alloc | apply pw_below_drewN | apply below_drew1 | refine below_set ?_ GE273.out) | exact HB.out)) hb); have n2_ := Aside0.mk (hbox); have n3_ := Aside0.mk ((by rw [hg]; exact (below_size (by repeat (first | (with_reducible first | exact HB.out | apply below_alloc | apply pw_below_drewN | apply below_drew1 | refine below_set ?_ GE273.out) | exact HB.out))) : w.heap.size ≤ gb274)); have n4_ := Aside0.mk ((by rw [hg]; exact (below_size (by repeat (first | (with_reducible first | exact HB.out | apply below_alloc | apply pw_below_drewN | apply below_drew1 | refine below_set ?_ GE273.out) | exact HB.out))) : w.heap.size ≤ gb274)); have n5_ := Aside0.mk ((by rw [hg]; exact Nat.ne_of_lt (blk_lt (g := gb273) (o := .cells #[.slice A0_0 l0_0.length c0_0, .int .i64 a0_1, .int .i64 a0_2, .int .i64 a0_3] 33 (0, 0)) (by (with_reducible repeat (first | refine blk_drewN ?_ _ | refine blk_drew ?_ | refine blk_alloc ?_ _)); exact BK273.out)) : gb273 ≠ gb274)); have n6_ := Aside0.mk ((by rw [hg]; exact Nat.ne_of_gt (blk_lt (g := gb273) (o := .cells #[.slice A0_0 l0_0.length c0_0, .int .i64 a0_1, .int .i64 a0_2, .int .i64 a0_3] 33 (0, 0)) (by (with_reducible repeat (first | refine blk_drewN ?_ _ | refine blk_drew ?_ | refine blk_alloc ?_ _)); exact BK273.out)) : gb274 ≠ gb273)); clear BK273; clear HB; have BK273 := n0_; have HB := n1_; have BK274 := n2_; have GW274 := n3_; have GE274 := n4_; have NB273_274 := n5_; have NB274_273 := n6_; clear n0_ n1_ n2_ n3_ n4_ n5_ n6_; clear hb hbox hg))
   have n0_ := Aside0.mk (blk_drew BK273.out)
   have n1_ := Aside0.mk (blk_drew BK274.out)
   have n2_ := Aside0.mk (below_drew1 HB.out)
   clear BK273
   clear BK274
   clear HB
   have BK273 := n0_
   have BK274 := n1_
   have HB := n2_
   clear n0_ n1_ n2_
   have p275 : 0 ≤ (a2 : Int) := of_decide_eq_true (by first | (with_reducible assumption) | assumption)
   have q275 : a2 < (l1.length : Int) := of_decide_eq_true (by first | (with_reducible assumption) | assumption)
   obtain ⟨ad275, A275_0, c275_0, e275, hx275_0, hl275_0, hi275_0⟩ := at_L5 HR1.out a2 p275 q275
   have hw275_0 := hx275_0
   cases e275
   replace hx275_0 := (HB.out.cell (World.block_lt_of_cell? w _ hx275_0)).trans hx275_0
   have HR275_0 := Aside0.mk hi275_0
   have HC275_0 := Aside0.mk hl275_0
   clear hi275_0 hl275_0
   replace p275 := eq_true p275
   replace q275 := eq_true q275
   refine start_ (n := 9) (S := fun w' => w'.cell? ⟨gb273, 0, none⟩ = some (.slice A0_0 l0_0.length c0_0) ∧ w'.cell? ⟨gb273, 1, none⟩ = some (.int .i64 a0_1) ∧ w'.cell? ⟨gb273, 2, none⟩ = some (.int .i64 a0_2) ∧ w'.cell? ⟨gb273, 3, none⟩ = some (.int .i64 a0_3) ∧ w'.cell? ⟨gb274, 0, none⟩ = some (.bool a3_0) ∧ w'.cell? ⟨gb274, 1, none⟩ = some (.bool a3_1) ∧ w'.cell? ⟨gb274, 2, none⟩ = some (.slice A3_2 l3_2.length c3_2) ∧ w'.cell? ⟨gb274, 3, none⟩ = some (.slice A3_3 l3_3.length c3_3) ∧ w'.cell? (ad275.add (a2).toNat) = some (.slice A275_0 (rd_L5 l1 a2).length c275_0)) (ds := []) #[false, false, false, false, false, false, false, false, false] (by kernel_rfl) rfl rfl ⟨(blk_cell BK273.out 0).trans rfl, (blk_cell BK273.out 1).trans rfl, (blk_cell BK273.out 2).trans rfl, (blk_cell BK273.out 3).trans rfl, (blk_cell BK274.out 0).trans rfl, (blk_cell BK274.out 1).trans rfl, (blk_cell BK274.out 2).trans rfl, (blk_cell BK274.out 3).trans rfl, ((HB.out.cell (World.block_lt_of_cell? w _ hw275_0)).trans hw275_0)⟩ (fun hHeld => ?_); refine with_tabW thresherref12_meets.tab1 thresherref12_meets.bits1 (fun HT_ HW_ => ?_)
   generalize w10.drew = w11 at BK273 BK274 HB HR275_0 hx275_0 hHeld ⊢
   refine pure_ (i := 1) (N := some 12) (v := ?_) (a' := ?_) #[false, true, false, false, false, false, false, false, false] rfl rfl (any_of HT_.out (by kernel_rfl)) (fun _ _ _ h => h) (Or.inl ⟨by rfl, ?_⟩) ?_ ?_
   rotate_left; (intro w'; go_simp; with_reducible rfl); rotate_left; (simp only [Act.put, List.setIfInBounds_toArray, List.set_cons_zero, List.set_cons_succ, i64_w, i32_w]; rfl)
   refine pure_ (i := 2) (N := some 13) (v := ?_) (a' := ?_) #[false, true, true, false, false, false, false, false, false] rfl rfl (any_of HT_.out (by kernel_rfl)) (fun _ _ _ h => h) (Or.inl ⟨by rfl, ?_⟩) ?_ ?_
   rotate_left; (intro w'; go_simp; with_reducible rfl); rotate_left; (simp only [Act.put, List.setIfInBounds_toArray, List.set_cons_zero, List.set_cons_succ, i64_w, i32_w]; rfl)
   refine pure_ (i := 3) (N := some 14) (v := ?_) (a' := ?_) #[false, true, true, true, false, false, false, false, false] rfl rfl (any_of HT_.out (by kernel_rfl)) (fun _ _ _ h => h) (Or.inl ⟨by rfl, ?_⟩) ?_ ?_
   rotate_left; (intro w'; go_simp; with_reducible rfl); rotate_left; (simp only [Act.put, List.setIfInBounds_toArray, List.set_cons_zero, List.set_cons_succ, i64_w, i32_w]; rfl)
   refine pure_ (i := 5) (N := some 16) (v := ?_) (a' := ?_) #[false, true, true, true, false, true, false, false, false] rfl rfl (any_of HT_.out (by kernel_rfl)) (fun _ _ _ h => h) (Or.inl ⟨by rfl, ?_⟩) ?_ ?_
   rotate_left; (intro w'; go_simp; with_reducible rfl); rotate_left; (simp only [Act.put, List.setIfInBounds_toArray, List.set_cons_zero, List.set_cons_succ, i64_w, i32_w]; rfl)
   refine take_ (i := 0) (N := some 11) (v := ?_) (a' := ?_) #[true, true, true, true, false, true, false, false, false] rfl rfl (take_ofW HT_.out HW_.out (by kernel_rfl)) (fun _ _ _ h => h) (Or.inl ⟨by rfl, ?_⟩) hHeld ?_ ?_
   rotate_left; (rintro w' ⟨s0, s1, s2, s3, s4, s5, s6, s7, s8⟩; go_simp; with_reducible rfl); rotate_left; (simp only [Act.put, List.setIfInBounds_toArray, List.set_cons_zero, List.set_cons_succ, i64_w, i32_w]; rfl)
   refine take_ (i := 4) (N := some 15) (v := ?_) (a' := ?_) #[true, true, true, true, true, true, false, false, false] rfl rfl (take_ofW HT_.out HW_.out (by kernel_rfl)) (fun _ _ _ h => h) (Or.inl ⟨by rfl, ?_⟩) hHeld ?_ ?_
   rotate_left; (rintro w' ⟨s0, s1, s2, s3, s4, s5, s6, s7, s8⟩; go_simp; with_reducible rfl); rotate_left; (simp only [Act.put, List.setIfInBounds_toArray, List.set_cons_zero, List.set_cons_succ, i64_w, i32_w]; rfl)
   refine take_ (i := 6) (N := some 17) (v := ?_) (a' := ?_) #[true, true, true, true, true, true, true, false, false] rfl rfl (take_ofW HT_.out HW_.out (by kernel_rfl)) (fun _ _ _ h => h) (Or.inl ⟨by rfl, ?_⟩) hHeld ?_ ?_
   rotate_left; (rintro w' ⟨s0, s1, s2, s3, s4, s5, s6, s7, s8⟩; go_simp; with_reducible rfl); rotate_left; (simp only [Act.put, List.setIfInBounds_toArray, List.set_cons_zero, List.set_cons_succ, i64_w, i32_w]; rfl)
   refine one_ (i := 7) (N := some 18) #[true, true, true, true, true, true, true, true, false] rfl rfl (one_of HT_.out (by kernel_rfl)) (by decide) (fun K hK => ?_)
   refine goes_ Try.func20 (by kernel_rfl) rfl #[.agg #[.slice A0_0 l0_0.length c0_0, .int .i64 a0_1, .int .i64 a0_2, .int .i64 a0_3], .slice A275_0 (rd_L5 l1 a2).length c275_0, .slice A3_3 l3_3.length c3_3] (by rfl) rfl rfl (by (try simp only [List.map_toArray, List.map_cons, List.map_nil]); first | done | rfl | (simp only [List.length_drop, List.length_take]; rfl)) ?_
   with_reducible refine (thresherref04_Compare.calls k _ _ l0_0 a0_1 a0_2 a0_3 _ _ (rd_L5 l1 a2) _ _ l3_3 t276 _ ?side1 ?side2 ?side3 ?side4 ?side5 ?side6 A7.out).mono ?_
   (case side1 => repeat (first | exact (Kd.C_below HR0_0.out HB.out) | (with_reducible refine Kd.C_alloc ?_ _) | (with_reducible refine Kd.C_drewN ?_ _) | (with_reducible refine Kd.C_drew ?_)))
   (case side2 => exact HC0_0.out)
   (case side3 => repeat (first | exact (Kd.C_below HR275_0.out HB.out) | (with_reducible refine Kd.C_alloc ?_ _) | (with_reducible refine Kd.C_drewN ?_ _) | (with_reducible refine Kd.C_drew ?_)))
   (case side4 => exact HC275_0.out)
   (case side5 => repeat (first | exact (Kd.C_below HR3_3.out HB.out) | (with_reducible refine Kd.C_alloc ?_ _) | (with_reducible refine Kd.C_drewN ?_ _) | (with_reducible refine Kd.C_drew ?_)))
   (case side6 => exact HC3_3.out)
   rintro e w12 ⟨rfl, hb⟩
   refine ⟨_, rfl, ?_⟩
   have n0_ := Aside0.mk (blk_below (g := gb273) (o := .cells #[.slice A0_0 l0_0.length c0_0, .int .i64 a0_1, .int .i64 a0_2, .int .i64 a0_3] 33 (0, 0)) (by (with_reducible repeat (first | refine blk_drewN ?_ _ | refine blk_drew ?_ | refine blk_alloc ?_ _)); exact BK273.out) hb)
   have n1_ := Aside0.mk (blk_below (g := gb274) (o := .cells #[.bool a3_0, .bool a3_1, .slice A3_2 l3_2.length c3_2, .slice A3_3 l3_3.length c3_3] 29 (0, 0)) (by (with_reducible repeat (first | refine blk_drewN ?_ _ | refine blk_drew ?_ | refine blk_alloc ?_ _)); exact BK274.out) hb)
   have n2_ := Aside0.mk (below_step (by repeat (first | (with_reducible first | exact HB.out | apply below_alloc | apply pw_below_drewN | apply below_drew1 | refine below_set ?_ GE273.out | refine below_set ?_ GE274.out) | exact HB.out)) hb)
   clear BK273
   clear BK274
   clear HB
   have BK273 := n0_
   have BK274 := n1_
   have HB := n2_
   clear n0_ n1_ n2_
   (try clear hb)
   (try clear hb2)
   (try clear hk)
   (try clear hi)
   refine hK.out _ _ ⟨(blk_cell BK273.out 0).trans rfl, (blk_cell BK273.out 1).trans rfl, (blk_cell BK273.out 2).trans rfl, (blk_cell BK273.out 3).trans rfl, (blk_cell BK274.out 0).trans rfl, (blk_cell BK274.out 1).trans rfl, (blk_cell BK274.out 2).trans rfl, (blk_cell BK274.out 3).trans rfl, ((HB.out.cell (World.block_lt_of_cell? w _ hw275_0)).trans hw275_0)⟩ (fun hHeld => ?_)
   clear hK K
   refine norm_ (a' := ?_) ?_ ?_
   rotate_left
   ·show Act.put _ (some 18) _ = _
    simp only [Act.put, List.setIfInBounds_toArray, List.set_cons_zero, List.set_cons_succ, i64_w, i32_w]
    rfl
   refine pure_ (i := 8) (N := some 9) (v := ?_) (a' := ?_) #[true, true, true, true, true, true, true, true, true] rfl rfl (any_of HT_.out (by kernel_rfl)) (fun _ _ _ h => h) (Or.inl ⟨by rfl, ?_⟩) ?_ ?_
   rotate_left; (intro w'; go_simp; with_reducible rfl); rotate_left; (simp only [Act.put, List.setIfInBounds_toArray, List.set_cons_zero, List.set_cons_succ, i64_w, i32_w]; rfl)
   refine done_ (done_of HT_.out (by kernel_rfl)) ?_
   (try clear hHeld)
   go_upto_region 2 with (fail)
   go_cut [24] (fun v24 wc => ∃ (kq : Nat) (x24_7 : Bool), v24 = .bool x24_7 ∧ Aside0 (thresherref12_meets.j0 kq l1 a2 x24_7 l0_0 a0_1 a0_2 a0_3 a3_0 a3_1 l3_2 l3_3 = some r) ∧ Aside0 (kq ≤ k) ∧ Aside0 (wc.heap[gb273]? = some (.cells #[(.slice A0_0 l0_0.length c0_0), .int .i64 a0_1, .int .i64 a0_2, .int .i64 a0_3] 33 (0, 0))) ∧ Aside0 (wc.heap[gb274]? = some (.cells #[.bool a3_0, .bool a3_1, (.slice A3_2 l3_2.length c3_2), (.slice A3_3 l3_3.length c3_3)] 29 (0, 0))) ∧ Aside0 (Below w.heap.size w wc))
   case first =>
    have H := HC8.out
    clear HC8
    by_cases c13 : a3_1 = true
    ·subst c13
     have H1 : (thresherref12_meets.j0 k l1 a2 (decide (t276 > 0)) l0_0 a0_1 a0_2 a0_3 a3_0 true l3_2 l3_3) = some r := by rw [if_pos rfl] at H; exact H
     clear H
     have H := H1
     clear H1
     have H' := Aside0.mk H
     clear H
     have hnb14 := NB274_273.out
     have hnc14 := NB273_274.out
     have hcz15_0 : w12.cell? ⟨gb274, 0, none⟩ = some (.bool a3_0) := (blk_cell BK274.out 0).trans rfl
     have hcz15_1 : w12.cell? ⟨gb274, 1, none⟩ = some (.bool true) := (blk_cell BK274.out 1).trans rfl
     have hcz15_2 : w12.cell? ⟨gb274, 2, none⟩ = some (.slice A3_2 l3_2.length c3_2) := (blk_cell BK274.out 2).trans rfl
     have hcz15_3 : w12.cell? ⟨gb274, 3, none⟩ = some (.slice A3_3 l3_3.length c3_3) := (blk_cell BK274.out 3).trans rfl
     have hfz15_0 := blk_frozen BK274.out 0
     have hfz15_1 := blk_frozen BK274.out 1
     have hfz15_2 := blk_frozen BK274.out 2
     have hfz15_3 := blk_frozen BK274.out 3
     go_wp2
     go_meet
     case rel => exact ⟨_, (decide (t276 > 0)), (by first | rfl | (simp; done) | (simp [*]; done)), (by first | exact H' | (subst_vars; exact H')), ⟨by first | omega | exact Nat.le_refl _⟩, ⟨by (with_reducible repeat (first | refine blk_drewN ?_ _ | refine blk_drew ?_ | refine blk_alloc ?_ _)); exact BK273.out⟩, ⟨by (with_reducible repeat (first | refine blk_drewN ?_ _ | refine blk_drew ?_ | refine blk_alloc ?_ _)); exact BK274.out⟩, ⟨by repeat (first | (with_reducible first | exact HB.out | apply below_alloc | apply pw_below_drewN | apply below_drew1 | refine below_set ?_ GE273.out | refine below_set ?_ GE274.out) | exact HB.out)⟩⟩
    ·replace c13 := Bool.eq_false_iff.mpr c13
     subst c13
     have H1 : (thresherref12_meets.j0 k l1 a2 false l0_0 a0_1 a0_2 a0_3 a3_0 false l3_2 l3_3) = some r := by rw [if_neg (show ¬ (false = true) by decide)] at H; exact H
     clear H
     have H := H1
     clear H1
     have H' := Aside0.mk H
     clear H
     have hnb16 := NB274_273.out
     have hnc16 := NB273_274.out
     have hcz17_0 : w12.cell? ⟨gb274, 0, none⟩ = some (.bool a3_0) := (blk_cell BK274.out 0).trans rfl
     have hcz17_1 : w12.cell? ⟨gb274, 1, none⟩ = some (.bool false) := (blk_cell BK274.out 1).trans rfl
     have hcz17_2 : w12.cell? ⟨gb274, 2, none⟩ = some (.slice A3_2 l3_2.length c3_2) := (blk_cell BK274.out 2).trans rfl
     have hcz17_3 : w12.cell? ⟨gb274, 3, none⟩ = some (.slice A3_3 l3_3.length c3_3) := (blk_cell BK274.out 3).trans rfl
     have hfz17_0 := blk_frozen BK274.out 0
     have hfz17_1 := blk_frozen BK274.out 1
     have hfz17_2 := blk_frozen BK274.out 2
     have hfz17_3 := blk_frozen BK274.out 3
     go_wp2
     go_meet
     case rel => exact ⟨_, (false), (by first | rfl | (simp; done) | (simp [*]; done)), (by first | exact H' | (subst_vars; exact H')), ⟨by first | omega | exact Nat.le_refl _⟩, ⟨by (with_reducible repeat (first | refine blk_drewN ?_ _ | refine blk_drew ?_ | refine blk_alloc ?_ _)); exact BK273.out⟩, ⟨by (with_reducible repeat (first | refine blk_drewN ?_ _ | refine blk_drew ?_ | refine blk_alloc ?_ _)); exact BK274.out⟩, ⟨by repeat (first | (with_reducible first | exact HB.out | apply below_alloc | apply pw_below_drewN | apply below_drew1 | refine below_set ?_ GE273.out | refine below_set ?_ GE274.out) | exact HB.out)⟩⟩
   case rest =>
    clear HC8
    try clear c1
    try clear c2
    try clear p2
    try clear q2
    try clear hx2
    try clear c3
    try clear c5
    try clear c5b0
    try clear c6
    try clear c6b0
    try clear c13
    try clear c14
    try clear c16
    try clear hcz15_0
    try clear hcz15_1
    try clear hcz15_2
    try clear hcz15_3
    try clear hcz17_0
    try clear hcz17_1
    try clear hcz17_2
    try clear hcz17_3
    try clear hfz15_0
    try clear hfz15_1
    try clear hfz15_2
    try clear hfz15_3
    try clear hfz17_0
    try clear hfz17_1
    try clear hfz17_2
    try clear hfz17_3
    try clear hx275_0
    try clear p275
    try clear q275
    obtain ⟨kq, x24_7, rfl, HA, HJ7, BK273, BK274, HB⟩ := hcut
    cases kq with
    | zero => exact absurd HA.out (by simp [thresherref12_meets.j0])
    | succ kj7 =>
     have H := HA.out
     clear HA
     simp only [thresherref12_meets.j0] at H
     by_cases c18 : x24_7 = true
     ·subst c18
      have H1 : (some false) = some r := by rw [if_pos rfl] at H; exact H
      clear H
      have H := H1
      clear H1
      obtain rfl := Option.some.inj H
      go_wp2
      go_ret
      exact ⟨by first | rfl | (simp [errW_none, errW_some] <;> rfl) | (simp [*, errW_none, errW_some] <;> rfl), by repeat (first | (with_reducible first | exact HB.out | apply below_alloc | apply pw_below_drewN | apply below_drew1 | refine below_set ?_ GE273.out | refine below_set ?_ GE274.out) | exact HB.out)⟩
     ·replace c18 := Bool.eq_false_iff.mpr c18
      subst c18
      have H1 : (if a2 = (wrap64 ((l1.length : Int) - 1)) then (some true) else (if a3_0 = true then (if 0 ≤ (wrap64 (a2 + 1)) then (if (wrap64 (a2 + 1)) < (l1.length : Int) then ((thresherref04_Compare.f kj7 l0_0 a0_1 a0_2 a0_3 (rd_L5 l1 (wrap64 (a2 + 1))) l3_2).bind fun t278 => (some (decide (t278 ≥ 0)))) else (none)) else (none)) else (some true))) = some r := by rw [if_neg (show ¬ (false = true) by decide)] at H; exact H
      clear H
      have H := H1
      clear H1
      by_cases c19 : a2 = (wrap64 ((l1.length : Int) - 1))
      ·rw [if_pos c19] at H
       have c19b0 : (a2 == (wrap64 ((l1.length : Int) - 1))) = true := beq_iff_eq.mpr c19
       have c19b1 : (a2 != (wrap64 ((l1.length : Int) - 1))) = false := bne_eq_false_iff_eq.mpr c19
       clear c19
       obtain rfl := Option.some.inj H
       go_wp2
       go_ret
       exact ⟨by first | rfl | (simp [errW_none, errW_some] <;> rfl) | (simp [*, errW_none, errW_some] <;> rfl), by repeat (first | (with_reducible first | exact HB.out | apply below_alloc | apply pw_below_drewN | apply below_drew1 | refine below_set ?_ GE273.out | refine below_set ?_ GE274.out) | exact HB.out)⟩
      ·rw [if_neg c19] at H
       have c19b0 : (a2 == (wrap64 ((l1.length : Int) - 1))) = false := beq_eq_false_iff_ne.mpr c19
       have c19b1 : (a2 != (wrap64 ((l1.length : Int) - 1))) = true := bne_iff_ne.mpr c19
       by_cases c20 : a3_0 = true
       ·subst c20
        have H1 : (if 0 ≤ (wrap64 (a2 + 1)) then (if (wrap64 (a2 + 1)) < (l1.length : Int) then ((thresherref04_Compare.f kj7 l0_0 a0_1 a0_2 a0_3 (rd_L5 l1 (wrap64 (a2 + 1))) l3_2).bind fun t278 => (some (decide (t278 ≥ 0)))) else (none)) else (none)) = some r := by rw [if_pos rfl] at H; exact H
        clear H
        have H := H1
        clear H1
        obtain ⟨ji21, hji21⟩ : ∃ j_ : Int, (wrap64 (a2 + 1)) = j_ := ⟨_, rfl⟩
        replace H : (if 0 ≤ (ji21) then (if (ji21) < (l1.length : Int) then ((thresherref04_Compare.f kj7 l0_0 a0_1 a0_2 a0_3 (rd_L5 l1 (ji21)) l3_2).bind fun t278 => (some (decide (t278 ≥ 0)))) else (none)) else (none)) = some r := by first | (rw [hji21] at H; exact H) | (simp only [hji21] at H ⊢; exact H)
        have hji21w : (IntKind.i64.wrap (a2 + 1)) = ji21 := (i64_w _).trans hji21
        by_cases c22 : 0 ≤ (ji21)
        ·rw [if_pos c22] at H
         have c22b0 : decide (0 ≤ (ji21)) = true := decide_eq_true c22
         clear c22
         by_cases c23 : (ji21) < (l1.length : Int)
         ·rw [if_pos c23] at H
          have c23b0 : decide ((ji21) < (l1.length : Int)) = true := decide_eq_true c23
          clear c23
          replace H := Option.bind_eq_some_iff.mp H
          obtain ⟨t278, A240, H⟩ := H
          replace H : (some (decide (t278 ≥ 0))) = some r := H
          have A24 := Aside0.mk A240
          clear A240
          obtain rfl := Option.some.inj H
          have hnb25 := NB274_273.out
          have hnc25 := NB273_274.out
          have hcz26_0 : wc.cell? ⟨gb274, 0, none⟩ = some (.bool true) := (blk_cell BK274.out 0).trans rfl
          have hcz26_1 : wc.cell? ⟨gb274, 1, none⟩ = some (.bool a3_1) := (blk_cell BK274.out 1).trans rfl
          have hcz26_2 : wc.cell? ⟨gb274, 2, none⟩ = some (.slice A3_2 l3_2.length c3_2) := (blk_cell BK274.out 2).trans rfl
          have hcz26_3 : wc.cell? ⟨gb274, 3, none⟩ = some (.slice A3_3 l3_3.length c3_3) := (blk_cell BK274.out 3).trans rfl
          have hfz26_0 := blk_frozen BK274.out 0
          have hfz26_1 := blk_frozen BK274.out 1
          have hfz26_2 := blk_frozen BK274.out 2
          have hfz26_3 := blk_frozen BK274.out 3
          try go_wp2
          have n0_ := Aside0.mk (blk_drew BK273.out)
          have n1_ := Aside0.mk (blk_drew BK274.out)
          have n2_ := Aside0.mk (below_drew1 HB.out)
          clear BK273
          clear BK274
          clear HB
          have BK273 := n0_
          have BK274 := n1_
          have HB := n2_
          clear n0_ n1_ n2_
          have p277 : 0 ≤ ((ji21) : Int) := of_decide_eq_true (by first | (with_reducible assumption) | assumption)
          have q277 : (ji21) < (l1.length : Int) := of_decide_eq_true (by first | (with_reducible assumption) | assumption)
          obtain ⟨ad277, A277_0, c277_0, e277, hx277_0, hl277_0, hi277_0⟩ := at_L5 HR1.out (ji21) p277 q277
          have hw277_0 := hx277_0
          obtain rfl : ad275 = ad277 := (by injection e277)
          replace hx277_0 := (HB.out.cell (World.block_lt_of_cell? w _ hx277_0)).trans hx277_0
          have HR277_0 := Aside0.mk hi277_0
          have HC277_0 := Aside0.mk hl277_0
          clear hi277_0 hl277_0
          replace p277 := eq_true p277
          replace q277 := eq_true q277
          refine start_ (n := 10) (S := fun w' => w'.cell? ⟨gb273, 0, none⟩ = some (.slice A0_0 l0_0.length c0_0) ∧ w'.cell? ⟨gb273, 1, none⟩ = some (.int .i64 a0_1) ∧ w'.cell? ⟨gb273, 2, none⟩ = some (.int .i64 a0_2) ∧ w'.cell? ⟨gb273, 3, none⟩ = some (.int .i64 a0_3) ∧ w'.cell? ⟨gb274, 0, none⟩ = some (.bool true) ∧ w'.cell? ⟨gb274, 1, none⟩ = some (.bool a3_1) ∧ w'.cell? ⟨gb274, 2, none⟩ = some (.slice A3_2 l3_2.length c3_2) ∧ w'.cell? ⟨gb274, 3, none⟩ = some (.slice A3_3 l3_3.length c3_3) ∧ w'.cell? (ad275.add ((ji21)).toNat) = some (.slice A277_0 (rd_L5 l1 (ji21)).length c277_0)) (ds := []) #[false, false, false, false, false, false, false, false, false, false] (by kernel_rfl) rfl rfl ⟨(blk_cell BK273.out 0).trans rfl, (blk_cell BK273.out 1).trans rfl, (blk_cell BK273.out 2).trans rfl, (blk_cell BK273.out 3).trans rfl, (blk_cell BK274.out 0).trans rfl, (blk_cell BK274.out 1).trans rfl, (blk_cell BK274.out 2).trans rfl, (blk_cell BK274.out 3).trans rfl, ((HB.out.cell (World.block_lt_of_cell? w _ hw277_0)).trans hw277_0)⟩ (fun hHeld => ?_); refine with_tabW thresherref12_meets.tab6 thresherref12_meets.bits6 (fun HT_ HW_ => ?_)
          generalize wc.drew = w27 at BK273 BK274 HB HR277_0 hx277_0 hHeld ⊢
          refine pure_ (i := 1) (N := some 36) (v := ?_) (a' := ?_) #[false, true, false, false, false, false, false, false, false, false] rfl rfl (any_of HT_.out (by kernel_rfl)) (fun _ _ _ h => h) (Or.inl ⟨by rfl, ?_⟩) ?_ ?_
          rotate_left; (intro w'; go_simp; with_reducible rfl); rotate_left; (simp only [Act.put, List.setIfInBounds_toArray, List.set_cons_zero, List.set_cons_succ, i64_w, i32_w]; rfl)
          refine pure_ (i := 2) (N := some 37) (v := ?_) (a' := ?_) #[false, true, true, false, false, false, false, false, false, false] rfl rfl (any_of HT_.out (by kernel_rfl)) (fun _ _ _ h => h) (Or.inl ⟨by rfl, ?_⟩) ?_ ?_
          rotate_left; (intro w'; go_simp; with_reducible rfl); rotate_left; (simp only [Act.put, List.setIfInBounds_toArray, List.set_cons_zero, List.set_cons_succ, i64_w, i32_w]; rfl)
          refine pure_ (i := 3) (N := some 38) (v := ?_) (a' := ?_) #[false, true, true, true, false, false, false, false, false, false] rfl rfl (any_of HT_.out (by kernel_rfl)) (fun _ _ _ h => h) (Or.inl ⟨by rfl, ?_⟩) ?_ ?_
          rotate_left; (intro w'; go_simp; with_reducible rfl); rotate_left; (simp only [Act.put, List.setIfInBounds_toArray, List.set_cons_zero, List.set_cons_succ, i64_w, i32_w]; rfl)
          refine pure_ (i := 4) (N := some 39) (v := ?_) (a' := ?_) #[false, true, true, true, true, false, false, false, false, false] rfl rfl (any_of HT_.out (by kernel_rfl)) (fun _ _ _ h => h) (Or.inl ⟨by rfl, ?_⟩) ?_ ?_
          rotate_left; (intro w'; go_simp; with_reducible rfl); rotate_left; (simp only [Act.put, List.setIfInBounds_toArray, List.set_cons_zero, List.set_cons_succ, i64_w, i32_w]; rfl)
          refine pure_ (i := 6) (N := some 41) (v := ?_) (a' := ?_) #[false, true, true, true, true, false, true, false, false, false] rfl rfl (any_of HT_.out (by kernel_rfl)) (fun _ _ _ h => h) (Or.inl ⟨by rfl, ?_⟩) ?_ ?_
          rotate_left; (intro w'; go_simp; with_reducible rfl); rotate_left; (simp only [Act.put, List.setIfInBounds_toArray, List.set_cons_zero, List.set_cons_succ, i64_w, i32_w]; rfl)
          refine take_ (i := 0) (N := some 35) (v := ?_) (a' := ?_) #[true, true, true, true, true, false, true, false, false, false] rfl rfl (take_ofW HT_.out HW_.out (by kernel_rfl)) (fun _ _ _ h => h) (Or.inl ⟨by rfl, ?_⟩) hHeld ?_ ?_
          rotate_left; (rintro w' ⟨s0, s1, s2, s3, s4, s5, s6, s7, s8⟩; go_simp; with_reducible rfl); rotate_left; (simp only [Act.put, List.setIfInBounds_toArray, List.set_cons_zero, List.set_cons_succ, i64_w, i32_w]; rfl)
          refine take_ (i := 5) (N := some 40) (v := ?_) (a' := ?_) #[true, true, true, true, true, true, true, false, false, false] rfl rfl (take_ofW HT_.out HW_.out (by kernel_rfl)) (fun _ _ _ h => h) (Or.inl ⟨by rfl, ?_⟩) hHeld ?_ ?_
          rotate_left; (rintro w' ⟨s0, s1, s2, s3, s4, s5, s6, s7, s8⟩; go_simp; with_reducible rfl); rotate_left; (simp only [Act.put, List.setIfInBounds_toArray, List.set_cons_zero, List.set_cons_succ, i64_w, i32_w]; rfl)
          refine take_ (i := 7) (N := some 42) (v := ?_) (a' := ?_) #[true, true, true, true, true, true, true, true, false, false] rfl rfl (take_ofW HT_.out HW_.out (by kernel_rfl)) (fun _ _ _ h => h) (Or.inl ⟨by rfl, ?_⟩) hHeld ?_ ?_
          rotate_left; (rintro w' ⟨s0, s1, s2, s3, s4, s5, s6, s7, s8⟩; go_simp; with_reducible rfl); rotate_left; (simp only [Act.put, List.setIfInBounds_toArray, List.set_cons_zero, List.set_cons_succ, i64_w, i32_w]; rfl)
          refine one_ (i := 8) (N := some 43) #[true, true, true, true, true, true, true, true, true, false] rfl rfl (one_of HT_.out (by kernel_rfl)) (by decide) (fun K hK => ?_)
          refine goes_ Try.func20 (by kernel_rfl) rfl #[.agg #[.slice A0_0 l0_0.length c0_0, .int .i64 a0_1, .int .i64 a0_2, .int .i64 a0_3], .slice A277_0 (rd_L5 l1 (ji21)).length c277_0, .slice A3_2 l3_2.length c3_2] (by rfl) rfl rfl (by (try simp only [List.map_toArray, List.map_cons, List.map_nil]); first | done | (simp only [hji21]; rfl) | rfl | (simp only [List.length_drop, List.length_take]; rfl)) ?_
          with_reducible refine (thresherref04_Compare.calls kj7 _ _ l0_0 a0_1 a0_2 a0_3 _ _ (rd_L5 l1 (ji21)) _ _ l3_2 t278 _ ?side1 ?side2 ?side3 ?side4 ?side5 ?side6 A24.out).mono ?_
          (case side1 => repeat (first | exact (Kd.C_below HR0_0.out HB.out) | (with_reducible refine Kd.C_alloc ?_ _) | (with_reducible refine Kd.C_drewN ?_ _) | (with_reducible refine Kd.C_drew ?_)))
          (case side2 => exact HC0_0.out)
          (case side3 => repeat (first | exact (Kd.C_below HR277_0.out HB.out) | (with_reducible refine Kd.C_alloc ?_ _) | (with_reducible refine Kd.C_drewN ?_ _) | (with_reducible refine Kd.C_drew ?_)))
          (case side4 => exact HC277_0.out)
          (case side5 => repeat (first | exact (Kd.C_below HR3_2.out HB.out) | (with_reducible refine Kd.C_alloc ?_ _) | (with_reducible refine Kd.C_drewN ?_ _) | (with_reducible refine Kd.C_drew ?_)))
          (case side6 => exact HC3_2.out)
          rintro e w28 ⟨rfl, hb⟩
          refine ⟨_, rfl, ?_⟩
          have n0_ := Aside0.mk (blk_below (g := gb273) (o := .cells #[.slice A0_0 l0_0.length c0_0, .int .i64 a0_1, .int .i64 a0_2, .int .i64 a0_3] 33 (0, 0)) (by (with_reducible repeat (first | refine blk_drewN ?_ _ | refine blk_drew ?_ | refine blk_alloc ?_ _)); exact BK273.out) hb)
          have n1_ := Aside0.mk (blk_below (g := gb274) (o := .cells #[.bool true, .bool a3_1, .slice A3_2 l3_2.length c3_2, .slice A3_3 l3_3.length c3_3] 29 (0, 0)) (by (with_reducible repeat (first | refine blk_drewN ?_ _ | refine blk_drew ?_ | refine blk_alloc ?_ _)); exact BK274.out) hb)
          have n2_ := Aside0.mk (below_step (by repeat (first | (with_reducible first | exact HB.out | apply below_alloc | apply pw_below_drewN | apply below_drew1 | refine below_set ?_ GE273.out | refine below_set ?_ GE274.out) | exact HB.out)) hb)
          clear BK273
          clear BK274
          clear HB
          have BK273 := n0_
          have BK274 := n1_
          have HB := n2_
          clear n0_ n1_ n2_
          (try clear hb)
          (try clear hb2)
          (try clear hk)
          (try clear hi)
          refine hK.out _ _ ⟨(blk_cell BK273.out 0).trans rfl, (blk_cell BK273.out 1).trans rfl, (blk_cell BK273.out 2).trans rfl, (blk_cell BK273.out 3).trans rfl, (blk_cell BK274.out 0).trans rfl, (blk_cell BK274.out 1).trans rfl, (blk_cell BK274.out 2).trans rfl, (blk_cell BK274.out 3).trans rfl, ((HB.out.cell (World.block_lt_of_cell? w _ hw277_0)).trans hw277_0)⟩ (fun hHeld => ?_)
          clear hK K
          refine norm_ (a' := ?_) ?_ ?_
          rotate_left
          ·show Act.put _ (some 43) _ = _
           simp only [Act.put, List.setIfInBounds_toArray, List.set_cons_zero, List.set_cons_succ, i64_w, i32_w]
           rfl
          refine pure_ (i := 9) (N := some 10) (v := ?_) (a' := ?_) #[true, true, true, true, true, true, true, true, true, true] rfl rfl (any_of HT_.out (by kernel_rfl)) (fun _ _ _ h => h) (Or.inl ⟨by rfl, ?_⟩) ?_ ?_
          rotate_left; (intro w'; go_simp; with_reducible rfl); rotate_left; (simp only [Act.put, List.setIfInBounds_toArray, List.set_cons_zero, List.set_cons_succ, i64_w, i32_w]; rfl)
          refine done_ (done_of HT_.out (by kernel_rfl)) ?_
          (try clear hHeld)
          try go_wp2
          go_ret
          exact ⟨by first | rfl | (simp [errW_none, errW_some] <;> rfl) | (simp only [← hji21]; first | rfl | (simp [errW_none, errW_some] <;> rfl)) | (simp [*, errW_none, errW_some] <;> rfl), by repeat (first | (with_reducible first | exact HB.out | apply below_alloc | apply pw_below_drewN | apply below_drew1 | refine below_set ?_ GE273.out | refine below_set ?_ GE274.out) | exact HB.out)⟩
         ·rw [if_neg c23] at H
          exact absurd H (by simp)
        ·rw [if_neg c22] at H
         exact absurd H (by simp)
       ·replace c20 := Bool.eq_false_iff.mpr c20
        subst c20
        have H1 : (some true) = some r := by rw [if_neg (show ¬ (false = true) by decide)] at H; exact H
        clear H
        have H := H1
        clear H1
        obtain rfl := Option.some.inj H
        have hnb29 := NB274_273.out
        have hnc29 := NB273_274.out
        have hcz30_0 : wc.cell? ⟨gb274, 0, none⟩ = some (.bool false) := (blk_cell BK274.out 0).trans rfl
        have hcz30_1 : wc.cell? ⟨gb274, 1, none⟩ = some (.bool a3_1) := (blk_cell BK274.out 1).trans rfl
        have hcz30_2 : wc.cell? ⟨gb274, 2, none⟩ = some (.slice A3_2 l3_2.length c3_2) := (blk_cell BK274.out 2).trans rfl
        have hcz30_3 : wc.cell? ⟨gb274, 3, none⟩ = some (.slice A3_3 l3_3.length c3_3) := (blk_cell BK274.out 3).trans rfl
        have hfz30_0 := blk_frozen BK274.out 0
        have hfz30_1 := blk_frozen BK274.out 1
        have hfz30_2 := blk_frozen BK274.out 2
        have hfz30_3 := blk_frozen BK274.out 3
        go_wp2
        go_ret
        exact ⟨by first | rfl | (simp [errW_none, errW_some] <;> rfl) | (simp [*, errW_none, errW_some] <;> rfl), by repeat (first | (with_reducible first | exact HB.out | apply below_alloc | apply pw_below_drewN | apply below_drew1 | refine below_set ?_ GE273.out | refine below_set ?_ GE274.out) | exact HB.out)⟩
  ·rw [if_neg c6] at H
   exact absurd H (by simp)
 ·rw [if_neg c5] at H
  exact absurd H (by simp)

end Go.Proofs.Ytfccebnoflhkcaa.P

