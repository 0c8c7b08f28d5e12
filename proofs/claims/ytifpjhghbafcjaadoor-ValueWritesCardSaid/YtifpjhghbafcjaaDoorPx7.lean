-- Written by wip/tools/myprint.py over the kit's print (a program's print; Lean checks it).
import Derived.Test.YtifpjhghbafcjaaDoorPx0
import Derived.Test.YtifpjhghbafcjaaDoorPx4
import Derived.Test.YtifpjhghbafcjaaDoorHText
namespace Go.Proofs.YtifpjhghbafcjaaDoor.P
open Go.RowKit Go.Proofs.YtifpjhghbafcjaaDoorW.PrintWords Go.Proofs.YtifpjhghbafcjaaDoorW.PrintLast Go.Proofs.YtifpjhghbafcjaaDoorW.PrintMore
attribute [local go_sem] max2_int min2_int max_two min_two max_three min_three max_four min_four   -- for this text's walks alone
set_option linter.unusedVariables false
set_option linter.unusedSimpArgs false

/-! ### thresherlaw03_ValueWrites: function 5 -/
mutual
def thresherlaw03_ValueWrites.j0 : Nat → Bool → Int → ByteArray → Bool → Option (Bool)
  | 0, _, _, _, _ => none
  | k + 1, x5, x6, x7, x41 => if x41 = true then (some false) else (thresherlaw03_ValueWrites.l0 k x5 x6 x7 0)
def thresherlaw03_ValueWrites.l0 : Nat → Bool → Int → ByteArray → Int → Option (Bool)
  | 0, _, _, _, _ => none
  | k + 1, x5, x6, x7, x8 => if x8 < (x7.size : Int) then (if x6 = 3 then (thresherlaw03_ValueWrites.j2 k x5 x6 x7 x8 false) else (if 0 ≤ x8 then (if (bt x7 x8) < 48 then (if x8 > 0 then (thresherlaw03_ValueWrites.j2 k x5 x6 x7 x8 true) else (if x6 = 1 then (thresherlaw03_ValueWrites.j2 k x5 x6 x7 x8 ((bt x7 x8) != 45)) else (thresherlaw03_ValueWrites.j2 k x5 x6 x7 x8 true))) else (if (bt x7 x8) > 57 then (if x8 > 0 then (thresherlaw03_ValueWrites.j2 k x5 x6 x7 x8 true) else (if x6 = 1 then (thresherlaw03_ValueWrites.j2 k x5 x6 x7 x8 ((bt x7 x8) != 45)) else (thresherlaw03_ValueWrites.j2 k x5 x6 x7 x8 true))) else (thresherlaw03_ValueWrites.j2 k x5 x6 x7 x8 false))) else (none))) else (some x5)
def thresherlaw03_ValueWrites.j2 : Nat → Bool → Int → ByteArray → Int → Bool → Option (Bool)
  | 0, _, _, _, _, _ => none
  | k + 1, x5, x6, x7, x8, x75 => if x75 = true then (some false) else (if x6 = 3 then (if 0 ≤ x8 then (if x8 < (x7.size : Int) then (if (bt x7 x8) < 32 then (thresherlaw03_ValueWrites.j3 k x5 x6 x7 x8 true) else (if (bt x7 x8) > 126 then (thresherlaw03_ValueWrites.j3 k x5 x6 x7 x8 true) else (if (bt x7 x8) = 34 then (if x8 > 0 then (thresherlaw03_ValueWrites.j3 k x5 x6 x7 x8 (decide (x8 < (wrap64 ((x7.size : Int) - 1))))) else (thresherlaw03_ValueWrites.j3 k x5 x6 x7 x8 false)) else (thresherlaw03_ValueWrites.j3 k x5 x6 x7 x8 false)))) else (none)) else (none)) else (thresherlaw03_ValueWrites.j3 k x5 x6 x7 x8 false))
def thresherlaw03_ValueWrites.j3 : Nat → Bool → Int → ByteArray → Int → Bool → Option (Bool)
  | 0, _, _, _, _, _ => none
  | k + 1, x5, x6, x7, x8, x106 => if x106 = true then (some false) else (thresherlaw03_ValueWrites.l0 k x5 x6 x7 (wrap64 (x8 + 1)))
end
def thresherlaw03_ValueWrites.f (k : Nat) (a0 : Int) (a1_0 : Int) (a1_1 : ByteArray) : Option (Bool) := (thresherlaw03_shown.f k).bind fun t166 => ((thresherlaw03_kind.f a0).bind fun t167 => ((thresherlaw03_fit.f t167 a1_0 a1_1).bind fun bt168 => ((value_Text.f t167 bt168.1 bt168.2).bind fun t170 => (if (t170.size : Int) < 1 then (thresherlaw03_ValueWrites.j0 k t166 t167 t170 true) else (if t167 = 3 then (if (t170.size : Int) < 2 then (thresherlaw03_ValueWrites.j0 k t166 t167 t170 true) else (if 0 < (t170.size : Int) then (if (bt t170 0) = 34 then (if 0 ≤ (wrap64 ((t170.size : Int) - 1)) then (if (wrap64 ((t170.size : Int) - 1)) < (t170.size : Int) then (thresherlaw03_ValueWrites.j0 k t166 t167 t170 ((bt t170 (wrap64 ((t170.size : Int) - 1))) != 34)) else (none)) else (none)) else (thresherlaw03_ValueWrites.j0 k t166 t167 t170 true)) else (none))) else (thresherlaw03_ValueWrites.j0 k t166 t167 t170 false))))))
theorem thresherlaw03_ValueWrites.mono_l : ∀ k, (∀ y0 y1 y2 y3, LeO (thresherlaw03_ValueWrites.j0 k y0 y1 y2 y3) (thresherlaw03_ValueWrites.j0 (k + 1) y0 y1 y2 y3)) ∧ (∀ y0 y1 y2 y3, LeO (thresherlaw03_ValueWrites.l0 k y0 y1 y2 y3) (thresherlaw03_ValueWrites.l0 (k + 1) y0 y1 y2 y3)) ∧ (∀ y0 y1 y2 y3 y4, LeO (thresherlaw03_ValueWrites.j2 k y0 y1 y2 y3 y4) (thresherlaw03_ValueWrites.j2 (k + 1) y0 y1 y2 y3 y4)) ∧ (∀ y0 y1 y2 y3 y4, LeO (thresherlaw03_ValueWrites.j3 k y0 y1 y2 y3 y4) (thresherlaw03_ValueWrites.j3 (k + 1) y0 y1 y2 y3 y4))
  | 0 => ⟨fun _ _ _ _ r h => by simp [thresherlaw03_ValueWrites.j0] at h, fun _ _ _ _ r h => by simp [thresherlaw03_ValueWrites.l0] at h, fun _ _ _ _ _ r h => by simp [thresherlaw03_ValueWrites.j2] at h, fun _ _ _ _ _ r h => by simp [thresherlaw03_ValueWrites.j3] at h⟩
  | k + 1 => by
    obtain ⟨ih0, ih1, ih2, ih3⟩ := thresherlaw03_ValueWrites.mono_l k
    refine ⟨?_, ?_, ?_, ?_⟩
    · intro y0 y1 y2 y3
      unfold thresherlaw03_ValueWrites.j0
      repeat' first
      | (with_reducible exact ih0 _ _ _ _)
      | (with_reducible exact ih1 _ _ _ _)
      | (with_reducible exact ih2 _ _ _ _ _)
      | (with_reducible exact ih3 _ _ _ _ _)
      | (with_reducible exact thresherlaw03_shown.mono _)
      | (with_reducible exact LeO.refl _)
      | (with_reducible exact LeO.none _)
      | (with_reducible refine LeO.ite ?_ ?_)
      | (with_reducible refine LeO.bind ?_ (fun _ => ?_))
      | exact ih0 _ _ _ _
      | exact ih1 _ _ _ _
      | exact ih2 _ _ _ _ _
      | exact ih3 _ _ _ _ _
      | exact thresherlaw03_shown.mono _
      | exact LeO.none _
      | refine LeO.ite ?_ ?_
      | refine LeO.bind ?_ (fun _ => ?_)
    · intro y0 y1 y2 y3
      unfold thresherlaw03_ValueWrites.l0
      repeat' first
      | (with_reducible exact ih0 _ _ _ _)
      | (with_reducible exact ih1 _ _ _ _)
      | (with_reducible exact ih2 _ _ _ _ _)
      | (with_reducible exact ih3 _ _ _ _ _)
      | (with_reducible exact thresherlaw03_shown.mono _)
      | (with_reducible exact LeO.refl _)
      | (with_reducible exact LeO.none _)
      | (with_reducible refine LeO.ite ?_ ?_)
      | (with_reducible refine LeO.bind ?_ (fun _ => ?_))
      | exact ih0 _ _ _ _
      | exact ih1 _ _ _ _
      | exact ih2 _ _ _ _ _
      | exact ih3 _ _ _ _ _
      | exact thresherlaw03_shown.mono _
      | exact LeO.none _
      | refine LeO.ite ?_ ?_
      | refine LeO.bind ?_ (fun _ => ?_)
    · intro y0 y1 y2 y3 y4
      unfold thresherlaw03_ValueWrites.j2
      repeat' first
      | (with_reducible exact ih0 _ _ _ _)
      | (with_reducible exact ih1 _ _ _ _)
      | (with_reducible exact ih2 _ _ _ _ _)
      | (with_reducible exact ih3 _ _ _ _ _)
      | (with_reducible exact thresherlaw03_shown.mono _)
      | (with_reducible exact LeO.refl _)
      | (with_reducible exact LeO.none _)
      | (with_reducible refine LeO.ite ?_ ?_)
      | (with_reducible refine LeO.bind ?_ (fun _ => ?_))
      | exact ih0 _ _ _ _
      | exact ih1 _ _ _ _
      | exact ih2 _ _ _ _ _
      | exact ih3 _ _ _ _ _
      | exact thresherlaw03_shown.mono _
      | exact LeO.none _
      | refine LeO.ite ?_ ?_
      | refine LeO.bind ?_ (fun _ => ?_)
    · intro y0 y1 y2 y3 y4
      unfold thresherlaw03_ValueWrites.j3
      repeat' first
      | (with_reducible exact ih0 _ _ _ _)
      | (with_reducible exact ih1 _ _ _ _)
      | (with_reducible exact ih2 _ _ _ _ _)
      | (with_reducible exact ih3 _ _ _ _ _)
      | (with_reducible exact thresherlaw03_shown.mono _)
      | (with_reducible exact LeO.refl _)
      | (with_reducible exact LeO.none _)
      | (with_reducible refine LeO.ite ?_ ?_)
      | (with_reducible refine LeO.bind ?_ (fun _ => ?_))
      | exact ih0 _ _ _ _
      | exact ih1 _ _ _ _
      | exact ih2 _ _ _ _ _
      | exact ih3 _ _ _ _ _
      | exact thresherlaw03_shown.mono _
      | exact LeO.none _
      | refine LeO.ite ?_ ?_
      | refine LeO.bind ?_ (fun _ => ?_)
theorem thresherlaw03_ValueWrites.mono : ∀ a0 a1 a2 k, LeO (thresherlaw03_ValueWrites.f k a0 a1 a2) (thresherlaw03_ValueWrites.f (k + 1) a0 a1 a2) := by
  intro a0 a1 a2 k
  obtain ⟨ih0, ih1, ih2, ih3⟩ := thresherlaw03_ValueWrites.mono_l k
  unfold thresherlaw03_ValueWrites.f
  repeat' first
      | (with_reducible exact ih0 _ _ _ _)
      | (with_reducible exact ih1 _ _ _ _)
      | (with_reducible exact ih2 _ _ _ _ _)
      | (with_reducible exact ih3 _ _ _ _ _)
      | (with_reducible exact thresherlaw03_shown.mono _)
      | (with_reducible exact LeO.refl _)
      | (with_reducible exact LeO.none _)
      | (with_reducible refine LeO.ite ?_ ?_)
      | (with_reducible refine LeO.bind ?_ (fun _ => ?_))
      | exact ih0 _ _ _ _
      | exact ih1 _ _ _ _
      | exact ih2 _ _ _ _ _
      | exact ih3 _ _ _ _ _
      | exact thresherlaw03_shown.mono _
      | exact LeO.none _
      | refine LeO.ite ?_ ?_
      | refine LeO.bind ?_ (fun _ => ?_)
set_option maxHeartbeats 8000000 in
set_option maxRecDepth 100000 in
theorem thresherlaw03_ValueWrites.calls (k : Nat) (a0 : Int) (a1_0 : Int) (a1_1 : ByteArray) (r : Bool) (w : World) (h : thresherlaw03_ValueWrites.f k a0 a1_0 a1_1 = some r) (htab_ : Tabs w) :
    Calls Tryd.prog 5 #[.int .u8 a0, .agg #[.int .i64 a1_0, .string a1_1]] w fun e w' => e = .returned (.bool r) ∧ Below w.heap.size w w' := by
  have HTAB_ := Aside0.mk htab_
  clear htab_
  have hu23 := Tryd.underlying23
  have HB := Aside0.mk (Below.refl w.heap.size w)
  have H : ((thresherlaw03_shown.f k).bind fun t166 => ((thresherlaw03_kind.f a0).bind fun t167 => ((thresherlaw03_fit.f t167 a1_0 a1_1).bind fun bt168 => ((value_Text.f t167 bt168.1 bt168.2).bind fun t170 => (if (t170.size : Int) < 1 then (thresherlaw03_ValueWrites.j0 k t166 t167 t170 true) else (if t167 = 3 then (if (t170.size : Int) < 2 then (thresherlaw03_ValueWrites.j0 k t166 t167 t170 true) else (if 0 < (t170.size : Int) then (if (bt t170 0) = 34 then (if 0 ≤ (wrap64 ((t170.size : Int) - 1)) then (if (wrap64 ((t170.size : Int) - 1)) < (t170.size : Int) then (thresherlaw03_ValueWrites.j0 k t166 t167 t170 ((bt t170 (wrap64 ((t170.size : Int) - 1))) != 34)) else (none)) else (none)) else (thresherlaw03_ValueWrites.j0 k t166 t167 t170 true)) else (none))) else (thresherlaw03_ValueWrites.j0 k t166 t167 t170 false))))))) = some r := h
  clear h
  replace H := Option.bind_eq_some_iff.mp H
  obtain ⟨t166, A30, H⟩ := H
  replace H : ((thresherlaw03_kind.f a0).bind fun t167 => ((thresherlaw03_fit.f t167 a1_0 a1_1).bind fun bt168 => ((value_Text.f t167 bt168.1 bt168.2).bind fun t170 => (if (t170.size : Int) < 1 then (thresherlaw03_ValueWrites.j0 k t166 t167 t170 true) else (if t167 = 3 then (if (t170.size : Int) < 2 then (thresherlaw03_ValueWrites.j0 k t166 t167 t170 true) else (if 0 < (t170.size : Int) then (if (bt t170 0) = 34 then (if 0 ≤ (wrap64 ((t170.size : Int) - 1)) then (if (wrap64 ((t170.size : Int) - 1)) < (t170.size : Int) then (thresherlaw03_ValueWrites.j0 k t166 t167 t170 ((bt t170 (wrap64 ((t170.size : Int) - 1))) != 34)) else (none)) else (none)) else (thresherlaw03_ValueWrites.j0 k t166 t167 t170 true)) else (none))) else (thresherlaw03_ValueWrites.j0 k t166 t167 t170 false)))))) = some r := H
  have A3 := Aside0.mk A30
  clear A30
  replace H := Option.bind_eq_some_iff.mp H
  obtain ⟨t167, A40, H⟩ := H
  replace H : ((thresherlaw03_fit.f t167 a1_0 a1_1).bind fun bt168 => ((value_Text.f t167 bt168.1 bt168.2).bind fun t170 => (if (t170.size : Int) < 1 then (thresherlaw03_ValueWrites.j0 k t166 t167 t170 true) else (if t167 = 3 then (if (t170.size : Int) < 2 then (thresherlaw03_ValueWrites.j0 k t166 t167 t170 true) else (if 0 < (t170.size : Int) then (if (bt t170 0) = 34 then (if 0 ≤ (wrap64 ((t170.size : Int) - 1)) then (if (wrap64 ((t170.size : Int) - 1)) < (t170.size : Int) then (thresherlaw03_ValueWrites.j0 k t166 t167 t170 ((bt t170 (wrap64 ((t170.size : Int) - 1))) != 34)) else (none)) else (none)) else (thresherlaw03_ValueWrites.j0 k t166 t167 t170 true)) else (none))) else (thresherlaw03_ValueWrites.j0 k t166 t167 t170 false))))) = some r := H
  have A4 := Aside0.mk A40
  clear A40
  replace H := Option.bind_eq_some_iff.mp H
  obtain ⟨⟨t168, t169⟩, A50, H⟩ := H
  replace H : ((value_Text.f t167 t168 t169).bind fun t170 => (if (t170.size : Int) < 1 then (thresherlaw03_ValueWrites.j0 k t166 t167 t170 true) else (if t167 = 3 then (if (t170.size : Int) < 2 then (thresherlaw03_ValueWrites.j0 k t166 t167 t170 true) else (if 0 < (t170.size : Int) then (if (bt t170 0) = 34 then (if 0 ≤ (wrap64 ((t170.size : Int) - 1)) then (if (wrap64 ((t170.size : Int) - 1)) < (t170.size : Int) then (thresherlaw03_ValueWrites.j0 k t166 t167 t170 ((bt t170 (wrap64 ((t170.size : Int) - 1))) != 34)) else (none)) else (none)) else (thresherlaw03_ValueWrites.j0 k t166 t167 t170 true)) else (none))) else (thresherlaw03_ValueWrites.j0 k t166 t167 t170 false)))) = some r := H
  have A5 := Aside0.mk A50
  clear A50
  replace H := Option.bind_eq_some_iff.mp H
  obtain ⟨t170, A60, H⟩ := H
  replace H : (if (t170.size : Int) < 1 then (thresherlaw03_ValueWrites.j0 k t166 t167 t170 true) else (if t167 = 3 then (if (t170.size : Int) < 2 then (thresherlaw03_ValueWrites.j0 k t166 t167 t170 true) else (if 0 < (t170.size : Int) then (if (bt t170 0) = 34 then (if 0 ≤ (wrap64 ((t170.size : Int) - 1)) then (if (wrap64 ((t170.size : Int) - 1)) < (t170.size : Int) then (thresherlaw03_ValueWrites.j0 k t166 t167 t170 ((bt t170 (wrap64 ((t170.size : Int) - 1))) != 34)) else (none)) else (none)) else (thresherlaw03_ValueWrites.j0 k t166 t167 t170 true)) else (none))) else (thresherlaw03_ValueWrites.j0 k t166 t167 t170 false))) = some r := H
  have A6 := Aside0.mk A60
  clear A60
  have HC7 := Aside0.mk H
  clear H
  go_enter Tryd.func5, Tryd.ntmps5
  go_upto_region 4 with (first | ((with_reducible refine gate_dst (N := 3) rfl ?_); (try (refine gate_guard (by rfl) ?_; dsimp only)); refine box_event ?hg (N := 3) ?hd (cs := #[.int .i64 a1_0, .string a1_1]) (t := 23) ?hr ?_; (case hd => rfl); (case hg => rfl); (case hr => first | (go_simp; done) | (go_simp; rfl)); intro gb165 hg w8 hbox hb; have n0_ := Aside0.mk (below_step (by repeat (first | (with_reducible first | exact HB.out | apply below_alloc | apply pw_below_drewN | apply below_drew1) | exact HB.out)) hb); have n1_ := Aside0.mk (hbox); have n2_ := Aside0.mk ((by rw [hg]; exact (below_size (by repeat (first | (with_reducible first | exact HB.out | apply below_alloc | apply pw_below_drewN | apply below_drew1) | exact HB.out))) : w.heap.size ≤ gb165)); have n3_ := Aside0.mk ((by rw [hg]; exact (below_size (by repeat (first | (with_reducible first | exact HB.out | apply below_alloc | apply pw_below_drewN | apply below_drew1) | exact HB.out))) : w.heap.size ≤ gb165)); clear HB; have HB := n0_; have BK165 := n1_; have GW165 := n2_; have GE165 := n3_; clear n0_ n1_ n2_ n3_; clear hb hbox hg) | ((with_reducible refine gate_callee (f := 9) rfl ?_); refine goesL_ (some 9) rfl rfl Tryd.func9 (by kernel_rfl) rfl #[] rfl (by (try simp only [List.map_toArray, List.map_cons, List.map_nil]); first | done | rfl | (simp only [List.length_drop, List.length_take]; rfl)) ?_; (with_reducible refine (thresherlaw03_shown.calls k  t166 _ A3.out (HTAB_.out.on (below_go HB.out))).mono ?_); rintro e w9 ⟨rfl, hb⟩; refine ⟨_, rfl, ?_⟩; have n0_ := Aside0.mk (blk_below (g := gb165) (o := .cells #[.int .i64 a1_0, .string a1_1] 23 (0, 0)) (by (with_reducible repeat (first | refine blk_drewN ?_ _ | refine blk_drew ?_ | refine blk_alloc ?_ _)); exact BK165.out) hb); have n1_ := Aside0.mk (below_step (by repeat (first | (with_reducible first | exact HB.out | apply below_alloc | apply pw_below_drewN | apply below_drew1 | refine below_set ?_ GE165.out) | exact HB.out)) hb); clear BK165; clear HB; have BK165 := n0_; have HB := n1_; clear n0_ n1_; (try clear hb); (try clear hb2); (try clear hk); (try clear hi)) | ((with_reducible refine gate_callee (f := 10) rfl ?_); refine goesL_ (some 11) rfl rfl Tryd.func10 (by kernel_rfl) rfl #[.int .u8 a0] rfl (by (try simp only [List.map_toArray, List.map_cons, List.map_nil]); first | done | rfl | (simp only [List.length_drop, List.length_take]; rfl)) ?_; (with_reducible refine (thresherlaw03_kind.calls a0 t167 _ A4.out).mono ?_); rintro e w' ⟨rfl, ⟨nd, rfl⟩⟩; refine ⟨_, rfl, ?_⟩; have hcz10_0 : w9.cell? ⟨gb165, 0, none⟩ = some (.int .i64 a1_0) := (blk_cell BK165.out 0).trans rfl; have hcz10_1 : w9.cell? ⟨gb165, 1, none⟩ = some (.string a1_1) := (blk_cell BK165.out 1).trans rfl; have hfz10_0 := blk_frozen BK165.out 0; have hfz10_1 := blk_frozen BK165.out 1) | ((with_reducible refine gate_callee (f := 11) rfl ?_); refine goesL_ (some 15) rfl rfl Tryd.func11 (by kernel_rfl) rfl #[.int .i64 t167, .agg #[.int .i64 a1_0, .string a1_1]] rfl (by (try simp only [List.map_toArray, List.map_cons, List.map_nil]); first | done | rfl | (simp only [List.length_drop, List.length_take]; rfl)) ?_; (with_reducible refine (thresherlaw03_fit.calls t167 a1_0 a1_1 t168 t169 _ A5.out).mono ?_); rintro e w11 ⟨rfl, hb⟩; refine ⟨_, rfl, ?_⟩; have n0_ := Aside0.mk (blk_below (g := gb165) (o := .cells #[.int .i64 a1_0, .string a1_1] 23 (0, 0)) (by (with_reducible repeat (first | refine blk_drewN ?_ _ | refine blk_drew ?_ | refine blk_alloc ?_ _)); exact BK165.out) hb); have n1_ := Aside0.mk (below_step (by repeat (first | (with_reducible first | exact HB.out | apply below_alloc | apply pw_below_drewN | apply below_drew1 | refine below_set ?_ GE165.out) | exact HB.out)) hb); clear BK165; clear HB; have BK165 := n0_; have HB := n1_; clear n0_ n1_; (try clear hb); (try clear hb2); (try clear hk); (try clear hi)) | ((with_reducible refine gate_callee (f := 13) rfl ?_); refine goesL_ (some 16) rfl rfl Tryd.func13 (by kernel_rfl) rfl #[.int .i64 t167, .agg #[.int .i64 t168, .string t169]] rfl (by (try simp only [List.map_toArray, List.map_cons, List.map_nil]); first | done | rfl | (simp only [List.length_drop, List.length_take]; rfl)) ?_; (with_reducible refine (value_Text.calls t167 t168 t169 t170 _ A6.out (HTAB_.out.on (below_go HB.out))).mono ?_); rintro e w12 ⟨rfl, hb⟩; refine ⟨_, rfl, ?_⟩; have n0_ := Aside0.mk (blk_below (g := gb165) (o := .cells #[.int .i64 a1_0, .string a1_1] 23 (0, 0)) (by (with_reducible repeat (first | refine blk_drewN ?_ _ | refine blk_drew ?_ | refine blk_alloc ?_ _)); exact BK165.out) hb); have n1_ := Aside0.mk (below_step (by repeat (first | (with_reducible first | exact HB.out | apply below_alloc | apply pw_below_drewN | apply below_drew1 | refine below_set ?_ GE165.out) | exact HB.out)) hb); clear BK165; clear HB; have BK165 := n0_; have HB := n1_; clear n0_ n1_; (try clear hb); (try clear hb2); (try clear hk); (try clear hi)))
  (try simp only [Act.put, List.setIfInBounds_toArray, List.set_cons_zero, List.set_cons_succ])
  go_cut [41] (fun v41 wc => ∃ (kq : Nat) (x41_6 : Bool), v41 = .bool x41_6 ∧ Aside0 (thresherlaw03_ValueWrites.j0 kq t166 t167 t170 x41_6 = some r) ∧ Aside0 (kq ≤ k) ∧ Aside0 (wc.heap[gb165]? = some (.cells #[.int .i64 a1_0, .string a1_1] 23 (0, 0))) ∧ Aside0 (Below w.heap.size w wc))
  case first =>
    have H := HC7.out
    clear HC7
    by_cases c13 : (t170.size : Int) < 1
    · rw [if_pos c13] at H
      have c13b0 : decide ((t170.size : Int) < 1) = true := decide_eq_true c13
      have c13b1 : decide (t170.size < 1) = true := decide_eq_true (by omega)
      clear c13
      (first | rw [c13b0] | (simp only [i64_w, i32_w]; rw [c13b0]) | skip)
      have H' := Aside0.mk H
      clear H
      go_wp2
      go_meet
      case rel => exact ⟨_, (true), (by first | rfl | (simp; done) | (simp [*]; done)), (by first | exact H' | (subst_vars; exact H')), ⟨by first | omega | exact Nat.le_refl _⟩, ⟨by (with_reducible repeat (first | refine blk_drewN ?_ _ | refine blk_drew ?_ | refine blk_alloc ?_ _)); exact BK165.out⟩, ⟨by repeat (first | (with_reducible first | exact HB.out | apply below_alloc | apply pw_below_drewN | apply below_drew1 | refine below_set ?_ GE165.out) | exact HB.out)⟩⟩
    · rw [if_neg c13] at H
      have c13b0 : decide ((t170.size : Int) < 1) = false := decide_eq_false c13
      have c13b1 : decide (t170.size < 1) = false := decide_eq_false (by omega)
      clear c13
      (first | rw [c13b0] | (simp only [i64_w, i32_w]; rw [c13b0]) | skip)
      by_cases c14 : t167 = 3
      · rw [if_pos c14] at H
        have c14b0 : (t167 == 3) = true := beq_iff_eq.mpr c14
        have c14b1 : (t167 != 3) = false := bne_eq_false_iff_eq.mpr c14
        clear c14
        by_cases c15 : (t170.size : Int) < 2
        · rw [if_pos c15] at H
          have c15b0 : decide ((t170.size : Int) < 2) = true := decide_eq_true c15
          have c15b1 : decide (t170.size < 2) = true := decide_eq_true (by omega)
          clear c15
          have H' := Aside0.mk H
          clear H
          go_wp2
          go_meet
          case rel => exact ⟨_, (true), (by first | rfl | (simp; done) | (simp [*]; done)), (by first | exact H' | (subst_vars; exact H')), ⟨by first | omega | exact Nat.le_refl _⟩, ⟨by (with_reducible repeat (first | refine blk_drewN ?_ _ | refine blk_drew ?_ | refine blk_alloc ?_ _)); exact BK165.out⟩, ⟨by repeat (first | (with_reducible first | exact HB.out | apply below_alloc | apply pw_below_drewN | apply below_drew1 | refine below_set ?_ GE165.out) | exact HB.out)⟩⟩
        · rw [if_neg c15] at H
          have c15b0 : decide ((t170.size : Int) < 2) = false := decide_eq_false c15
          have c15b1 : decide (t170.size < 2) = false := decide_eq_false (by omega)
          clear c15
          by_cases c16 : 0 < (t170.size : Int)
          · rw [if_pos c16] at H
            have c16b0 : decide (0 < (t170.size : Int)) = true := decide_eq_true c16
            have c16b1 : decide (0 < t170.size) = true := decide_eq_true (by omega)
            clear c16
            by_cases c18 : (bt t170 0) = 34
            · rw [if_pos c18] at H
              have c18b0 : ((bt t170 0) == 34) = true := beq_iff_eq.mpr c18
              have c18b1 : ((bt t170 0) != 34) = false := bne_eq_false_iff_eq.mpr c18
              clear c18
              obtain ⟨ji19, hji19⟩ : ∃ j_ : Int, (wrap64 ((t170.size : Int) - 1)) = j_ := ⟨_, rfl⟩
              replace H : (if 0 ≤ (ji19) then (if (ji19) < (t170.size : Int) then (thresherlaw03_ValueWrites.j0 k t166 t167 t170 ((bt t170 (ji19)) != 34)) else (none)) else (none)) = some r := by first | (rw [hji19] at H; exact H) | (simp only [hji19] at H ⊢; exact H)
              have hji19w : (IntKind.i64.wrap ((t170.size : Int) - 1)) = ji19 := (i64_w _).trans hji19
              by_cases c20 : 0 ≤ (ji19)
              · rw [if_pos c20] at H
                have c20b0 : decide (0 ≤ (ji19)) = true := decide_eq_true c20
                clear c20
                by_cases c21 : (ji19) < (t170.size : Int)
                · rw [if_pos c21] at H
                  have c21b0 : decide ((ji19) < (t170.size : Int)) = true := decide_eq_true c21
                  clear c21
                  have H' := Aside0.mk H
                  clear H
                  have p17 : 0 ≤ (0 : Int) := (by omega)
                  have q17 : 0 < t170.size := (by have : (0 : Int) < (t170.size : Int) := of_decide_eq_true (by first | (with_reducible assumption) | assumption); omega)
                  have hx17 : ∀ h : 0 < t170.size, ((t170[0]'h).toNat : Int) = bt t170 0 := bt_at t170 0
                  clear p17
                  have qi17 : (0 < (t170.size : Int)) = True := eq_true (of_decide_eq_true (by first | (with_reducible assumption) | assumption))
                  replace q17 := eq_true q17
                  have p22 : 0 ≤ ((ji19) : Int) := of_decide_eq_true (by first | (with_reducible assumption) | assumption)
                  have q22 : (ji19) < (t170.size : Int) := of_decide_eq_true (by first | (with_reducible assumption) | assumption)
                  have hx22 := bt_at t170 (ji19)
                  replace p22 := eq_true p22
                  replace q22 := eq_true q22
                  go_wp2
                  go_meet
                  case rel => exact ⟨_, (((bt t170 (ji19)) != 34)), (by first | rfl | (simp; done) | (simp only [← hji19] <;> (first | rfl | simp)) | (simp [*]; done)), (by first | exact H' | (subst_vars; exact H')), ⟨by first | omega | exact Nat.le_refl _⟩, ⟨by (with_reducible repeat (first | refine blk_drewN ?_ _ | refine blk_drew ?_ | refine blk_alloc ?_ _)); exact BK165.out⟩, ⟨by repeat (first | (with_reducible first | exact HB.out | apply below_alloc | apply pw_below_drewN | apply below_drew1 | refine below_set ?_ GE165.out) | exact HB.out)⟩⟩
                · rw [if_neg c21] at H
                  exact absurd H (by simp)
              · rw [if_neg c20] at H
                exact absurd H (by simp)
            · rw [if_neg c18] at H
              have c18b0 : ((bt t170 0) == 34) = false := beq_eq_false_iff_ne.mpr c18
              have c18b1 : ((bt t170 0) != 34) = true := bne_iff_ne.mpr c18
              have H' := Aside0.mk H
              clear H
              have p17 : 0 ≤ (0 : Int) := (by omega)
              have q17 : 0 < t170.size := (by have : (0 : Int) < (t170.size : Int) := of_decide_eq_true (by first | (with_reducible assumption) | assumption); omega)
              have hx17 : ∀ h : 0 < t170.size, ((t170[0]'h).toNat : Int) = bt t170 0 := bt_at t170 0
              clear p17
              have qi17 : (0 < (t170.size : Int)) = True := eq_true (of_decide_eq_true (by first | (with_reducible assumption) | assumption))
              replace q17 := eq_true q17
              go_wp2
              go_meet
              case rel => exact ⟨_, (true), (by first | rfl | (simp; done) | (simp [*]; done)), (by first | exact H' | (subst_vars; exact H')), ⟨by first | omega | exact Nat.le_refl _⟩, ⟨by (with_reducible repeat (first | refine blk_drewN ?_ _ | refine blk_drew ?_ | refine blk_alloc ?_ _)); exact BK165.out⟩, ⟨by repeat (first | (with_reducible first | exact HB.out | apply below_alloc | apply pw_below_drewN | apply below_drew1 | refine below_set ?_ GE165.out) | exact HB.out)⟩⟩
          · rw [if_neg c16] at H
            exact absurd H (by simp)
      · rw [if_neg c14] at H
        have c14b0 : (t167 == 3) = false := beq_eq_false_iff_ne.mpr c14
        have c14b1 : (t167 != 3) = true := bne_iff_ne.mpr c14
        have H' := Aside0.mk H
        clear H
        go_wp2
        go_meet
        case rel => exact ⟨_, (false), (by first | rfl | (simp; done) | (simp [*]; done)), (by first | exact H' | (subst_vars; exact H')), ⟨by first | omega | exact Nat.le_refl _⟩, ⟨by (with_reducible repeat (first | refine blk_drewN ?_ _ | refine blk_drew ?_ | refine blk_alloc ?_ _)); exact BK165.out⟩, ⟨by repeat (first | (with_reducible first | exact HB.out | apply below_alloc | apply pw_below_drewN | apply below_drew1 | refine below_set ?_ GE165.out) | exact HB.out)⟩⟩
  case rest =>
    clear HC7
    try clear c1
    try clear p1
    try clear q1
    try clear hx1
    try clear qi1
    try clear c2
    try clear p2
    try clear q2
    try clear hx2
    try clear c5
    try clear p6
    try clear c9
    try clear c10
    try clear c11
    try clear c13
    try clear c13b0
    try clear c13b1
    try clear c14
    try clear c14b0
    try clear c14b1
    try clear c15
    try clear c15b0
    try clear c15b1
    try clear c16
    try clear c16b0
    try clear c16b1
    try clear p17
    try clear q17
    try clear hx17
    try clear qi17
    try clear c18
    try clear c18b0
    try clear c18b1
    try clear c20
    try clear c20b0
    try clear c21
    try clear c21b0
    try clear p22
    try clear q22
    try clear hx22
    try clear hcz10_0
    try clear hcz10_1
    try clear hfz10_0
    try clear hfz10_1
    try clear p17
    try clear p22
    try clear q17
    try clear q22
    obtain ⟨kq, x41_6, rfl, HA, HJ6, BK165, HB⟩ := hcut
    cases kq with
    | zero => exact absurd HA.out (by simp [thresherlaw03_ValueWrites.j0])
    | succ kj6 =>
      have H := HA.out
      clear HA
      simp only [thresherlaw03_ValueWrites.j0] at H
      by_cases c23 : x41_6 = true
      · subst c23
        have H1 : (some false) = some r := by rw [if_pos rfl] at H; exact H
        clear H
        have H := H1
        clear H1
        obtain rfl := Option.some.inj H
        go_wp2
        go_ret
        exact ⟨by first | rfl | (simp [errW_none, errW_some] <;> rfl) | (simp [*, errW_none, errW_some] <;> rfl), by repeat (first | (with_reducible first | exact HB.out | apply below_alloc | apply pw_below_drewN | apply below_drew1 | refine below_set ?_ GE165.out) | exact HB.out)⟩
      · replace c23 := Bool.eq_false_iff.mpr c23
        subst c23
        have H1 : (thresherlaw03_ValueWrites.l0 kj6 t166 t167 t170 0) = some r := by rw [if_neg (show ¬ (false = true) by decide)] at H; exact H
        clear H
        have H := H1
        clear H1
        have H' := Aside0.mk H
        clear H
        go_wp2
        go_loopg [8] kj6 (fun kq v8 w' => ∃ (x8_2 : Int), v8 = .int .i64 x8_2 ∧ Aside0 (thresherlaw03_ValueWrites.l0 kq t166 t167 t170 x8_2 = some r) ∧ Aside0 (kq ≤ kj6) ∧ Aside0 (w'.heap[gb165]? = some (.cells #[.int .i64 a1_0, .string a1_1] 23 (0, 0))) ∧ Aside0 (Below w.heap.size w w'))
        case atStart => exact ⟨(0), (by first | rfl | (simp; done) | (simp [*]; done)), H', ⟨Nat.le_refl _⟩, ⟨by (with_reducible repeat (first | refine blk_drewN ?_ _ | refine blk_drew ?_ | refine blk_alloc ?_ _)); exact BK165.out⟩, ⟨by repeat (first | (with_reducible first | exact HB.out | apply below_alloc | apply pw_below_drewN | apply below_drew1 | refine below_set ?_ GE165.out) | exact HB.out)⟩⟩
        case round =>
          clear H'
          try clear c1
          try clear p1
          try clear q1
          try clear hx1
          try clear qi1
          try clear c2
          try clear p2
          try clear q2
          try clear hx2
          try clear c5
          try clear p6
          try clear c9
          try clear c10
          try clear c11
          try clear c13
          try clear c13b0
          try clear c13b1
          try clear c14
          try clear c14b0
          try clear c14b1
          try clear c15
          try clear c15b0
          try clear c15b1
          try clear c16
          try clear c16b0
          try clear c16b1
          try clear p17
          try clear q17
          try clear hx17
          try clear qi17
          try clear c18
          try clear c18b0
          try clear c18b1
          try clear c20
          try clear c20b0
          try clear c21
          try clear c21b0
          try clear p22
          try clear q22
          try clear hx22
          try clear c23
          try clear hcz10_0
          try clear hcz10_1
          try clear hfz10_0
          try clear hfz10_1
          try clear p1
          try clear p17
          try clear p2
          try clear p22
          try clear p6
          try clear q1
          try clear q17
          try clear q2
          try clear q22
          obtain ⟨x8_2, rfl, HA, HK2, BK165, HB⟩ := hrel
          cases gk with
          | zero => exact absurd HA.out (by simp [thresherlaw03_ValueWrites.l0])
          | succ k2 =>
            have H := HA.out
            clear HA
            simp only [thresherlaw03_ValueWrites.l0] at H
            by_cases c24 : x8_2 < (t170.size : Int)
            · rw [if_pos c24] at H
              have c24b0 : decide (x8_2 < (t170.size : Int)) = true := decide_eq_true c24
              clear c24
              have HC25 := Aside0.mk H
              clear H
              go_upto_region 9 with (fail)
              go_cut [75] (fun v75 wc => ∃ (kq : Nat) (x75_24 : Bool), v75 = .bool x75_24 ∧ Aside0 (thresherlaw03_ValueWrites.j2 kq t166 t167 t170 x8_2 x75_24 = some r) ∧ Aside0 (kq ≤ k2) ∧ Aside0 (wc.heap[gb165]? = some (.cells #[.int .i64 a1_0, .string a1_1] 23 (0, 0))) ∧ Aside0 (Below w.heap.size w wc))
              case first =>
                have H := HC25.out
                clear HC25
                by_cases c26 : t167 = 3
                · rw [if_pos c26] at H
                  have c26b0 : (t167 == 3) = true := beq_iff_eq.mpr c26
                  have c26b1 : (t167 != 3) = false := bne_eq_false_iff_eq.mpr c26
                  clear c26
                  (first | rw [c26b0] | (simp only [i64_w, i32_w]; rw [c26b0]) | skip)
                  have H' := Aside0.mk H
                  clear H
                  go_wp2
                  go_meet
                  case rel => exact ⟨_, (false), (by first | rfl | (simp; done) | (simp [*]; done)), (by first | exact H' | (subst_vars; exact H')), ⟨by have := HJ6.out; have := HK2.out; first | omega | exact Nat.le_refl _⟩, ⟨by (with_reducible repeat (first | refine blk_drewN ?_ _ | refine blk_drew ?_ | refine blk_alloc ?_ _)); exact BK165.out⟩, ⟨by repeat (first | (with_reducible first | exact HB.out | apply below_alloc | apply pw_below_drewN | apply below_drew1 | refine below_set ?_ GE165.out) | exact HB.out)⟩⟩
                · rw [if_neg c26] at H
                  have c26b0 : (t167 == 3) = false := beq_eq_false_iff_ne.mpr c26
                  have c26b1 : (t167 != 3) = true := bne_iff_ne.mpr c26
                  (first | rw [c26b0] | (simp only [i64_w, i32_w]; rw [c26b0]) | skip)
                  by_cases c27 : 0 ≤ x8_2
                  · rw [if_pos c27] at H
                    have c27b0 : decide (0 ≤ x8_2) = true := decide_eq_true c27
                    clear c27
                    by_cases c29 : (bt t170 x8_2) < 48
                    · rw [if_pos c29] at H
                      have c29b0 : decide ((bt t170 x8_2) < 48) = true := decide_eq_true c29
                      clear c29
                      by_cases c30 : x8_2 > 0
                      · rw [if_pos c30] at H
                        have c30b0 : decide (0 < x8_2) = true := decide_eq_true c30
                        clear c30
                        have H' := Aside0.mk H
                        clear H
                        have p28 : 0 ≤ (x8_2 : Int) := of_decide_eq_true (by first | (with_reducible assumption) | assumption)
                        have q28 : x8_2 < (t170.size : Int) := of_decide_eq_true (by first | (with_reducible assumption) | assumption)
                        have hx28 := bt_at t170 x8_2
                        replace p28 := eq_true p28
                        replace q28 := eq_true q28
                        go_wp2
                        go_meet
                        case rel => exact ⟨_, (true), (by first | rfl | (simp; done) | (simp [*]; done)), (by first | exact H' | (subst_vars; exact H')), ⟨by have := HJ6.out; have := HK2.out; first | omega | exact Nat.le_refl _⟩, ⟨by (with_reducible repeat (first | refine blk_drewN ?_ _ | refine blk_drew ?_ | refine blk_alloc ?_ _)); exact BK165.out⟩, ⟨by repeat (first | (with_reducible first | exact HB.out | apply below_alloc | apply pw_below_drewN | apply below_drew1 | refine below_set ?_ GE165.out) | exact HB.out)⟩⟩
                      · rw [if_neg c30] at H
                        have c30b0 : decide (0 < x8_2) = false := decide_eq_false c30
                        clear c30
                        by_cases c31 : t167 = 1
                        · rw [if_pos c31] at H
                          have c31b0 : (t167 == 1) = true := beq_iff_eq.mpr c31
                          have c31b1 : (t167 != 1) = false := bne_eq_false_iff_eq.mpr c31
                          clear c31
                          have H' := Aside0.mk H
                          clear H
                          have p28 : 0 ≤ (x8_2 : Int) := of_decide_eq_true (by first | (with_reducible assumption) | assumption)
                          have q28 : x8_2 < (t170.size : Int) := of_decide_eq_true (by first | (with_reducible assumption) | assumption)
                          have hx28 := bt_at t170 x8_2
                          replace p28 := eq_true p28
                          replace q28 := eq_true q28
                          have p32 : 0 ≤ (x8_2 : Int) := of_decide_eq_true (by first | (with_reducible assumption) | assumption)
                          have q32 : x8_2 < (t170.size : Int) := of_decide_eq_true (by first | (with_reducible assumption) | assumption)
                          have hx32 := bt_at t170 x8_2
                          replace p32 := eq_true p32
                          replace q32 := eq_true q32
                          go_wp2
                          go_meet
                          case rel => exact ⟨_, (((bt t170 x8_2) != 45)), (by first | rfl | (simp; done) | (simp [*]; done)), (by first | exact H' | (subst_vars; exact H')), ⟨by have := HJ6.out; have := HK2.out; first | omega | exact Nat.le_refl _⟩, ⟨by (with_reducible repeat (first | refine blk_drewN ?_ _ | refine blk_drew ?_ | refine blk_alloc ?_ _)); exact BK165.out⟩, ⟨by repeat (first | (with_reducible first | exact HB.out | apply below_alloc | apply pw_below_drewN | apply below_drew1 | refine below_set ?_ GE165.out) | exact HB.out)⟩⟩
                        · rw [if_neg c31] at H
                          have c31b0 : (t167 == 1) = false := beq_eq_false_iff_ne.mpr c31
                          have c31b1 : (t167 != 1) = true := bne_iff_ne.mpr c31
                          have H' := Aside0.mk H
                          clear H
                          have p28 : 0 ≤ (x8_2 : Int) := of_decide_eq_true (by first | (with_reducible assumption) | assumption)
                          have q28 : x8_2 < (t170.size : Int) := of_decide_eq_true (by first | (with_reducible assumption) | assumption)
                          have hx28 := bt_at t170 x8_2
                          replace p28 := eq_true p28
                          replace q28 := eq_true q28
                          go_wp2
                          go_meet
                          case rel => exact ⟨_, (true), (by first | rfl | (simp; done) | (simp [*]; done)), (by first | exact H' | (subst_vars; exact H')), ⟨by have := HJ6.out; have := HK2.out; first | omega | exact Nat.le_refl _⟩, ⟨by (with_reducible repeat (first | refine blk_drewN ?_ _ | refine blk_drew ?_ | refine blk_alloc ?_ _)); exact BK165.out⟩, ⟨by repeat (first | (with_reducible first | exact HB.out | apply below_alloc | apply pw_below_drewN | apply below_drew1 | refine below_set ?_ GE165.out) | exact HB.out)⟩⟩
                    · rw [if_neg c29] at H
                      have c29b0 : decide ((bt t170 x8_2) < 48) = false := decide_eq_false c29
                      clear c29
                      by_cases c34 : (bt t170 x8_2) > 57
                      · rw [if_pos c34] at H
                        have c34b0 : decide (57 < (bt t170 x8_2)) = true := decide_eq_true c34
                        clear c34
                        by_cases c35 : x8_2 > 0
                        · rw [if_pos c35] at H
                          have c35b0 : decide (0 < x8_2) = true := decide_eq_true c35
                          clear c35
                          have H' := Aside0.mk H
                          clear H
                          have p28 : 0 ≤ (x8_2 : Int) := of_decide_eq_true (by first | (with_reducible assumption) | assumption)
                          have q28 : x8_2 < (t170.size : Int) := of_decide_eq_true (by first | (with_reducible assumption) | assumption)
                          have hx28 := bt_at t170 x8_2
                          replace p28 := eq_true p28
                          replace q28 := eq_true q28
                          have p33 : 0 ≤ (x8_2 : Int) := of_decide_eq_true (by first | (with_reducible assumption) | assumption)
                          have q33 : x8_2 < (t170.size : Int) := of_decide_eq_true (by first | (with_reducible assumption) | assumption)
                          have hx33 := bt_at t170 x8_2
                          replace p33 := eq_true p33
                          replace q33 := eq_true q33
                          go_wp2
                          go_meet
                          case rel => exact ⟨_, (true), (by first | rfl | (simp; done) | (simp [*]; done)), (by first | exact H' | (subst_vars; exact H')), ⟨by have := HJ6.out; have := HK2.out; first | omega | exact Nat.le_refl _⟩, ⟨by (with_reducible repeat (first | refine blk_drewN ?_ _ | refine blk_drew ?_ | refine blk_alloc ?_ _)); exact BK165.out⟩, ⟨by repeat (first | (with_reducible first | exact HB.out | apply below_alloc | apply pw_below_drewN | apply below_drew1 | refine below_set ?_ GE165.out) | exact HB.out)⟩⟩
                        · rw [if_neg c35] at H
                          have c35b0 : decide (0 < x8_2) = false := decide_eq_false c35
                          clear c35
                          by_cases c36 : t167 = 1
                          · rw [if_pos c36] at H
                            have c36b0 : (t167 == 1) = true := beq_iff_eq.mpr c36
                            have c36b1 : (t167 != 1) = false := bne_eq_false_iff_eq.mpr c36
                            clear c36
                            have H' := Aside0.mk H
                            clear H
                            have p28 : 0 ≤ (x8_2 : Int) := of_decide_eq_true (by first | (with_reducible assumption) | assumption)
                            have q28 : x8_2 < (t170.size : Int) := of_decide_eq_true (by first | (with_reducible assumption) | assumption)
                            have hx28 := bt_at t170 x8_2
                            replace p28 := eq_true p28
                            replace q28 := eq_true q28
                            have p33 : 0 ≤ (x8_2 : Int) := of_decide_eq_true (by first | (with_reducible assumption) | assumption)
                            have q33 : x8_2 < (t170.size : Int) := of_decide_eq_true (by first | (with_reducible assumption) | assumption)
                            have hx33 := bt_at t170 x8_2
                            replace p33 := eq_true p33
                            replace q33 := eq_true q33
                            have p37 : 0 ≤ (x8_2 : Int) := of_decide_eq_true (by first | (with_reducible assumption) | assumption)
                            have q37 : x8_2 < (t170.size : Int) := of_decide_eq_true (by first | (with_reducible assumption) | assumption)
                            have hx37 := bt_at t170 x8_2
                            replace p37 := eq_true p37
                            replace q37 := eq_true q37
                            go_wp2
                            go_meet
                            case rel => exact ⟨_, (((bt t170 x8_2) != 45)), (by first | rfl | (simp; done) | (simp [*]; done)), (by first | exact H' | (subst_vars; exact H')), ⟨by have := HJ6.out; have := HK2.out; first | omega | exact Nat.le_refl _⟩, ⟨by (with_reducible repeat (first | refine blk_drewN ?_ _ | refine blk_drew ?_ | refine blk_alloc ?_ _)); exact BK165.out⟩, ⟨by repeat (first | (with_reducible first | exact HB.out | apply below_alloc | apply pw_below_drewN | apply below_drew1 | refine below_set ?_ GE165.out) | exact HB.out)⟩⟩
                          · rw [if_neg c36] at H
                            have c36b0 : (t167 == 1) = false := beq_eq_false_iff_ne.mpr c36
                            have c36b1 : (t167 != 1) = true := bne_iff_ne.mpr c36
                            have H' := Aside0.mk H
                            clear H
                            have p28 : 0 ≤ (x8_2 : Int) := of_decide_eq_true (by first | (with_reducible assumption) | assumption)
                            have q28 : x8_2 < (t170.size : Int) := of_decide_eq_true (by first | (with_reducible assumption) | assumption)
                            have hx28 := bt_at t170 x8_2
                            replace p28 := eq_true p28
                            replace q28 := eq_true q28
                            have p33 : 0 ≤ (x8_2 : Int) := of_decide_eq_true (by first | (with_reducible assumption) | assumption)
                            have q33 : x8_2 < (t170.size : Int) := of_decide_eq_true (by first | (with_reducible assumption) | assumption)
                            have hx33 := bt_at t170 x8_2
                            replace p33 := eq_true p33
                            replace q33 := eq_true q33
                            go_wp2
                            go_meet
                            case rel => exact ⟨_, (true), (by first | rfl | (simp; done) | (simp [*]; done)), (by first | exact H' | (subst_vars; exact H')), ⟨by have := HJ6.out; have := HK2.out; first | omega | exact Nat.le_refl _⟩, ⟨by (with_reducible repeat (first | refine blk_drewN ?_ _ | refine blk_drew ?_ | refine blk_alloc ?_ _)); exact BK165.out⟩, ⟨by repeat (first | (with_reducible first | exact HB.out | apply below_alloc | apply pw_below_drewN | apply below_drew1 | refine below_set ?_ GE165.out) | exact HB.out)⟩⟩
                      · rw [if_neg c34] at H
                        have c34b0 : decide (57 < (bt t170 x8_2)) = false := decide_eq_false c34
                        clear c34
                        have H' := Aside0.mk H
                        clear H
                        have p28 : 0 ≤ (x8_2 : Int) := of_decide_eq_true (by first | (with_reducible assumption) | assumption)
                        have q28 : x8_2 < (t170.size : Int) := of_decide_eq_true (by first | (with_reducible assumption) | assumption)
                        have hx28 := bt_at t170 x8_2
                        replace p28 := eq_true p28
                        replace q28 := eq_true q28
                        have p33 : 0 ≤ (x8_2 : Int) := of_decide_eq_true (by first | (with_reducible assumption) | assumption)
                        have q33 : x8_2 < (t170.size : Int) := of_decide_eq_true (by first | (with_reducible assumption) | assumption)
                        have hx33 := bt_at t170 x8_2
                        replace p33 := eq_true p33
                        replace q33 := eq_true q33
                        go_wp2
                        go_meet
                        case rel => exact ⟨_, (false), (by first | rfl | (simp; done) | (simp [*]; done)), (by first | exact H' | (subst_vars; exact H')), ⟨by have := HJ6.out; have := HK2.out; first | omega | exact Nat.le_refl _⟩, ⟨by (with_reducible repeat (first | refine blk_drewN ?_ _ | refine blk_drew ?_ | refine blk_alloc ?_ _)); exact BK165.out⟩, ⟨by repeat (first | (with_reducible first | exact HB.out | apply below_alloc | apply pw_below_drewN | apply below_drew1 | refine below_set ?_ GE165.out) | exact HB.out)⟩⟩
                  · rw [if_neg c27] at H
                    exact absurd H (by simp)
              case rest =>
                clear HC25
                try clear c1
                try clear p1
                try clear q1
                try clear hx1
                try clear qi1
                try clear c2
                try clear p2
                try clear q2
                try clear hx2
                try clear c3
                try clear p3
                try clear q3
                try clear hx3
                try clear c5
                try clear p6
                try clear c9
                try clear c10
                try clear c11
                try clear c13
                try clear c13b0
                try clear c13b1
                try clear c14
                try clear c14b0
                try clear c14b1
                try clear c15
                try clear c15b0
                try clear c15b1
                try clear c16
                try clear c16b0
                try clear c16b1
                try clear p17
                try clear q17
                try clear hx17
                try clear qi17
                try clear c18
                try clear c18b0
                try clear c18b1
                try clear c20
                try clear c20b0
                try clear c21
                try clear c21b0
                try clear p22
                try clear q22
                try clear hx22
                try clear c23
                try clear c24
                try clear c24b0
                try clear c26
                try clear c26b0
                try clear c26b1
                try clear c27
                try clear c27b0
                try clear p28
                try clear q28
                try clear hx28
                try clear c29
                try clear c29b0
                try clear c30
                try clear c30b0
                try clear c31
                try clear c31b0
                try clear c31b1
                try clear p32
                try clear q32
                try clear hx32
                try clear p33
                try clear q33
                try clear hx33
                try clear c34
                try clear c34b0
                try clear c35
                try clear c35b0
                try clear c36
                try clear c36b0
                try clear c36b1
                try clear p37
                try clear q37
                try clear hx37
                try clear hcz10_0
                try clear hcz10_1
                try clear hfz10_0
                try clear hfz10_1
                try clear p1
                try clear p17
                try clear p2
                try clear p22
                try clear p28
                try clear p32
                try clear p33
                try clear p37
                try clear p6
                try clear q1
                try clear q17
                try clear q2
                try clear q22
                try clear q28
                try clear q32
                try clear q33
                try clear q37
                obtain ⟨kq, x75_24, rfl, HA, HJ24, BK165, HB⟩ := hcut
                cases kq with
                | zero => exact absurd HA.out (by simp [thresherlaw03_ValueWrites.j2])
                | succ kj24 =>
                  have H := HA.out
                  clear HA
                  simp only [thresherlaw03_ValueWrites.j2] at H
                  by_cases c38 : x75_24 = true
                  · subst c38
                    have H1 : (some false) = some r := by rw [if_pos rfl] at H; exact H
                    clear H
                    have H := H1
                    clear H1
                    obtain rfl := Option.some.inj H
                    go_wp2
                    go_ret
                    exact ⟨by first | rfl | (simp [errW_none, errW_some] <;> rfl) | (simp [*, errW_none, errW_some] <;> rfl), by repeat (first | (with_reducible first | exact HB.out | apply below_alloc | apply pw_below_drewN | apply below_drew1 | refine below_set ?_ GE165.out) | exact HB.out)⟩
                  · replace c38 := Bool.eq_false_iff.mpr c38
                    subst c38
                    have H1 : (if t167 = 3 then (if 0 ≤ x8_2 then (if x8_2 < (t170.size : Int) then (if (bt t170 x8_2) < 32 then (thresherlaw03_ValueWrites.j3 kj24 t166 t167 t170 x8_2 true) else (if (bt t170 x8_2) > 126 then (thresherlaw03_ValueWrites.j3 kj24 t166 t167 t170 x8_2 true) else (if (bt t170 x8_2) = 34 then (if x8_2 > 0 then (thresherlaw03_ValueWrites.j3 kj24 t166 t167 t170 x8_2 (decide (x8_2 < (wrap64 ((t170.size : Int) - 1))))) else (thresherlaw03_ValueWrites.j3 kj24 t166 t167 t170 x8_2 false)) else (thresherlaw03_ValueWrites.j3 kj24 t166 t167 t170 x8_2 false)))) else (none)) else (none)) else (thresherlaw03_ValueWrites.j3 kj24 t166 t167 t170 x8_2 false)) = some r := by rw [if_neg (show ¬ (false = true) by decide)] at H; exact H
                    clear H
                    have H := H1
                    clear H1
                    have HC39 := Aside0.mk H
                    clear H
                    go_upto_region 11 with (fail)
                    go_cut [106] (fun v106 wc => ∃ (kq : Nat) (x106_38 : Bool), v106 = .bool x106_38 ∧ Aside0 (thresherlaw03_ValueWrites.j3 kq t166 t167 t170 x8_2 x106_38 = some r) ∧ Aside0 (kq ≤ kj24) ∧ Aside0 (wc.heap[gb165]? = some (.cells #[.int .i64 a1_0, .string a1_1] 23 (0, 0))) ∧ Aside0 (Below w.heap.size w wc))
                    case first =>
                      have H := HC39.out
                      clear HC39
                      by_cases c40 : t167 = 3
                      · rw [if_pos c40] at H
                        have c40b0 : (t167 == 3) = true := beq_iff_eq.mpr c40
                        have c40b1 : (t167 != 3) = false := bne_eq_false_iff_eq.mpr c40
                        clear c40
                        (first | rw [c40b0] | (simp only [i64_w, i32_w]; rw [c40b0]) | skip)
                        by_cases c41 : 0 ≤ x8_2
                        · rw [if_pos c41] at H
                          have c41b0 : decide (0 ≤ x8_2) = true := decide_eq_true c41
                          clear c41
                          by_cases c42 : x8_2 < (t170.size : Int)
                          · rw [if_pos c42] at H
                            have c42b0 : decide (x8_2 < (t170.size : Int)) = true := decide_eq_true c42
                            clear c42
                            by_cases c44 : (bt t170 x8_2) < 32
                            · rw [if_pos c44] at H
                              have c44b0 : decide ((bt t170 x8_2) < 32) = true := decide_eq_true c44
                              clear c44
                              have H' := Aside0.mk H
                              clear H
                              have p43 : 0 ≤ (x8_2 : Int) := of_decide_eq_true (by first | (with_reducible assumption) | assumption)
                              have q43 : x8_2 < (t170.size : Int) := of_decide_eq_true (by first | (with_reducible assumption) | assumption)
                              have hx43 := bt_at t170 x8_2
                              replace p43 := eq_true p43
                              replace q43 := eq_true q43
                              go_wp2
                              go_meet
                              case rel => exact ⟨_, (true), (by first | rfl | (simp; done) | (simp [*]; done)), (by first | exact H' | (subst_vars; exact H')), ⟨by have := HJ6.out; have := HK2.out; have := HJ24.out; first | omega | exact Nat.le_refl _⟩, ⟨by (with_reducible repeat (first | refine blk_drewN ?_ _ | refine blk_drew ?_ | refine blk_alloc ?_ _)); exact BK165.out⟩, ⟨by repeat (first | (with_reducible first | exact HB.out | apply below_alloc | apply pw_below_drewN | apply below_drew1 | refine below_set ?_ GE165.out) | exact HB.out)⟩⟩
                            · rw [if_neg c44] at H
                              have c44b0 : decide ((bt t170 x8_2) < 32) = false := decide_eq_false c44
                              clear c44
                              by_cases c46 : (bt t170 x8_2) > 126
                              · rw [if_pos c46] at H
                                have c46b0 : decide (126 < (bt t170 x8_2)) = true := decide_eq_true c46
                                clear c46
                                have H' := Aside0.mk H
                                clear H
                                have p43 : 0 ≤ (x8_2 : Int) := of_decide_eq_true (by first | (with_reducible assumption) | assumption)
                                have q43 : x8_2 < (t170.size : Int) := of_decide_eq_true (by first | (with_reducible assumption) | assumption)
                                have hx43 := bt_at t170 x8_2
                                replace p43 := eq_true p43
                                replace q43 := eq_true q43
                                have p45 : 0 ≤ (x8_2 : Int) := of_decide_eq_true (by first | (with_reducible assumption) | assumption)
                                have q45 : x8_2 < (t170.size : Int) := of_decide_eq_true (by first | (with_reducible assumption) | assumption)
                                have hx45 := bt_at t170 x8_2
                                replace p45 := eq_true p45
                                replace q45 := eq_true q45
                                go_wp2
                                go_meet
                                case rel => exact ⟨_, (true), (by first | rfl | (simp; done) | (simp [*]; done)), (by first | exact H' | (subst_vars; exact H')), ⟨by have := HJ6.out; have := HK2.out; have := HJ24.out; first | omega | exact Nat.le_refl _⟩, ⟨by (with_reducible repeat (first | refine blk_drewN ?_ _ | refine blk_drew ?_ | refine blk_alloc ?_ _)); exact BK165.out⟩, ⟨by repeat (first | (with_reducible first | exact HB.out | apply below_alloc | apply pw_below_drewN | apply below_drew1 | refine below_set ?_ GE165.out) | exact HB.out)⟩⟩
                              · rw [if_neg c46] at H
                                have c46b0 : decide (126 < (bt t170 x8_2)) = false := decide_eq_false c46
                                clear c46
                                by_cases c48 : (bt t170 x8_2) = 34
                                · rw [if_pos c48] at H
                                  have c48b0 : ((bt t170 x8_2) == 34) = true := beq_iff_eq.mpr c48
                                  have c48b1 : ((bt t170 x8_2) != 34) = false := bne_eq_false_iff_eq.mpr c48
                                  clear c48
                                  by_cases c49 : x8_2 > 0
                                  · rw [if_pos c49] at H
                                    have c49b0 : decide (0 < x8_2) = true := decide_eq_true c49
                                    clear c49
                                    have H' := Aside0.mk H
                                    clear H
                                    have p43 : 0 ≤ (x8_2 : Int) := of_decide_eq_true (by first | (with_reducible assumption) | assumption)
                                    have q43 : x8_2 < (t170.size : Int) := of_decide_eq_true (by first | (with_reducible assumption) | assumption)
                                    have hx43 := bt_at t170 x8_2
                                    replace p43 := eq_true p43
                                    replace q43 := eq_true q43
                                    have p45 : 0 ≤ (x8_2 : Int) := of_decide_eq_true (by first | (with_reducible assumption) | assumption)
                                    have q45 : x8_2 < (t170.size : Int) := of_decide_eq_true (by first | (with_reducible assumption) | assumption)
                                    have hx45 := bt_at t170 x8_2
                                    replace p45 := eq_true p45
                                    replace q45 := eq_true q45
                                    have p47 : 0 ≤ (x8_2 : Int) := of_decide_eq_true (by first | (with_reducible assumption) | assumption)
                                    have q47 : x8_2 < (t170.size : Int) := of_decide_eq_true (by first | (with_reducible assumption) | assumption)
                                    have hx47 := bt_at t170 x8_2
                                    replace p47 := eq_true p47
                                    replace q47 := eq_true q47
                                    go_wp2
                                    go_meet
                                    case rel => exact ⟨_, (decide (x8_2 < (wrap64 ((t170.size : Int) - 1)))), (by first | rfl | (simp; done) | (simp [*]; done)), (by first | exact H' | (subst_vars; exact H')), ⟨by have := HJ6.out; have := HK2.out; have := HJ24.out; first | omega | exact Nat.le_refl _⟩, ⟨by (with_reducible repeat (first | refine blk_drewN ?_ _ | refine blk_drew ?_ | refine blk_alloc ?_ _)); exact BK165.out⟩, ⟨by repeat (first | (with_reducible first | exact HB.out | apply below_alloc | apply pw_below_drewN | apply below_drew1 | refine below_set ?_ GE165.out) | exact HB.out)⟩⟩
                                  · rw [if_neg c49] at H
                                    have c49b0 : decide (0 < x8_2) = false := decide_eq_false c49
                                    clear c49
                                    have H' := Aside0.mk H
                                    clear H
                                    have p43 : 0 ≤ (x8_2 : Int) := of_decide_eq_true (by first | (with_reducible assumption) | assumption)
                                    have q43 : x8_2 < (t170.size : Int) := of_decide_eq_true (by first | (with_reducible assumption) | assumption)
                                    have hx43 := bt_at t170 x8_2
                                    replace p43 := eq_true p43
                                    replace q43 := eq_true q43
                                    have p45 : 0 ≤ (x8_2 : Int) := of_decide_eq_true (by first | (with_reducible assumption) | assumption)
                                    have q45 : x8_2 < (t170.size : Int) := of_decide_eq_true (by first | (with_reducible assumption) | assumption)
                                    have hx45 := bt_at t170 x8_2
                                    replace p45 := eq_true p45
                                    replace q45 := eq_true q45
                                    have p47 : 0 ≤ (x8_2 : Int) := of_decide_eq_true (by first | (with_reducible assumption) | assumption)
                                    have q47 : x8_2 < (t170.size : Int) := of_decide_eq_true (by first | (with_reducible assumption) | assumption)
                                    have hx47 := bt_at t170 x8_2
                                    replace p47 := eq_true p47
                                    replace q47 := eq_true q47
                                    go_wp2
                                    go_meet
                                    case rel => exact ⟨_, (false), (by first | rfl | (simp; done) | (simp [*]; done)), (by first | exact H' | (subst_vars; exact H')), ⟨by have := HJ6.out; have := HK2.out; have := HJ24.out; first | omega | exact Nat.le_refl _⟩, ⟨by (with_reducible repeat (first | refine blk_drewN ?_ _ | refine blk_drew ?_ | refine blk_alloc ?_ _)); exact BK165.out⟩, ⟨by repeat (first | (with_reducible first | exact HB.out | apply below_alloc | apply pw_below_drewN | apply below_drew1 | refine below_set ?_ GE165.out) | exact HB.out)⟩⟩
                                · rw [if_neg c48] at H
                                  have c48b0 : ((bt t170 x8_2) == 34) = false := beq_eq_false_iff_ne.mpr c48
                                  have c48b1 : ((bt t170 x8_2) != 34) = true := bne_iff_ne.mpr c48
                                  have H' := Aside0.mk H
                                  clear H
                                  have p43 : 0 ≤ (x8_2 : Int) := of_decide_eq_true (by first | (with_reducible assumption) | assumption)
                                  have q43 : x8_2 < (t170.size : Int) := of_decide_eq_true (by first | (with_reducible assumption) | assumption)
                                  have hx43 := bt_at t170 x8_2
                                  replace p43 := eq_true p43
                                  replace q43 := eq_true q43
                                  have p45 : 0 ≤ (x8_2 : Int) := of_decide_eq_true (by first | (with_reducible assumption) | assumption)
                                  have q45 : x8_2 < (t170.size : Int) := of_decide_eq_true (by first | (with_reducible assumption) | assumption)
                                  have hx45 := bt_at t170 x8_2
                                  replace p45 := eq_true p45
                                  replace q45 := eq_true q45
                                  have p47 : 0 ≤ (x8_2 : Int) := of_decide_eq_true (by first | (with_reducible assumption) | assumption)
                                  have q47 : x8_2 < (t170.size : Int) := of_decide_eq_true (by first | (with_reducible assumption) | assumption)
                                  have hx47 := bt_at t170 x8_2
                                  replace p47 := eq_true p47
                                  replace q47 := eq_true q47
                                  go_wp2
                                  go_meet
                                  case rel => exact ⟨_, (false), (by first | rfl | (simp; done) | (simp [*]; done)), (by first | exact H' | (subst_vars; exact H')), ⟨by have := HJ6.out; have := HK2.out; have := HJ24.out; first | omega | exact Nat.le_refl _⟩, ⟨by (with_reducible repeat (first | refine blk_drewN ?_ _ | refine blk_drew ?_ | refine blk_alloc ?_ _)); exact BK165.out⟩, ⟨by repeat (first | (with_reducible first | exact HB.out | apply below_alloc | apply pw_below_drewN | apply below_drew1 | refine below_set ?_ GE165.out) | exact HB.out)⟩⟩
                          · rw [if_neg c42] at H
                            exact absurd H (by simp)
                        · rw [if_neg c41] at H
                          exact absurd H (by simp)
                      · rw [if_neg c40] at H
                        have c40b0 : (t167 == 3) = false := beq_eq_false_iff_ne.mpr c40
                        have c40b1 : (t167 != 3) = true := bne_iff_ne.mpr c40
                        (first | rw [c40b0] | (simp only [i64_w, i32_w]; rw [c40b0]) | skip)
                        have H' := Aside0.mk H
                        clear H
                        go_wp2
                        go_meet
                        case rel => exact ⟨_, (false), (by first | rfl | (simp; done) | (simp [*]; done)), (by first | exact H' | (subst_vars; exact H')), ⟨by have := HJ6.out; have := HK2.out; have := HJ24.out; first | omega | exact Nat.le_refl _⟩, ⟨by (with_reducible repeat (first | refine blk_drewN ?_ _ | refine blk_drew ?_ | refine blk_alloc ?_ _)); exact BK165.out⟩, ⟨by repeat (first | (with_reducible first | exact HB.out | apply below_alloc | apply pw_below_drewN | apply below_drew1 | refine below_set ?_ GE165.out) | exact HB.out)⟩⟩
                    case rest =>
                      clear HC39
                      try clear c1
                      try clear p1
                      try clear q1
                      try clear hx1
                      try clear qi1
                      try clear c2
                      try clear p2
                      try clear q2
                      try clear hx2
                      try clear c3
                      try clear p3
                      try clear q3
                      try clear hx3
                      try clear c4
                      try clear p4
                      try clear q4
                      try clear hx4
                      try clear c5
                      try clear p6
                      try clear c9
                      try clear c10
                      try clear c11
                      try clear c13
                      try clear c13b0
                      try clear c13b1
                      try clear c14
                      try clear c14b0
                      try clear c14b1
                      try clear c15
                      try clear c15b0
                      try clear c15b1
                      try clear c16
                      try clear c16b0
                      try clear c16b1
                      try clear p17
                      try clear q17
                      try clear hx17
                      try clear qi17
                      try clear c18
                      try clear c18b0
                      try clear c18b1
                      try clear c20
                      try clear c20b0
                      try clear c21
                      try clear c21b0
                      try clear p22
                      try clear q22
                      try clear hx22
                      try clear c23
                      try clear c24
                      try clear c24b0
                      try clear c26
                      try clear c26b0
                      try clear c26b1
                      try clear c27
                      try clear c27b0
                      try clear p28
                      try clear q28
                      try clear hx28
                      try clear c29
                      try clear c29b0
                      try clear c30
                      try clear c30b0
                      try clear c31
                      try clear c31b0
                      try clear c31b1
                      try clear p32
                      try clear q32
                      try clear hx32
                      try clear p33
                      try clear q33
                      try clear hx33
                      try clear c34
                      try clear c34b0
                      try clear c35
                      try clear c35b0
                      try clear c36
                      try clear c36b0
                      try clear c36b1
                      try clear p37
                      try clear q37
                      try clear hx37
                      try clear c38
                      try clear c40
                      try clear c40b0
                      try clear c40b1
                      try clear c41
                      try clear c41b0
                      try clear c42
                      try clear c42b0
                      try clear p43
                      try clear q43
                      try clear hx43
                      try clear c44
                      try clear c44b0
                      try clear p45
                      try clear q45
                      try clear hx45
                      try clear c46
                      try clear c46b0
                      try clear p47
                      try clear q47
                      try clear hx47
                      try clear c48
                      try clear c48b0
                      try clear c48b1
                      try clear c49
                      try clear c49b0
                      try clear hcz10_0
                      try clear hcz10_1
                      try clear hfz10_0
                      try clear hfz10_1
                      try clear p1
                      try clear p17
                      try clear p2
                      try clear p22
                      try clear p28
                      try clear p3
                      try clear p32
                      try clear p33
                      try clear p37
                      try clear p43
                      try clear p45
                      try clear p47
                      try clear p6
                      try clear q1
                      try clear q17
                      try clear q2
                      try clear q22
                      try clear q28
                      try clear q3
                      try clear q32
                      try clear q33
                      try clear q37
                      try clear q43
                      try clear q45
                      try clear q47
                      obtain ⟨kq, x106_38, rfl, HA, HJ38, BK165, HB⟩ := hcut
                      cases kq with
                      | zero => exact absurd HA.out (by simp [thresherlaw03_ValueWrites.j3])
                      | succ kj38 =>
                        have H := HA.out
                        clear HA
                        simp only [thresherlaw03_ValueWrites.j3] at H
                        by_cases c50 : x106_38 = true
                        · subst c50
                          have H1 : (some false) = some r := by rw [if_pos rfl] at H; exact H
                          clear H
                          have H := H1
                          clear H1
                          obtain rfl := Option.some.inj H
                          go_wp2
                          go_ret
                          exact ⟨by first | rfl | (simp [errW_none, errW_some] <;> rfl) | (simp [*, errW_none, errW_some] <;> rfl), by repeat (first | (with_reducible first | exact HB.out | apply below_alloc | apply pw_below_drewN | apply below_drew1 | refine below_set ?_ GE165.out) | exact HB.out)⟩
                        · replace c50 := Bool.eq_false_iff.mpr c50
                          subst c50
                          have H1 : (thresherlaw03_ValueWrites.l0 kj38 t166 t167 t170 (wrap64 (x8_2 + 1))) = some r := by rw [if_neg (show ¬ (false = true) by decide)] at H; exact H
                          clear H
                          have H := H1
                          clear H1
                          have H' := Aside0.mk H
                          clear H
                          go_wp2
                          go_roundg kj38
                          case measure => have := HJ6.out; have := HK2.out; have := HJ24.out; have := HJ38.out; omega
                          case rel => exact ⟨(wrap64 (x8_2 + 1)), (by first | rfl | (simp; done) | (simp [*]; done)), (by first | exact H' | (subst_vars; exact H')), ⟨by have := HJ6.out; have := HK2.out; have := HJ24.out; have := HJ38.out; omega⟩, ⟨by (with_reducible repeat (first | refine blk_drewN ?_ _ | refine blk_drew ?_ | refine blk_alloc ?_ _)); exact BK165.out⟩, ⟨by repeat (first | (with_reducible first | exact HB.out | apply below_alloc | apply pw_below_drewN | apply below_drew1 | refine below_set ?_ GE165.out) | exact HB.out)⟩⟩
            · rw [if_neg c24] at H
              have c24b0 : decide (x8_2 < (t170.size : Int)) = false := decide_eq_false c24
              clear c24
              obtain rfl := Option.some.inj H
              go_wp2
              go_ret
              exact ⟨by first | rfl | (simp [errW_none, errW_some] <;> rfl) | (simp [*, errW_none, errW_some] <;> rfl), by repeat (first | (with_reducible first | exact HB.out | apply below_alloc | apply pw_below_drewN | apply below_drew1 | refine below_set ?_ GE165.out) | exact HB.out)⟩

end Go.Proofs.YtifpjhghbafcjaaDoor.P
