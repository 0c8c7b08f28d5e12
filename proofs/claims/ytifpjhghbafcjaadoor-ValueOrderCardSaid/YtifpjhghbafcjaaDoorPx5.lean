-- Written by wip/tools/myprint.py over the kit's print (a program's print; Lean checks it).
import Derived.Test.YtifpjhghbafcjaaDoorPx0
import Derived.Test.YtifpjhghbafcjaaDoorPx1
import Derived.Test.YtifpjhghbafcjaaDoorPx3
import Derived.Test.YtifpjhghbafcjaaDoorPx4
namespace Go.Proofs.YtifpjhghbafcjaaDoor.P
open Go.RowKit Go.Proofs.YtifpjhghbafcjaaDoorW.PrintWords Go.Proofs.YtifpjhghbafcjaaDoorW.PrintLast Go.Proofs.YtifpjhghbafcjaaDoorW.PrintMore
attribute [local go_sem] max2_int min2_int max_two min_two max_three min_three max_four min_four   -- for this text's walks alone
set_option linter.unusedVariables false
set_option linter.unusedSimpArgs false

attribute [local go_sem high] eqA23
/-! ### thresherlaw03_ValueOrder: function 3 -/
mutual
def thresherlaw03_ValueOrder.j0 : Nat → Bool → Int → Int → Int → Bool → Option (Bool)
  | 0, _, _, _, _, _ => none
  | k + 1, x5, x10, x11, x12, x62 => if x62 = true then (some false) else (if x5 = true then (if x10 > 0 then (if x10 < 0 then (if x10 = 0 then (thresherlaw03_ValueOrder.j1 k (x12 == x11)) else (thresherlaw03_ValueOrder.j1 k true)) else (if x11 < 0 then (if x10 = 0 then (thresherlaw03_ValueOrder.j1 k (x12 == x11)) else (thresherlaw03_ValueOrder.j1 k true)) else (if x12 ≥ 0 then (if x10 = 0 then (thresherlaw03_ValueOrder.j1 k (x12 == x11)) else (thresherlaw03_ValueOrder.j1 k true)) else (thresherlaw03_ValueOrder.j1 k false)))) else (if x11 > 0 then (if x10 < 0 then (if x10 = 0 then (thresherlaw03_ValueOrder.j1 k (x12 == x11)) else (thresherlaw03_ValueOrder.j1 k true)) else (if x11 < 0 then (if x10 = 0 then (thresherlaw03_ValueOrder.j1 k (x12 == x11)) else (thresherlaw03_ValueOrder.j1 k true)) else (if x12 ≥ 0 then (if x10 = 0 then (thresherlaw03_ValueOrder.j1 k (x12 == x11)) else (thresherlaw03_ValueOrder.j1 k true)) else (thresherlaw03_ValueOrder.j1 k false)))) else (if x12 ≤ 0 then (if x10 < 0 then (if x10 = 0 then (thresherlaw03_ValueOrder.j1 k (x12 == x11)) else (thresherlaw03_ValueOrder.j1 k true)) else (if x11 < 0 then (if x10 = 0 then (thresherlaw03_ValueOrder.j1 k (x12 == x11)) else (thresherlaw03_ValueOrder.j1 k true)) else (if x12 ≥ 0 then (if x10 = 0 then (thresherlaw03_ValueOrder.j1 k (x12 == x11)) else (thresherlaw03_ValueOrder.j1 k true)) else (thresherlaw03_ValueOrder.j1 k false)))) else (thresherlaw03_ValueOrder.j1 k false)))) else (thresherlaw03_ValueOrder.j1 k false))
def thresherlaw03_ValueOrder.j1 : Nat → Bool → Option (Bool)
  | 0, _ => none
  | k + 1, x4 => some x4
end
def thresherlaw03_ValueOrder.f (k : Nat) (a0 : Int) (a1_0 : Int) (a1_1 : ByteArray) (a1_2 : Int) (a1_3 : ByteArray) (a1_4 : Int) (a1_5 : ByteArray) : Option (Bool) := (thresherlaw03_shown.f k).bind fun t137 => ((thresherlaw03_kind.f a0).bind fun t138 => ((thresherlaw03_fit.f t138 a1_0 a1_1).bind fun bt139 => ((thresherlaw03_fit.f t138 a1_2 a1_3).bind fun bt142 => ((thresherlaw03_fit.f t138 a1_4 a1_5).bind fun bt145 => ((value_Compare.f k t138 bt139.1 bt139.2 bt142.1 bt142.2).bind fun t148 => ((value_Compare.f k t138 bt142.1 bt142.2 bt145.1 bt145.2).bind fun t149 => ((value_Compare.f k t138 bt139.1 bt139.2 bt145.1 bt145.2).bind fun t150 => (if ((t148 == 0) != (bt139.1 == bt142.1 && (bt139.2.toList == bt142.2.toList))) = true then (thresherlaw03_ValueOrder.j0 k t137 t148 t149 t150 true) else ((value_Compare.f k t138 bt142.1 bt142.2 bt139.1 bt139.2).bind fun t151 => (if t151 = (wrap64 (-t148)) then (if t148 < (-1) then (thresherlaw03_ValueOrder.j0 k t137 t148 t149 t150 true) else (thresherlaw03_ValueOrder.j0 k t137 t148 t149 t150 (decide (t148 > 1)))) else (thresherlaw03_ValueOrder.j0 k t137 t148 t149 t150 true)))))))))))
theorem thresherlaw03_ValueOrder.mono_l : ∀ k, (∀ y0 y1 y2 y3 y4, LeO (thresherlaw03_ValueOrder.j0 k y0 y1 y2 y3 y4) (thresherlaw03_ValueOrder.j0 (k + 1) y0 y1 y2 y3 y4)) ∧ (∀ y0, LeO (thresherlaw03_ValueOrder.j1 k y0) (thresherlaw03_ValueOrder.j1 (k + 1) y0))
  | 0 => ⟨fun _ _ _ _ _ r h => by simp [thresherlaw03_ValueOrder.j0] at h, fun _ r h => by simp [thresherlaw03_ValueOrder.j1] at h⟩
  | k + 1 => by
    obtain ⟨ih0, ih1⟩ := thresherlaw03_ValueOrder.mono_l k
    refine ⟨?_, ?_⟩
    · intro y0 y1 y2 y3 y4
      unfold thresherlaw03_ValueOrder.j0
      repeat' first
      | (with_reducible exact ih0 _ _ _ _ _)
      | (with_reducible exact ih1 _)
      | (with_reducible exact thresherlaw03_shown.mono _)
      | (with_reducible exact value_Compare.mono _ _ _ _ _ _)
      | (with_reducible exact LeO.refl _)
      | (with_reducible exact LeO.none _)
      | (with_reducible refine LeO.ite ?_ ?_)
      | (with_reducible refine LeO.bind ?_ (fun _ => ?_))
      | exact ih0 _ _ _ _ _
      | exact ih1 _
      | exact thresherlaw03_shown.mono _
      | exact value_Compare.mono _ _ _ _ _ _
      | exact LeO.none _
      | refine LeO.ite ?_ ?_
      | refine LeO.bind ?_ (fun _ => ?_)
    · intro y0
      unfold thresherlaw03_ValueOrder.j1
      repeat' first
      | (with_reducible exact ih0 _ _ _ _ _)
      | (with_reducible exact ih1 _)
      | (with_reducible exact thresherlaw03_shown.mono _)
      | (with_reducible exact value_Compare.mono _ _ _ _ _ _)
      | (with_reducible exact LeO.refl _)
      | (with_reducible exact LeO.none _)
      | (with_reducible refine LeO.ite ?_ ?_)
      | (with_reducible refine LeO.bind ?_ (fun _ => ?_))
      | exact ih0 _ _ _ _ _
      | exact ih1 _
      | exact thresherlaw03_shown.mono _
      | exact value_Compare.mono _ _ _ _ _ _
      | exact LeO.none _
      | refine LeO.ite ?_ ?_
      | refine LeO.bind ?_ (fun _ => ?_)
theorem thresherlaw03_ValueOrder.mono : ∀ a0 a1 a2 a3 a4 a5 a6 k, LeO (thresherlaw03_ValueOrder.f k a0 a1 a2 a3 a4 a5 a6) (thresherlaw03_ValueOrder.f (k + 1) a0 a1 a2 a3 a4 a5 a6) := by
  intro a0 a1 a2 a3 a4 a5 a6 k
  obtain ⟨ih0, ih1⟩ := thresherlaw03_ValueOrder.mono_l k
  unfold thresherlaw03_ValueOrder.f
  repeat' first
      | (with_reducible exact ih0 _ _ _ _ _)
      | (with_reducible exact ih1 _)
      | (with_reducible exact thresherlaw03_shown.mono _)
      | (with_reducible exact value_Compare.mono _ _ _ _ _ _)
      | (with_reducible exact LeO.refl _)
      | (with_reducible exact LeO.none _)
      | (with_reducible refine LeO.ite ?_ ?_)
      | (with_reducible refine LeO.bind ?_ (fun _ => ?_))
      | exact ih0 _ _ _ _ _
      | exact ih1 _
      | exact thresherlaw03_shown.mono _
      | exact value_Compare.mono _ _ _ _ _ _
      | exact LeO.none _
      | refine LeO.ite ?_ ?_
      | refine LeO.bind ?_ (fun _ => ?_)
set_option maxHeartbeats 8000000 in
set_option maxRecDepth 100000 in
theorem thresherlaw03_ValueOrder.calls (k : Nat) (a0 : Int) (a1_0 : Int) (a1_1 : ByteArray) (a1_2 : Int) (a1_3 : ByteArray) (a1_4 : Int) (a1_5 : ByteArray) (r : Bool) (w : World) (h : thresherlaw03_ValueOrder.f k a0 a1_0 a1_1 a1_2 a1_3 a1_4 a1_5 = some r) (htab_ : Tabs w) :
    Calls Tryd.prog 3 #[.int .u8 a0, .agg #[.int .i64 a1_0, .string a1_1, .int .i64 a1_2, .string a1_3, .int .i64 a1_4, .string a1_5]] w fun e w' => e = .returned (.bool r) ∧ Below w.heap.size w w' := by
  have HTAB_ := Aside0.mk htab_
  clear htab_
  have hu24 := Tryd.underlying24
  have hu23 := Tryd.underlying23
  have HB := Aside0.mk (Below.refl w.heap.size w)
  have H : ((thresherlaw03_shown.f k).bind fun t137 => ((thresherlaw03_kind.f a0).bind fun t138 => ((thresherlaw03_fit.f t138 a1_0 a1_1).bind fun bt139 => ((thresherlaw03_fit.f t138 a1_2 a1_3).bind fun bt142 => ((thresherlaw03_fit.f t138 a1_4 a1_5).bind fun bt145 => ((value_Compare.f k t138 bt139.1 bt139.2 bt142.1 bt142.2).bind fun t148 => ((value_Compare.f k t138 bt142.1 bt142.2 bt145.1 bt145.2).bind fun t149 => ((value_Compare.f k t138 bt139.1 bt139.2 bt145.1 bt145.2).bind fun t150 => (if ((t148 == 0) != (bt139.1 == bt142.1 && (bt139.2.toList == bt142.2.toList))) = true then (thresherlaw03_ValueOrder.j0 k t137 t148 t149 t150 true) else ((value_Compare.f k t138 bt142.1 bt142.2 bt139.1 bt139.2).bind fun t151 => (if t151 = (wrap64 (-t148)) then (if t148 < (-1) then (thresherlaw03_ValueOrder.j0 k t137 t148 t149 t150 true) else (thresherlaw03_ValueOrder.j0 k t137 t148 t149 t150 (decide (t148 > 1)))) else (thresherlaw03_ValueOrder.j0 k t137 t148 t149 t150 true)))))))))))) = some r := h
  clear h
  replace H := Option.bind_eq_some_iff.mp H
  obtain ⟨t137, A30, H⟩ := H
  replace H : ((thresherlaw03_kind.f a0).bind fun t138 => ((thresherlaw03_fit.f t138 a1_0 a1_1).bind fun bt139 => ((thresherlaw03_fit.f t138 a1_2 a1_3).bind fun bt142 => ((thresherlaw03_fit.f t138 a1_4 a1_5).bind fun bt145 => ((value_Compare.f k t138 bt139.1 bt139.2 bt142.1 bt142.2).bind fun t148 => ((value_Compare.f k t138 bt142.1 bt142.2 bt145.1 bt145.2).bind fun t149 => ((value_Compare.f k t138 bt139.1 bt139.2 bt145.1 bt145.2).bind fun t150 => (if ((t148 == 0) != (bt139.1 == bt142.1 && (bt139.2.toList == bt142.2.toList))) = true then (thresherlaw03_ValueOrder.j0 k t137 t148 t149 t150 true) else ((value_Compare.f k t138 bt142.1 bt142.2 bt139.1 bt139.2).bind fun t151 => (if t151 = (wrap64 (-t148)) then (if t148 < (-1) then (thresherlaw03_ValueOrder.j0 k t137 t148 t149 t150 true) else (thresherlaw03_ValueOrder.j0 k t137 t148 t149 t150 (decide (t148 > 1)))) else (thresherlaw03_ValueOrder.j0 k t137 t148 t149 t150 true))))))))))) = some r := H
  have A3 := Aside0.mk A30
  clear A30
  replace H := Option.bind_eq_some_iff.mp H
  obtain ⟨t138, A40, H⟩ := H
  replace H : ((thresherlaw03_fit.f t138 a1_0 a1_1).bind fun bt139 => ((thresherlaw03_fit.f t138 a1_2 a1_3).bind fun bt142 => ((thresherlaw03_fit.f t138 a1_4 a1_5).bind fun bt145 => ((value_Compare.f k t138 bt139.1 bt139.2 bt142.1 bt142.2).bind fun t148 => ((value_Compare.f k t138 bt142.1 bt142.2 bt145.1 bt145.2).bind fun t149 => ((value_Compare.f k t138 bt139.1 bt139.2 bt145.1 bt145.2).bind fun t150 => (if ((t148 == 0) != (bt139.1 == bt142.1 && (bt139.2.toList == bt142.2.toList))) = true then (thresherlaw03_ValueOrder.j0 k t137 t148 t149 t150 true) else ((value_Compare.f k t138 bt142.1 bt142.2 bt139.1 bt139.2).bind fun t151 => (if t151 = (wrap64 (-t148)) then (if t148 < (-1) then (thresherlaw03_ValueOrder.j0 k t137 t148 t149 t150 true) else (thresherlaw03_ValueOrder.j0 k t137 t148 t149 t150 (decide (t148 > 1)))) else (thresherlaw03_ValueOrder.j0 k t137 t148 t149 t150 true)))))))))) = some r := H
  have A4 := Aside0.mk A40
  clear A40
  replace H := Option.bind_eq_some_iff.mp H
  obtain ⟨⟨t139, t140⟩, A50, H⟩ := H
  replace H : ((thresherlaw03_fit.f t138 a1_2 a1_3).bind fun bt142 => ((thresherlaw03_fit.f t138 a1_4 a1_5).bind fun bt145 => ((value_Compare.f k t138 t139 t140 bt142.1 bt142.2).bind fun t148 => ((value_Compare.f k t138 bt142.1 bt142.2 bt145.1 bt145.2).bind fun t149 => ((value_Compare.f k t138 t139 t140 bt145.1 bt145.2).bind fun t150 => (if ((t148 == 0) != (t139 == bt142.1 && (t140.toList == bt142.2.toList))) = true then (thresherlaw03_ValueOrder.j0 k t137 t148 t149 t150 true) else ((value_Compare.f k t138 bt142.1 bt142.2 t139 t140).bind fun t151 => (if t151 = (wrap64 (-t148)) then (if t148 < (-1) then (thresherlaw03_ValueOrder.j0 k t137 t148 t149 t150 true) else (thresherlaw03_ValueOrder.j0 k t137 t148 t149 t150 (decide (t148 > 1)))) else (thresherlaw03_ValueOrder.j0 k t137 t148 t149 t150 true))))))))) = some r := H
  have A5 := Aside0.mk A50
  clear A50
  replace H := Option.bind_eq_some_iff.mp H
  obtain ⟨⟨t142, t143⟩, A60, H⟩ := H
  replace H : ((thresherlaw03_fit.f t138 a1_4 a1_5).bind fun bt145 => ((value_Compare.f k t138 t139 t140 t142 t143).bind fun t148 => ((value_Compare.f k t138 t142 t143 bt145.1 bt145.2).bind fun t149 => ((value_Compare.f k t138 t139 t140 bt145.1 bt145.2).bind fun t150 => (if ((t148 == 0) != (t139 == t142 && (t140.toList == t143.toList))) = true then (thresherlaw03_ValueOrder.j0 k t137 t148 t149 t150 true) else ((value_Compare.f k t138 t142 t143 t139 t140).bind fun t151 => (if t151 = (wrap64 (-t148)) then (if t148 < (-1) then (thresherlaw03_ValueOrder.j0 k t137 t148 t149 t150 true) else (thresherlaw03_ValueOrder.j0 k t137 t148 t149 t150 (decide (t148 > 1)))) else (thresherlaw03_ValueOrder.j0 k t137 t148 t149 t150 true)))))))) = some r := H
  have A6 := Aside0.mk A60
  clear A60
  replace H := Option.bind_eq_some_iff.mp H
  obtain ⟨⟨t145, t146⟩, A70, H⟩ := H
  replace H : ((value_Compare.f k t138 t139 t140 t142 t143).bind fun t148 => ((value_Compare.f k t138 t142 t143 t145 t146).bind fun t149 => ((value_Compare.f k t138 t139 t140 t145 t146).bind fun t150 => (if ((t148 == 0) != (t139 == t142 && (t140.toList == t143.toList))) = true then (thresherlaw03_ValueOrder.j0 k t137 t148 t149 t150 true) else ((value_Compare.f k t138 t142 t143 t139 t140).bind fun t151 => (if t151 = (wrap64 (-t148)) then (if t148 < (-1) then (thresherlaw03_ValueOrder.j0 k t137 t148 t149 t150 true) else (thresherlaw03_ValueOrder.j0 k t137 t148 t149 t150 (decide (t148 > 1)))) else (thresherlaw03_ValueOrder.j0 k t137 t148 t149 t150 true))))))) = some r := H
  have A7 := Aside0.mk A70
  clear A70
  replace H := Option.bind_eq_some_iff.mp H
  obtain ⟨t148, A80, H⟩ := H
  replace H : ((value_Compare.f k t138 t142 t143 t145 t146).bind fun t149 => ((value_Compare.f k t138 t139 t140 t145 t146).bind fun t150 => (if ((t148 == 0) != (t139 == t142 && (t140.toList == t143.toList))) = true then (thresherlaw03_ValueOrder.j0 k t137 t148 t149 t150 true) else ((value_Compare.f k t138 t142 t143 t139 t140).bind fun t151 => (if t151 = (wrap64 (-t148)) then (if t148 < (-1) then (thresherlaw03_ValueOrder.j0 k t137 t148 t149 t150 true) else (thresherlaw03_ValueOrder.j0 k t137 t148 t149 t150 (decide (t148 > 1)))) else (thresherlaw03_ValueOrder.j0 k t137 t148 t149 t150 true)))))) = some r := H
  have A8 := Aside0.mk A80
  clear A80
  replace H := Option.bind_eq_some_iff.mp H
  obtain ⟨t149, A90, H⟩ := H
  replace H : ((value_Compare.f k t138 t139 t140 t145 t146).bind fun t150 => (if ((t148 == 0) != (t139 == t142 && (t140.toList == t143.toList))) = true then (thresherlaw03_ValueOrder.j0 k t137 t148 t149 t150 true) else ((value_Compare.f k t138 t142 t143 t139 t140).bind fun t151 => (if t151 = (wrap64 (-t148)) then (if t148 < (-1) then (thresherlaw03_ValueOrder.j0 k t137 t148 t149 t150 true) else (thresherlaw03_ValueOrder.j0 k t137 t148 t149 t150 (decide (t148 > 1)))) else (thresherlaw03_ValueOrder.j0 k t137 t148 t149 t150 true))))) = some r := H
  have A9 := Aside0.mk A90
  clear A90
  replace H := Option.bind_eq_some_iff.mp H
  obtain ⟨t150, A100, H⟩ := H
  replace H : (if ((t148 == 0) != (t139 == t142 && (t140.toList == t143.toList))) = true then (thresherlaw03_ValueOrder.j0 k t137 t148 t149 t150 true) else ((value_Compare.f k t138 t142 t143 t139 t140).bind fun t151 => (if t151 = (wrap64 (-t148)) then (if t148 < (-1) then (thresherlaw03_ValueOrder.j0 k t137 t148 t149 t150 true) else (thresherlaw03_ValueOrder.j0 k t137 t148 t149 t150 (decide (t148 > 1)))) else (thresherlaw03_ValueOrder.j0 k t137 t148 t149 t150 true)))) = some r := H
  have A10 := Aside0.mk A100
  clear A100
  have HC11 := Aside0.mk H
  clear H
  go_enter Tryd.func3, Tryd.ntmps3
  go_upto_region 9 with (first | ((with_reducible refine gate_dst (N := 3) rfl ?_); refine box_event ?hg (N := 3) ?hd (cs := #[.int .i64 a1_0, .string a1_1, .int .i64 a1_2, .string a1_3, .int .i64 a1_4, .string a1_5]) (t := 24) ?hr ?_; (case hd => rfl); (case hg => rfl); (case hr => first | (go_simp; done) | (go_simp; rfl)); intro gb136 hg w12 hbox hb; have n0_ := Aside0.mk (below_step (by repeat (first | (with_reducible first | exact HB.out | apply below_alloc | apply pw_below_drewN | apply below_drew1) | exact HB.out)) hb); have n1_ := Aside0.mk (hbox); have n2_ := Aside0.mk ((by rw [hg]; exact (below_size (by repeat (first | (with_reducible first | exact HB.out | apply below_alloc | apply pw_below_drewN | apply below_drew1) | exact HB.out))) : w.heap.size ≤ gb136)); have n3_ := Aside0.mk ((by rw [hg]; exact (below_size (by repeat (first | (with_reducible first | exact HB.out | apply below_alloc | apply pw_below_drewN | apply below_drew1) | exact HB.out))) : w.heap.size ≤ gb136)); clear HB; have HB := n0_; have BK136 := n1_; have GW136 := n2_; have GE136 := n3_; clear n0_ n1_ n2_ n3_; clear hb hbox hg) | ((with_reducible refine gate_callee (f := 9) rfl ?_); refine goesL_ (some 13) rfl rfl Tryd.func9 (by kernel_rfl) rfl #[] rfl (by (try simp only [List.map_toArray, List.map_cons, List.map_nil]); first | done | rfl | (simp only [List.length_drop, List.length_take]; rfl)) ?_; (with_reducible refine (thresherlaw03_shown.calls k  t137 _ A3.out (HTAB_.out.on (below_go HB.out))).mono ?_); rintro e w13 ⟨rfl, hb⟩; refine ⟨_, rfl, ?_⟩; have n0_ := Aside0.mk (blk_below (g := gb136) (o := .cells #[.int .i64 a1_0, .string a1_1, .int .i64 a1_2, .string a1_3, .int .i64 a1_4, .string a1_5] 24 (0, 0)) (by (with_reducible repeat (first | refine blk_drewN ?_ _ | refine blk_drew ?_ | refine blk_alloc ?_ _)); exact BK136.out) hb); have n1_ := Aside0.mk (below_step (by repeat (first | (with_reducible first | exact HB.out | apply below_alloc | apply pw_below_drewN | apply below_drew1 | refine below_set ?_ GE136.out) | exact HB.out)) hb); clear BK136; clear HB; have BK136 := n0_; have HB := n1_; clear n0_ n1_; (try clear hb); (try clear hb2); (try clear hk); (try clear hi)) | ((with_reducible refine gate_callee (f := 10) rfl ?_); refine goesL_ (some 15) rfl rfl Tryd.func10 (by kernel_rfl) rfl #[.int .u8 a0] rfl (by (try simp only [List.map_toArray, List.map_cons, List.map_nil]); first | done | rfl | (simp only [List.length_drop, List.length_take]; rfl)) ?_; (with_reducible refine (thresherlaw03_kind.calls a0 t138 _ A4.out).mono ?_); rintro e w' ⟨rfl, ⟨nd, rfl⟩⟩; refine ⟨_, rfl, ?_⟩; (try (rw [drewN_self w13]; generalize hq_ : World.drewN w13 _ = w13; have n0_ : Aside0 (w13.heap[gb136]? = some (.cells #[.int .i64 a1_0, .string a1_1, .int .i64 a1_2, .string a1_3, .int .i64 a1_4, .string a1_5] 24 (0, 0))) := ⟨by rw [← hq_]; exact (by (with_reducible repeat (first | refine blk_drewN ?_ _ | refine blk_drew ?_ | refine blk_alloc ?_ _)); exact BK136.out)⟩; have n1_ : Aside0 (Below w.heap.size w w13) := ⟨by rw [← hq_]; exact (by repeat (first | (with_reducible first | exact HB.out | apply below_alloc | apply pw_below_drewN | apply below_drew1 | refine below_set ?_ GE136.out) | exact HB.out))⟩; clear BK136 HB hq_; have BK136 := n0_; have HB := n1_; clear n0_ n1_)); have hcz14_0 : w13.cell? ⟨gb136, 0, none⟩ = some (.int .i64 a1_0) := (blk_cell BK136.out 0).trans rfl; have hcz14_1 : w13.cell? ⟨gb136, 1, none⟩ = some (.string a1_1) := (blk_cell BK136.out 1).trans rfl; have hcz14_2 : w13.cell? ⟨gb136, 2, none⟩ = some (.int .i64 a1_2) := (blk_cell BK136.out 2).trans rfl; have hcz14_3 : w13.cell? ⟨gb136, 3, none⟩ = some (.string a1_3) := (blk_cell BK136.out 3).trans rfl; have hcz14_4 : w13.cell? ⟨gb136, 4, none⟩ = some (.int .i64 a1_4) := (blk_cell BK136.out 4).trans rfl; have hcz14_5 : w13.cell? ⟨gb136, 5, none⟩ = some (.string a1_5) := (blk_cell BK136.out 5).trans rfl; have hfz14_0 := blk_frozen BK136.out 0; have hfz14_1 := blk_frozen BK136.out 1; have hfz14_2 := blk_frozen BK136.out 2; have hfz14_3 := blk_frozen BK136.out 3; have hfz14_4 := blk_frozen BK136.out 4; have hfz14_5 := blk_frozen BK136.out 5) | ((with_reducible refine gate_callee (f := 11) rfl ?_); refine goesL_ (some 19) rfl rfl Tryd.func11 (by kernel_rfl) rfl #[.int .i64 t138, .agg #[.int .i64 a1_0, .string a1_1]] rfl (by (try simp only [List.map_toArray, List.map_cons, List.map_nil]); first | done | rfl | (simp only [List.length_drop, List.length_take]; rfl)) ?_; (with_reducible refine (thresherlaw03_fit.calls t138 a1_0 a1_1 t139 t140 _ A5.out).mono ?_); rintro e w15 ⟨rfl, hb⟩; refine ⟨_, rfl, ?_⟩; have n0_ := Aside0.mk (blk_below (g := gb136) (o := .cells #[.int .i64 a1_0, .string a1_1, .int .i64 a1_2, .string a1_3, .int .i64 a1_4, .string a1_5] 24 (0, 0)) (by (with_reducible repeat (first | refine blk_drewN ?_ _ | refine blk_drew ?_ | refine blk_alloc ?_ _)); exact BK136.out) hb); have n1_ := Aside0.mk (below_step (by repeat (first | (with_reducible first | exact HB.out | apply below_alloc | apply pw_below_drewN | apply below_drew1 | refine below_set ?_ GE136.out) | exact HB.out)) hb); clear BK136; clear HB; have BK136 := n0_; have HB := n1_; clear n0_ n1_; (try clear hb); (try clear hb2); (try clear hk); (try clear hi)) | ((with_reducible refine gate_dst (N := 7) rfl ?_); refine box_event ?hg (N := 7) ?hd (cs := #[.int .i64 0, .string (⟨#[]⟩ : ByteArray)]) (t := 23) ?hr ?_; (case hd => rfl); (case hg => rfl); (case hr => first | (go_simp; done) | (go_simp; rfl)); intro gb141 hg w16 hbox hb; have n0_ := Aside0.mk (blk_below (g := gb136) (o := .cells #[.int .i64 a1_0, .string a1_1, .int .i64 a1_2, .string a1_3, .int .i64 a1_4, .string a1_5] 24 (0, 0)) (by (with_reducible repeat (first | refine blk_drewN ?_ _ | refine blk_drew ?_ | refine blk_alloc ?_ _)); exact BK136.out) hb); have n1_ := Aside0.mk (below_step (by repeat (first | (with_reducible first | exact HB.out | apply below_alloc | apply pw_below_drewN | apply below_drew1 | refine below_set ?_ GE136.out) | exact HB.out)) hb); have n2_ := Aside0.mk (hbox); have n3_ := Aside0.mk ((by rw [hg]; exact (below_size (by repeat (first | (with_reducible first | exact HB.out | apply below_alloc | apply pw_below_drewN | apply below_drew1 | refine below_set ?_ GE136.out) | exact HB.out))) : w.heap.size ≤ gb141)); have n4_ := Aside0.mk ((by rw [hg]; exact (below_size (by repeat (first | (with_reducible first | exact HB.out | apply below_alloc | apply pw_below_drewN | apply below_drew1 | refine below_set ?_ GE136.out) | exact HB.out))) : w.heap.size ≤ gb141)); have n5_ := Aside0.mk ((by rw [hg]; exact Nat.ne_of_lt (blk_lt (g := gb136) (o := .cells #[.int .i64 a1_0, .string a1_1, .int .i64 a1_2, .string a1_3, .int .i64 a1_4, .string a1_5] 24 (0, 0)) (by (with_reducible repeat (first | refine blk_drewN ?_ _ | refine blk_drew ?_ | refine blk_alloc ?_ _)); exact BK136.out)) : gb136 ≠ gb141)); have n6_ := Aside0.mk ((by rw [hg]; exact Nat.ne_of_gt (blk_lt (g := gb136) (o := .cells #[.int .i64 a1_0, .string a1_1, .int .i64 a1_2, .string a1_3, .int .i64 a1_4, .string a1_5] 24 (0, 0)) (by (with_reducible repeat (first | refine blk_drewN ?_ _ | refine blk_drew ?_ | refine blk_alloc ?_ _)); exact BK136.out)) : gb141 ≠ gb136)); clear BK136; clear HB; have BK136 := n0_; have HB := n1_; have BK141 := n2_; have GW141 := n3_; have GE141 := n4_; have NB136_141 := n5_; have NB141_136 := n6_; clear n0_ n1_ n2_ n3_ n4_ n5_ n6_; clear hb hbox hg; have hnb17 := NB141_136.out; have hnc17 := NB136_141.out; have hcz18_0 : w16.cell? ⟨gb141, 0, none⟩ = some (.int .i64 0) := (blk_cell BK141.out 0).trans rfl; have hcz18_1 : w16.cell? ⟨gb141, 1, none⟩ = some (.string (⟨#[]⟩ : ByteArray)) := (blk_cell BK141.out 1).trans rfl; have hfz18_0 := blk_frozen BK141.out 0; have hfz18_1 := blk_frozen BK141.out 1; have hcz19_0 : w16.cell? ⟨gb136, 0, none⟩ = some (.int .i64 a1_0) := (blk_cell BK136.out 0).trans rfl; have hcz19_1 : w16.cell? ⟨gb136, 1, none⟩ = some (.string a1_1) := (blk_cell BK136.out 1).trans rfl; have hcz19_2 : w16.cell? ⟨gb136, 2, none⟩ = some (.int .i64 a1_2) := (blk_cell BK136.out 2).trans rfl; have hcz19_3 : w16.cell? ⟨gb136, 3, none⟩ = some (.string a1_3) := (blk_cell BK136.out 3).trans rfl; have hcz19_4 : w16.cell? ⟨gb136, 4, none⟩ = some (.int .i64 a1_4) := (blk_cell BK136.out 4).trans rfl; have hcz19_5 : w16.cell? ⟨gb136, 5, none⟩ = some (.string a1_5) := (blk_cell BK136.out 5).trans rfl; have hfz19_0 := blk_frozen BK136.out 0; have hfz19_1 := blk_frozen BK136.out 1; have hfz19_2 := blk_frozen BK136.out 2; have hfz19_3 := blk_frozen BK136.out 3; have hfz19_4 := blk_frozen BK136.out 4; have hfz19_5 := blk_frozen BK136.out 5) | ((with_reducible refine gate_callee (f := 11) rfl ?_); refine goesL_ (some 23) rfl rfl Tryd.func11 (by kernel_rfl) rfl #[.int .i64 t138, .agg #[.int .i64 a1_2, .string a1_3]] rfl (by (try simp only [List.map_toArray, List.map_cons, List.map_nil]); first | done | rfl | (simp only [List.length_drop, List.length_take]; rfl)) ?_; (with_reducible refine (thresherlaw03_fit.calls t138 a1_2 a1_3 t142 t143 _ A6.out).mono ?_); rintro e w20 ⟨rfl, hb⟩; refine ⟨_, rfl, ?_⟩; have n0_ := Aside0.mk (blk_below (g := gb136) (o := .cells #[.int .i64 a1_0, .string a1_1, .int .i64 a1_2, .string a1_3, .int .i64 a1_4, .string a1_5] 24 (0, 0)) (by (with_reducible repeat (first | refine blk_drewN ?_ _ | refine blk_drew ?_ | refine blk_alloc ?_ _)); refine blk_far ?_ NB136_141.out _; (with_reducible repeat (first | refine blk_drewN ?_ _ | refine blk_drew ?_ | refine blk_alloc ?_ _)); refine blk_far ?_ NB136_141.out _; (with_reducible repeat (first | refine blk_drewN ?_ _ | refine blk_drew ?_ | refine blk_alloc ?_ _)); exact BK136.out) hb); have n1_ := Aside0.mk (blk_below (g := gb141) (o := .cells #[.int .i64 t139, .string t140] 23 (0, 0)) (by (with_reducible repeat (first | refine blk_drewN ?_ _ | refine blk_drew ?_ | refine blk_alloc ?_ _)); refine blk_put (cs := #[.int .i64 t139, .string (⟨#[]⟩ : ByteArray)]) ?_ 1 _ rfl; (with_reducible repeat (first | refine blk_drewN ?_ _ | refine blk_drew ?_ | refine blk_alloc ?_ _)); refine blk_put (cs := #[.int .i64 0, .string (⟨#[]⟩ : ByteArray)]) ?_ 0 _ rfl; (with_reducible repeat (first | refine blk_drewN ?_ _ | refine blk_drew ?_ | refine blk_alloc ?_ _)); exact BK141.out) hb); have n2_ := Aside0.mk (below_step (by repeat (first | (with_reducible first | exact HB.out | apply below_alloc | apply pw_below_drewN | apply below_drew1 | refine below_set ?_ GE136.out | refine below_set ?_ GE141.out) | exact HB.out)) hb); clear BK136; clear BK141; clear HB; have BK136 := n0_; have BK141 := n1_; have HB := n2_; clear n0_ n1_ n2_; (try clear hb); (try clear hb2); (try clear hk); (try clear hi)) | ((with_reducible refine gate_dst (N := 8) rfl ?_); refine box_event ?hg (N := 8) ?hd (cs := #[.int .i64 0, .string (⟨#[]⟩ : ByteArray)]) (t := 23) ?hr ?_; (case hd => rfl); (case hg => rfl); (case hr => first | (go_simp; done) | (go_simp; rfl)); intro gb144 hg w21 hbox hb; have n0_ := Aside0.mk (blk_below (g := gb136) (o := .cells #[.int .i64 a1_0, .string a1_1, .int .i64 a1_2, .string a1_3, .int .i64 a1_4, .string a1_5] 24 (0, 0)) (by (with_reducible repeat (first | refine blk_drewN ?_ _ | refine blk_drew ?_ | refine blk_alloc ?_ _)); exact BK136.out) hb); have n1_ := Aside0.mk (blk_below (g := gb141) (o := .cells #[.int .i64 t139, .string t140] 23 (0, 0)) (by (with_reducible repeat (first | refine blk_drewN ?_ _ | refine blk_drew ?_ | refine blk_alloc ?_ _)); exact BK141.out) hb); have n2_ := Aside0.mk (below_step (by repeat (first | (with_reducible first | exact HB.out | apply below_alloc | apply pw_below_drewN | apply below_drew1 | refine below_set ?_ GE136.out | refine below_set ?_ GE141.out) | exact HB.out)) hb); have n3_ := Aside0.mk (hbox); have n4_ := Aside0.mk ((by rw [hg]; exact (below_size (by repeat (first | (with_reducible first | exact HB.out | apply below_alloc | apply pw_below_drewN | apply below_drew1 | refine below_set ?_ GE136.out | refine below_set ?_ GE141.out) | exact HB.out))) : w.heap.size ≤ gb144)); have n5_ := Aside0.mk ((by rw [hg]; exact (below_size (by repeat (first | (with_reducible first | exact HB.out | apply below_alloc | apply pw_below_drewN | apply below_drew1 | refine below_set ?_ GE136.out | refine below_set ?_ GE141.out) | exact HB.out))) : w.heap.size ≤ gb144)); have n6_ := Aside0.mk ((by rw [hg]; exact Nat.ne_of_lt (blk_lt (g := gb136) (o := .cells #[.int .i64 a1_0, .string a1_1, .int .i64 a1_2, .string a1_3, .int .i64 a1_4, .string a1_5] 24 (0, 0)) (by (with_reducible repeat (first | refine blk_drewN ?_ _ | refine blk_drew ?_ | refine blk_alloc ?_ _)); exact BK136.out)) : gb136 ≠ gb144)); have n7_ := Aside0.mk ((by rw [hg]; exact Nat.ne_of_gt (blk_lt (g := gb136) (o := .cells #[.int .i64 a1_0, .string a1_1, .int .i64 a1_2, .string a1_3, .int .i64 a1_4, .string a1_5] 24 (0, 0)) (by (with_reducible repeat (first | refine blk_drewN ?_ _ | refine blk_drew ?_ | refine blk_alloc ?_ _)); exact BK136.out)) : gb144 ≠ gb136)); have n8_ := Aside0.mk ((by rw [hg]; exact Nat.ne_of_lt (blk_lt (g := gb141) (o := .cells #[.int .i64 t139, .string t140] 23 (0, 0)) (by (with_reducible repeat (first | refine blk_drewN ?_ _ | refine blk_drew ?_ | refine blk_alloc ?_ _)); exact BK141.out)) : gb141 ≠ gb144)); have n9_ := Aside0.mk ((by rw [hg]; exact Nat.ne_of_gt (blk_lt (g := gb141) (o := .cells #[.int .i64 t139, .string t140] 23 (0, 0)) (by (with_reducible repeat (first | refine blk_drewN ?_ _ | refine blk_drew ?_ | refine blk_alloc ?_ _)); exact BK141.out)) : gb144 ≠ gb141)); clear BK136; clear BK141; clear HB; have BK136 := n0_; have BK141 := n1_; have HB := n2_; have BK144 := n3_; have GW144 := n4_; have GE144 := n5_; have NB136_144 := n6_; have NB144_136 := n7_; have NB141_144 := n8_; have NB144_141 := n9_; clear n0_ n1_ n2_ n3_ n4_ n5_ n6_ n7_ n8_ n9_; clear hb hbox hg; have hnb22 := NB144_136.out; have hnc22 := NB136_144.out; have hnb23 := NB144_141.out; have hnc23 := NB141_144.out; have hcz24_0 : w21.cell? ⟨gb144, 0, none⟩ = some (.int .i64 0) := (blk_cell BK144.out 0).trans rfl; have hcz24_1 : w21.cell? ⟨gb144, 1, none⟩ = some (.string (⟨#[]⟩ : ByteArray)) := (blk_cell BK144.out 1).trans rfl; have hfz24_0 := blk_frozen BK144.out 0; have hfz24_1 := blk_frozen BK144.out 1; have hcz25_0 : w21.cell? ⟨gb136, 0, none⟩ = some (.int .i64 a1_0) := (blk_cell BK136.out 0).trans rfl; have hcz25_1 : w21.cell? ⟨gb136, 1, none⟩ = some (.string a1_1) := (blk_cell BK136.out 1).trans rfl; have hcz25_2 : w21.cell? ⟨gb136, 2, none⟩ = some (.int .i64 a1_2) := (blk_cell BK136.out 2).trans rfl; have hcz25_3 : w21.cell? ⟨gb136, 3, none⟩ = some (.string a1_3) := (blk_cell BK136.out 3).trans rfl; have hcz25_4 : w21.cell? ⟨gb136, 4, none⟩ = some (.int .i64 a1_4) := (blk_cell BK136.out 4).trans rfl; have hcz25_5 : w21.cell? ⟨gb136, 5, none⟩ = some (.string a1_5) := (blk_cell BK136.out 5).trans rfl; have hfz25_0 := blk_frozen BK136.out 0; have hfz25_1 := blk_frozen BK136.out 1; have hfz25_2 := blk_frozen BK136.out 2; have hfz25_3 := blk_frozen BK136.out 3; have hfz25_4 := blk_frozen BK136.out 4; have hfz25_5 := blk_frozen BK136.out 5) | ((with_reducible refine gate_callee (f := 11) rfl ?_); refine goesL_ (some 27) rfl rfl Tryd.func11 (by kernel_rfl) rfl #[.int .i64 t138, .agg #[.int .i64 a1_4, .string a1_5]] rfl (by (try simp only [List.map_toArray, List.map_cons, List.map_nil]); first | done | rfl | (simp only [List.length_drop, List.length_take]; rfl)) ?_; (with_reducible refine (thresherlaw03_fit.calls t138 a1_4 a1_5 t145 t146 _ A7.out).mono ?_); rintro e w26 ⟨rfl, hb⟩; refine ⟨_, rfl, ?_⟩; have n0_ := Aside0.mk (blk_below (g := gb136) (o := .cells #[.int .i64 a1_0, .string a1_1, .int .i64 a1_2, .string a1_3, .int .i64 a1_4, .string a1_5] 24 (0, 0)) (by (with_reducible repeat (first | refine blk_drewN ?_ _ | refine blk_drew ?_ | refine blk_alloc ?_ _)); refine blk_far ?_ NB136_144.out _; (with_reducible repeat (first | refine blk_drewN ?_ _ | refine blk_drew ?_ | refine blk_alloc ?_ _)); refine blk_far ?_ NB136_144.out _; (with_reducible repeat (first | refine blk_drewN ?_ _ | refine blk_drew ?_ | refine blk_alloc ?_ _)); exact BK136.out) hb); have n1_ := Aside0.mk (blk_below (g := gb141) (o := .cells #[.int .i64 t139, .string t140] 23 (0, 0)) (by (with_reducible repeat (first | refine blk_drewN ?_ _ | refine blk_drew ?_ | refine blk_alloc ?_ _)); refine blk_far ?_ NB141_144.out _; (with_reducible repeat (first | refine blk_drewN ?_ _ | refine blk_drew ?_ | refine blk_alloc ?_ _)); refine blk_far ?_ NB141_144.out _; (with_reducible repeat (first | refine blk_drewN ?_ _ | refine blk_drew ?_ | refine blk_alloc ?_ _)); exact BK141.out) hb); have n2_ := Aside0.mk (blk_below (g := gb144) (o := .cells #[.int .i64 t142, .string t143] 23 (0, 0)) (by (with_reducible repeat (first | refine blk_drewN ?_ _ | refine blk_drew ?_ | refine blk_alloc ?_ _)); refine blk_put (cs := #[.int .i64 t142, .string (⟨#[]⟩ : ByteArray)]) ?_ 1 _ rfl; (with_reducible repeat (first | refine blk_drewN ?_ _ | refine blk_drew ?_ | refine blk_alloc ?_ _)); refine blk_put (cs := #[.int .i64 0, .string (⟨#[]⟩ : ByteArray)]) ?_ 0 _ rfl; (with_reducible repeat (first | refine blk_drewN ?_ _ | refine blk_drew ?_ | refine blk_alloc ?_ _)); exact BK144.out) hb); have n3_ := Aside0.mk (below_step (by repeat (first | (with_reducible first | exact HB.out | apply below_alloc | apply pw_below_drewN | apply below_drew1 | refine below_set ?_ GE136.out | refine below_set ?_ GE141.out | refine below_set ?_ GE144.out) | exact HB.out)) hb); clear BK136; clear BK141; clear BK144; clear HB; have BK136 := n0_; have BK141 := n1_; have BK144 := n2_; have HB := n3_; clear n0_ n1_ n2_ n3_; (try clear hb); (try clear hb2); (try clear hk); (try clear hi)) | ((with_reducible refine gate_dst (N := 9) rfl ?_); refine box_event ?hg (N := 9) ?hd (cs := #[.int .i64 0, .string (⟨#[]⟩ : ByteArray)]) (t := 23) ?hr ?_; (case hd => rfl); (case hg => rfl); (case hr => first | (go_simp; done) | (go_simp; rfl)); intro gb147 hg w27 hbox hb; have n0_ := Aside0.mk (blk_below (g := gb136) (o := .cells #[.int .i64 a1_0, .string a1_1, .int .i64 a1_2, .string a1_3, .int .i64 a1_4, .string a1_5] 24 (0, 0)) (by (with_reducible repeat (first | refine blk_drewN ?_ _ | refine blk_drew ?_ | refine blk_alloc ?_ _)); exact BK136.out) hb); have n1_ := Aside0.mk (blk_below (g := gb141) (o := .cells #[.int .i64 t139, .string t140] 23 (0, 0)) (by (with_reducible repeat (first | refine blk_drewN ?_ _ | refine blk_drew ?_ | refine blk_alloc ?_ _)); exact BK141.out) hb); have n2_ := Aside0.mk (blk_below (g := gb144) (o := .cells #[.int .i64 t142, .string t143] 23 (0, 0)) (by (with_reducible repeat (first | refine blk_drewN ?_ _ | refine blk_drew ?_ | refine blk_alloc ?_ _)); exact BK144.out) hb); have n3_ := Aside0.mk (below_step (by repeat (first | (with_reducible first | exact HB.out | apply below_alloc | apply pw_below_drewN | apply below_drew1 | refine below_set ?_ GE136.out | refine below_set ?_ GE141.out | refine below_set ?_ GE144.out) | exact HB.out)) hb); have n4_ := Aside0.mk (hbox); have n5_ := Aside0.mk ((by rw [hg]; exact (below_size (by repeat (first | (with_reducible first | exact HB.out | apply below_alloc | apply pw_below_drewN | apply below_drew1 | refine below_set ?_ GE136.out | refine below_set ?_ GE141.out | refine below_set ?_ GE144.out) | exact HB.out))) : w.heap.size ≤ gb147)); have n6_ := Aside0.mk ((by rw [hg]; exact (below_size (by repeat (first | (with_reducible first | exact HB.out | apply below_alloc | apply pw_below_drewN | apply below_drew1 | refine below_set ?_ GE136.out | refine below_set ?_ GE141.out | refine below_set ?_ GE144.out) | exact HB.out))) : w.heap.size ≤ gb147)); have n7_ := Aside0.mk ((by rw [hg]; exact Nat.ne_of_lt (blk_lt (g := gb136) (o := .cells #[.int .i64 a1_0, .string a1_1, .int .i64 a1_2, .string a1_3, .int .i64 a1_4, .string a1_5] 24 (0, 0)) (by (with_reducible repeat (first | refine blk_drewN ?_ _ | refine blk_drew ?_ | refine blk_alloc ?_ _)); exact BK136.out)) : gb136 ≠ gb147)); have n8_ := Aside0.mk ((by rw [hg]; exact Nat.ne_of_gt (blk_lt (g := gb136) (o := .cells #[.int .i64 a1_0, .string a1_1, .int .i64 a1_2, .string a1_3, .int .i64 a1_4, .string a1_5] 24 (0, 0)) (by (with_reducible repeat (first | refine blk_drewN ?_ _ | refine blk_drew ?_ | refine blk_alloc ?_ _)); exact BK136.out)) : gb147 ≠ gb136)); have n9_ := Aside0.mk ((by rw [hg]; exact Nat.ne_of_lt (blk_lt (g := gb141) (o := .cells #[.int .i64 t139, .string t140] 23 (0, 0)) (by (with_reducible repeat (first | refine blk_drewN ?_ _ | refine blk_drew ?_ | refine blk_alloc ?_ _)); exact BK141.out)) : gb141 ≠ gb147)); have n10_ := Aside0.mk ((by rw [hg]; exact Nat.ne_of_gt (blk_lt (g := gb141) (o := .cells #[.int .i64 t139, .string t140] 23 (0, 0)) (by (with_reducible repeat (first | refine blk_drewN ?_ _ | refine blk_drew ?_ | refine blk_alloc ?_ _)); exact BK141.out)) : gb147 ≠ gb141)); have n11_ := Aside0.mk ((by rw [hg]; exact Nat.ne_of_lt (blk_lt (g := gb144) (o := .cells #[.int .i64 t142, .string t143] 23 (0, 0)) (by (with_reducible repeat (first | refine blk_drewN ?_ _ | refine blk_drew ?_ | refine blk_alloc ?_ _)); exact BK144.out)) : gb144 ≠ gb147)); have n12_ := Aside0.mk ((by rw [hg]; exact Nat.ne_of_gt (blk_lt (g := gb144) (o := .cells #[.int .i64 t142, .string t143] 23 (0, 0)) (by (with_reducible repeat (first | refine blk_drewN ?_ _ | refine blk_drew ?_ | refine blk_alloc ?_ _)); exact BK144.out)) : gb147 ≠ gb144)); clear BK136; clear BK141; clear BK144; clear HB; have BK136 := n0_; have BK141 := n1_; have BK144 := n2_; have HB := n3_; have BK147 := n4_; have GW147 := n5_; have GE147 := n6_; have NB136_147 := n7_; have NB147_136 := n8_; have NB141_147 := n9_; have NB147_141 := n10_; have NB144_147 := n11_; have NB147_144 := n12_; clear n0_ n1_ n2_ n3_ n4_ n5_ n6_ n7_ n8_ n9_ n10_ n11_ n12_; clear hb hbox hg; have hnb28 := NB147_136.out; have hnc28 := NB136_147.out; have hnb29 := NB147_141.out; have hnc29 := NB141_147.out; have hnb30 := NB147_144.out; have hnc30 := NB144_147.out; have hcz31_0 : w27.cell? ⟨gb147, 0, none⟩ = some (.int .i64 0) := (blk_cell BK147.out 0).trans rfl; have hcz31_1 : w27.cell? ⟨gb147, 1, none⟩ = some (.string (⟨#[]⟩ : ByteArray)) := (blk_cell BK147.out 1).trans rfl; have hfz31_0 := blk_frozen BK147.out 0; have hfz31_1 := blk_frozen BK147.out 1; have hcz32_0 : w27.cell? ⟨gb141, 0, none⟩ = some (.int .i64 t139) := (blk_cell BK141.out 0).trans rfl; have hcz32_1 : w27.cell? ⟨gb141, 1, none⟩ = some (.string t140) := (blk_cell BK141.out 1).trans rfl; have hfz32_0 := blk_frozen BK141.out 0; have hfz32_1 := blk_frozen BK141.out 1; have hcz33_0 : w27.cell? ⟨gb144, 0, none⟩ = some (.int .i64 t142) := (blk_cell BK144.out 0).trans rfl; have hcz33_1 : w27.cell? ⟨gb144, 1, none⟩ = some (.string t143) := (blk_cell BK144.out 1).trans rfl; have hfz33_0 := blk_frozen BK144.out 0; have hfz33_1 := blk_frozen BK144.out 1) | ((with_reducible refine gate_callee (f := 12) rfl ?_); refine goesL_ (some 31) rfl rfl Tryd.func12 (by kernel_rfl) rfl #[.int .i64 t138, .agg #[.int .i64 t139, .string t140], .agg #[.int .i64 t142, .string t143]] rfl (by (try simp only [List.map_toArray, List.map_cons, List.map_nil]); first | done | rfl | (simp only [List.length_drop, List.length_take]; rfl)) ?_; (with_reducible refine (value_Compare.calls k t138 t139 t140 t142 t143 t148 _ A8.out).mono ?_); rintro e w34 ⟨rfl, hb⟩; refine ⟨_, rfl, ?_⟩; have n0_ := Aside0.mk (blk_below (g := gb136) (o := .cells #[.int .i64 a1_0, .string a1_1, .int .i64 a1_2, .string a1_3, .int .i64 a1_4, .string a1_5] 24 (0, 0)) (by (with_reducible repeat (first | refine blk_drewN ?_ _ | refine blk_drew ?_ | refine blk_alloc ?_ _)); refine blk_far ?_ NB136_147.out _; (with_reducible repeat (first | refine blk_drewN ?_ _ | refine blk_drew ?_ | refine blk_alloc ?_ _)); refine blk_far ?_ NB136_147.out _; (with_reducible repeat (first | refine blk_drewN ?_ _ | refine blk_drew ?_ | refine blk_alloc ?_ _)); exact BK136.out) hb); have n1_ := Aside0.mk (blk_below (g := gb141) (o := .cells #[.int .i64 t139, .string t140] 23 (0, 0)) (by (with_reducible repeat (first | refine blk_drewN ?_ _ | refine blk_drew ?_ | refine blk_alloc ?_ _)); refine blk_far ?_ NB141_147.out _; (with_reducible repeat (first | refine blk_drewN ?_ _ | refine blk_drew ?_ | refine blk_alloc ?_ _)); refine blk_far ?_ NB141_147.out _; (with_reducible repeat (first | refine blk_drewN ?_ _ | refine blk_drew ?_ | refine blk_alloc ?_ _)); exact BK141.out) hb); have n2_ := Aside0.mk (blk_below (g := gb144) (o := .cells #[.int .i64 t142, .string t143] 23 (0, 0)) (by (with_reducible repeat (first | refine blk_drewN ?_ _ | refine blk_drew ?_ | refine blk_alloc ?_ _)); refine blk_far ?_ NB144_147.out _; (with_reducible repeat (first | refine blk_drewN ?_ _ | refine blk_drew ?_ | refine blk_alloc ?_ _)); refine blk_far ?_ NB144_147.out _; (with_reducible repeat (first | refine blk_drewN ?_ _ | refine blk_drew ?_ | refine blk_alloc ?_ _)); exact BK144.out) hb); have n3_ := Aside0.mk (blk_below (g := gb147) (o := .cells #[.int .i64 t145, .string t146] 23 (0, 0)) (by (with_reducible repeat (first | refine blk_drewN ?_ _ | refine blk_drew ?_ | refine blk_alloc ?_ _)); refine blk_put (cs := #[.int .i64 t145, .string (⟨#[]⟩ : ByteArray)]) ?_ 1 _ rfl; (with_reducible repeat (first | refine blk_drewN ?_ _ | refine blk_drew ?_ | refine blk_alloc ?_ _)); refine blk_put (cs := #[.int .i64 0, .string (⟨#[]⟩ : ByteArray)]) ?_ 0 _ rfl; (with_reducible repeat (first | refine blk_drewN ?_ _ | refine blk_drew ?_ | refine blk_alloc ?_ _)); exact BK147.out) hb); have n4_ := Aside0.mk (below_step (by repeat (first | (with_reducible first | exact HB.out | apply below_alloc | apply pw_below_drewN | apply below_drew1 | refine below_set ?_ GE136.out | refine below_set ?_ GE141.out | refine below_set ?_ GE144.out | refine below_set ?_ GE147.out) | exact HB.out)) hb); clear BK136; clear BK141; clear BK144; clear BK147; clear HB; have BK136 := n0_; have BK141 := n1_; have BK144 := n2_; have BK147 := n3_; have HB := n4_; clear n0_ n1_ n2_ n3_ n4_; (try clear hb); (try clear hb2); (try clear hk); (try clear hi); have hcz35_0 : w34.cell? ⟨gb144, 0, none⟩ = some (.int .i64 t142) := (blk_cell BK144.out 0).trans rfl; have hcz35_1 : w34.cell? ⟨gb144, 1, none⟩ = some (.string t143) := (blk_cell BK144.out 1).trans rfl; have hfz35_0 := blk_frozen BK144.out 0; have hfz35_1 := blk_frozen BK144.out 1; have hcz36_0 : w34.cell? ⟨gb147, 0, none⟩ = some (.int .i64 t145) := (blk_cell BK147.out 0).trans rfl; have hcz36_1 : w34.cell? ⟨gb147, 1, none⟩ = some (.string t146) := (blk_cell BK147.out 1).trans rfl; have hfz36_0 := blk_frozen BK147.out 0; have hfz36_1 := blk_frozen BK147.out 1) | ((with_reducible refine gate_callee (f := 12) rfl ?_); refine goesL_ (some 35) rfl rfl Tryd.func12 (by kernel_rfl) rfl #[.int .i64 t138, .agg #[.int .i64 t142, .string t143], .agg #[.int .i64 t145, .string t146]] rfl (by (try simp only [List.map_toArray, List.map_cons, List.map_nil]); first | done | rfl | (simp only [List.length_drop, List.length_take]; rfl)) ?_; (with_reducible refine (value_Compare.calls k t138 t142 t143 t145 t146 t149 _ A9.out).mono ?_); rintro e w37 ⟨rfl, hb⟩; refine ⟨_, rfl, ?_⟩; have n0_ := Aside0.mk (blk_below (g := gb136) (o := .cells #[.int .i64 a1_0, .string a1_1, .int .i64 a1_2, .string a1_3, .int .i64 a1_4, .string a1_5] 24 (0, 0)) (by (with_reducible repeat (first | refine blk_drewN ?_ _ | refine blk_drew ?_ | refine blk_alloc ?_ _)); exact BK136.out) hb); have n1_ := Aside0.mk (blk_below (g := gb141) (o := .cells #[.int .i64 t139, .string t140] 23 (0, 0)) (by (with_reducible repeat (first | refine blk_drewN ?_ _ | refine blk_drew ?_ | refine blk_alloc ?_ _)); exact BK141.out) hb); have n2_ := Aside0.mk (blk_below (g := gb144) (o := .cells #[.int .i64 t142, .string t143] 23 (0, 0)) (by (with_reducible repeat (first | refine blk_drewN ?_ _ | refine blk_drew ?_ | refine blk_alloc ?_ _)); exact BK144.out) hb); have n3_ := Aside0.mk (blk_below (g := gb147) (o := .cells #[.int .i64 t145, .string t146] 23 (0, 0)) (by (with_reducible repeat (first | refine blk_drewN ?_ _ | refine blk_drew ?_ | refine blk_alloc ?_ _)); exact BK147.out) hb); have n4_ := Aside0.mk (below_step (by repeat (first | (with_reducible first | exact HB.out | apply below_alloc | apply pw_below_drewN | apply below_drew1 | refine below_set ?_ GE136.out | refine below_set ?_ GE141.out | refine below_set ?_ GE144.out | refine below_set ?_ GE147.out) | exact HB.out)) hb); clear BK136; clear BK141; clear BK144; clear BK147; clear HB; have BK136 := n0_; have BK141 := n1_; have BK144 := n2_; have BK147 := n3_; have HB := n4_; clear n0_ n1_ n2_ n3_ n4_; (try clear hb); (try clear hb2); (try clear hk); (try clear hi); have hcz38_0 : w37.cell? ⟨gb141, 0, none⟩ = some (.int .i64 t139) := (blk_cell BK141.out 0).trans rfl; have hcz38_1 : w37.cell? ⟨gb141, 1, none⟩ = some (.string t140) := (blk_cell BK141.out 1).trans rfl; have hfz38_0 := blk_frozen BK141.out 0; have hfz38_1 := blk_frozen BK141.out 1; have hcz39_0 : w37.cell? ⟨gb147, 0, none⟩ = some (.int .i64 t145) := (blk_cell BK147.out 0).trans rfl; have hcz39_1 : w37.cell? ⟨gb147, 1, none⟩ = some (.string t146) := (blk_cell BK147.out 1).trans rfl; have hfz39_0 := blk_frozen BK147.out 0; have hfz39_1 := blk_frozen BK147.out 1) | ((with_reducible refine gate_callee (f := 12) rfl ?_); refine goesL_ (some 39) rfl rfl Tryd.func12 (by kernel_rfl) rfl #[.int .i64 t138, .agg #[.int .i64 t139, .string t140], .agg #[.int .i64 t145, .string t146]] rfl (by (try simp only [List.map_toArray, List.map_cons, List.map_nil]); first | done | rfl | (simp only [List.length_drop, List.length_take]; rfl)) ?_; (with_reducible refine (value_Compare.calls k t138 t139 t140 t145 t146 t150 _ A10.out).mono ?_); rintro e w40 ⟨rfl, hb⟩; refine ⟨_, rfl, ?_⟩; have n0_ := Aside0.mk (blk_below (g := gb136) (o := .cells #[.int .i64 a1_0, .string a1_1, .int .i64 a1_2, .string a1_3, .int .i64 a1_4, .string a1_5] 24 (0, 0)) (by (with_reducible repeat (first | refine blk_drewN ?_ _ | refine blk_drew ?_ | refine blk_alloc ?_ _)); exact BK136.out) hb); have n1_ := Aside0.mk (blk_below (g := gb141) (o := .cells #[.int .i64 t139, .string t140] 23 (0, 0)) (by (with_reducible repeat (first | refine blk_drewN ?_ _ | refine blk_drew ?_ | refine blk_alloc ?_ _)); exact BK141.out) hb); have n2_ := Aside0.mk (blk_below (g := gb144) (o := .cells #[.int .i64 t142, .string t143] 23 (0, 0)) (by (with_reducible repeat (first | refine blk_drewN ?_ _ | refine blk_drew ?_ | refine blk_alloc ?_ _)); exact BK144.out) hb); have n3_ := Aside0.mk (blk_below (g := gb147) (o := .cells #[.int .i64 t145, .string t146] 23 (0, 0)) (by (with_reducible repeat (first | refine blk_drewN ?_ _ | refine blk_drew ?_ | refine blk_alloc ?_ _)); exact BK147.out) hb); have n4_ := Aside0.mk (below_step (by repeat (first | (with_reducible first | exact HB.out | apply below_alloc | apply pw_below_drewN | apply below_drew1 | refine below_set ?_ GE136.out | refine below_set ?_ GE141.out | refine below_set ?_ GE144.out | refine below_set ?_ GE147.out) | exact HB.out)) hb); clear BK136; clear BK141; clear BK144; clear BK147; clear HB; have BK136 := n0_; have BK141 := n1_; have BK144 := n2_; have BK147 := n3_; have HB := n4_; clear n0_ n1_ n2_ n3_ n4_; (try clear hb); (try clear hb2); (try clear hk); (try clear hi)))
  (try simp only [Act.put, List.setIfInBounds_toArray, List.set_cons_zero, List.set_cons_succ])
  go_cut [62] (fun v62 wc => ∃ (kq : Nat) (x62_10 : Bool), v62 = .bool x62_10 ∧ Aside0 (thresherlaw03_ValueOrder.j0 kq t137 t148 t149 t150 x62_10 = some r) ∧ Aside0 (kq ≤ k) ∧ Aside0 (wc.heap[gb136]? = some (.cells #[.int .i64 a1_0, .string a1_1, .int .i64 a1_2, .string a1_3, .int .i64 a1_4, .string a1_5] 24 (0, 0))) ∧ Aside0 (wc.heap[gb141]? = some (.cells #[.int .i64 t139, .string t140] 23 (0, 0))) ∧ Aside0 (wc.heap[gb144]? = some (.cells #[.int .i64 t142, .string t143] 23 (0, 0))) ∧ Aside0 (wc.heap[gb147]? = some (.cells #[.int .i64 t145, .string t146] 23 (0, 0))) ∧ Aside0 (Below w.heap.size w wc))
  case first =>
    have H := HC11.out
    clear HC11
    by_cases c41 : ((t148 == 0) != (t139 == t142 && (t140.toList == t143.toList))) = true
    · rw [if_pos c41] at H
      have c41b0 : ((t148 == 0) != (t139 == t142 && (t140.toList == t143.toList))) = true := c41
      (try (have c41b1 : decide ((t148 == 0) = (t139 == t142 && (t140.toList == t143.toList))) = false := by simpa using c41))
      (try (have c41b2 : ((t148 == 0) == (t139 == t142 && (t140.toList == t143.toList))) = false := by simpa using c41))
      (try (have c41b3 : ¬ ((t148 == 0) = (t139 == t142 && (t140.toList == t143.toList))) := by simpa using c41))
      clear c41
      (first | rw [c41b0] | (simp only [i64_w, i32_w]; rw [c41b0]) | skip)
      have H' := Aside0.mk H
      clear H
      have hnb42 := NB141_136.out
      have hnc42 := NB136_141.out
      have hnb43 := NB141_144.out
      have hnc43 := NB144_141.out
      have hnb44 := NB141_147.out
      have hnc44 := NB147_141.out
      have hcz45_0 : w40.cell? ⟨gb141, 0, none⟩ = some (.int .i64 t139) := (blk_cell BK141.out 0).trans rfl
      have hcz45_1 : w40.cell? ⟨gb141, 1, none⟩ = some (.string t140) := (blk_cell BK141.out 1).trans rfl
      have hfz45_0 := blk_frozen BK141.out 0
      have hfz45_1 := blk_frozen BK141.out 1
      have hnb46 := NB144_136.out
      have hnc46 := NB136_144.out
      have hnb47 := NB144_147.out
      have hnc47 := NB147_144.out
      have hcz48_0 : w40.cell? ⟨gb144, 0, none⟩ = some (.int .i64 t142) := (blk_cell BK144.out 0).trans rfl
      have hcz48_1 : w40.cell? ⟨gb144, 1, none⟩ = some (.string t143) := (blk_cell BK144.out 1).trans rfl
      have hfz48_0 := blk_frozen BK144.out 0
      have hfz48_1 := blk_frozen BK144.out 1
      go_wp2
      go_meet
      case rel => exact ⟨_, (true), (by first | rfl | (simp; done) | (simp [*]; done)), (by first | exact H' | (subst_vars; exact H')), ⟨by first | omega | exact Nat.le_refl _⟩, ⟨by (with_reducible repeat (first | refine blk_drewN ?_ _ | refine blk_drew ?_ | refine blk_alloc ?_ _)); exact BK136.out⟩, ⟨by (with_reducible repeat (first | refine blk_drewN ?_ _ | refine blk_drew ?_ | refine blk_alloc ?_ _)); exact BK141.out⟩, ⟨by (with_reducible repeat (first | refine blk_drewN ?_ _ | refine blk_drew ?_ | refine blk_alloc ?_ _)); exact BK144.out⟩, ⟨by (with_reducible repeat (first | refine blk_drewN ?_ _ | refine blk_drew ?_ | refine blk_alloc ?_ _)); exact BK147.out⟩, ⟨by repeat (first | (with_reducible first | exact HB.out | apply below_alloc | apply pw_below_drewN | apply below_drew1 | refine below_set ?_ GE136.out | refine below_set ?_ GE141.out | refine below_set ?_ GE144.out | refine below_set ?_ GE147.out) | exact HB.out)⟩⟩
    · rw [if_neg c41] at H
      have c41b0 : ((t148 == 0) != (t139 == t142 && (t140.toList == t143.toList))) = false := by simpa using c41
      (try (have c41b1 : decide ((t148 == 0) = (t139 == t142 && (t140.toList == t143.toList))) = true := by simpa using c41))
      (try (have c41b2 : ((t148 == 0) == (t139 == t142 && (t140.toList == t143.toList))) = true := by simpa using c41))
      clear c41
      (first | rw [c41b0] | (simp only [i64_w, i32_w]; rw [c41b0]) | skip)
      replace H := Option.bind_eq_some_iff.mp H
      obtain ⟨t151, A490, H⟩ := H
      replace H : (if t151 = (wrap64 (-t148)) then (if t148 < (-1) then (thresherlaw03_ValueOrder.j0 k t137 t148 t149 t150 true) else (thresherlaw03_ValueOrder.j0 k t137 t148 t149 t150 (decide (t148 > 1)))) else (thresherlaw03_ValueOrder.j0 k t137 t148 t149 t150 true)) = some r := H
      have A49 := Aside0.mk A490
      clear A490
      by_cases c50 : t151 = (wrap64 (-t148))
      · rw [if_pos c50] at H
        have c50b0 : (t151 == (wrap64 (-t148))) = true := beq_iff_eq.mpr c50
        have c50b1 : (t151 != (wrap64 (-t148))) = false := bne_eq_false_iff_eq.mpr c50
        clear c50
        by_cases c51 : t148 < (-1)
        · rw [if_pos c51] at H
          have c51b0 : decide (t148 < (-1)) = true := decide_eq_true c51
          clear c51
          have H' := Aside0.mk H
          clear H
          have hnb52 := NB141_136.out
          have hnc52 := NB136_141.out
          have hnb53 := NB141_144.out
          have hnc53 := NB144_141.out
          have hnb54 := NB141_147.out
          have hnc54 := NB147_141.out
          have hcz55_0 : w40.cell? ⟨gb141, 0, none⟩ = some (.int .i64 t139) := (blk_cell BK141.out 0).trans rfl
          have hcz55_1 : w40.cell? ⟨gb141, 1, none⟩ = some (.string t140) := (blk_cell BK141.out 1).trans rfl
          have hfz55_0 := blk_frozen BK141.out 0
          have hfz55_1 := blk_frozen BK141.out 1
          have hnb56 := NB144_136.out
          have hnc56 := NB136_144.out
          have hnb57 := NB144_147.out
          have hnc57 := NB147_144.out
          have hcz58_0 : w40.cell? ⟨gb144, 0, none⟩ = some (.int .i64 t142) := (blk_cell BK144.out 0).trans rfl
          have hcz58_1 : w40.cell? ⟨gb144, 1, none⟩ = some (.string t143) := (blk_cell BK144.out 1).trans rfl
          have hfz58_0 := blk_frozen BK144.out 0
          have hfz58_1 := blk_frozen BK144.out 1
          go_wp2_with (first | (go_at_call 12; (with_reducible refine (value_Compare.calls k t138 t142 t143 t139 t140 t151 _ A49.out).mono ?_); rintro e w59 ⟨rfl, hb⟩; have n0_ := Aside0.mk (blk_below (g := gb136) (o := .cells #[.int .i64 a1_0, .string a1_1, .int .i64 a1_2, .string a1_3, .int .i64 a1_4, .string a1_5] 24 (0, 0)) (by (with_reducible repeat (first | refine blk_drewN ?_ _ | refine blk_drew ?_ | refine blk_alloc ?_ _)); exact BK136.out) hb); have n1_ := Aside0.mk (blk_below (g := gb141) (o := .cells #[.int .i64 t139, .string t140] 23 (0, 0)) (by (with_reducible repeat (first | refine blk_drewN ?_ _ | refine blk_drew ?_ | refine blk_alloc ?_ _)); exact BK141.out) hb); have n2_ := Aside0.mk (blk_below (g := gb144) (o := .cells #[.int .i64 t142, .string t143] 23 (0, 0)) (by (with_reducible repeat (first | refine blk_drewN ?_ _ | refine blk_drew ?_ | refine blk_alloc ?_ _)); exact BK144.out) hb); have n3_ := Aside0.mk (blk_below (g := gb147) (o := .cells #[.int .i64 t145, .string t146] 23 (0, 0)) (by (with_reducible repeat (first | refine blk_drewN ?_ _ | refine blk_drew ?_ | refine blk_alloc ?_ _)); exact BK147.out) hb); have n4_ := Aside0.mk (below_step (by repeat (first | (with_reducible first | exact HB.out | apply below_alloc | apply pw_below_drewN | apply below_drew1 | refine below_set ?_ GE136.out | refine below_set ?_ GE141.out | refine below_set ?_ GE144.out | refine below_set ?_ GE147.out) | exact HB.out)) hb); clear BK136; clear BK141; clear BK144; clear BK147; clear HB; have BK136 := n0_; have BK141 := n1_; have BK144 := n2_; have BK147 := n3_; have HB := n4_; clear n0_ n1_ n2_ n3_ n4_; (try clear hb); (try clear hb2); (try clear hk); (try clear hi)))
          go_meet
          case rel => exact ⟨_, (true), (by first | rfl | (simp; done) | (simp [*]; done)), (by first | exact H' | (subst_vars; exact H')), ⟨by first | omega | exact Nat.le_refl _⟩, ⟨by (with_reducible repeat (first | refine blk_drewN ?_ _ | refine blk_drew ?_ | refine blk_alloc ?_ _)); exact BK136.out⟩, ⟨by (with_reducible repeat (first | refine blk_drewN ?_ _ | refine blk_drew ?_ | refine blk_alloc ?_ _)); exact BK141.out⟩, ⟨by (with_reducible repeat (first | refine blk_drewN ?_ _ | refine blk_drew ?_ | refine blk_alloc ?_ _)); exact BK144.out⟩, ⟨by (with_reducible repeat (first | refine blk_drewN ?_ _ | refine blk_drew ?_ | refine blk_alloc ?_ _)); exact BK147.out⟩, ⟨by repeat (first | (with_reducible first | exact HB.out | apply below_alloc | apply pw_below_drewN | apply below_drew1 | refine below_set ?_ GE136.out | refine below_set ?_ GE141.out | refine below_set ?_ GE144.out | refine below_set ?_ GE147.out) | exact HB.out)⟩⟩
        · rw [if_neg c51] at H
          have c51b0 : decide (t148 < (-1)) = false := decide_eq_false c51
          clear c51
          have H' := Aside0.mk H
          clear H
          have hnb60 := NB141_136.out
          have hnc60 := NB136_141.out
          have hnb61 := NB141_144.out
          have hnc61 := NB144_141.out
          have hnb62 := NB141_147.out
          have hnc62 := NB147_141.out
          have hcz63_0 : w40.cell? ⟨gb141, 0, none⟩ = some (.int .i64 t139) := (blk_cell BK141.out 0).trans rfl
          have hcz63_1 : w40.cell? ⟨gb141, 1, none⟩ = some (.string t140) := (blk_cell BK141.out 1).trans rfl
          have hfz63_0 := blk_frozen BK141.out 0
          have hfz63_1 := blk_frozen BK141.out 1
          have hnb64 := NB144_136.out
          have hnc64 := NB136_144.out
          have hnb65 := NB144_147.out
          have hnc65 := NB147_144.out
          have hcz66_0 : w40.cell? ⟨gb144, 0, none⟩ = some (.int .i64 t142) := (blk_cell BK144.out 0).trans rfl
          have hcz66_1 : w40.cell? ⟨gb144, 1, none⟩ = some (.string t143) := (blk_cell BK144.out 1).trans rfl
          have hfz66_0 := blk_frozen BK144.out 0
          have hfz66_1 := blk_frozen BK144.out 1
          go_wp2_with (first | (go_at_call 12; (with_reducible refine (value_Compare.calls k t138 t142 t143 t139 t140 t151 _ A49.out).mono ?_); rintro e w67 ⟨rfl, hb⟩; have n0_ := Aside0.mk (blk_below (g := gb136) (o := .cells #[.int .i64 a1_0, .string a1_1, .int .i64 a1_2, .string a1_3, .int .i64 a1_4, .string a1_5] 24 (0, 0)) (by (with_reducible repeat (first | refine blk_drewN ?_ _ | refine blk_drew ?_ | refine blk_alloc ?_ _)); exact BK136.out) hb); have n1_ := Aside0.mk (blk_below (g := gb141) (o := .cells #[.int .i64 t139, .string t140] 23 (0, 0)) (by (with_reducible repeat (first | refine blk_drewN ?_ _ | refine blk_drew ?_ | refine blk_alloc ?_ _)); exact BK141.out) hb); have n2_ := Aside0.mk (blk_below (g := gb144) (o := .cells #[.int .i64 t142, .string t143] 23 (0, 0)) (by (with_reducible repeat (first | refine blk_drewN ?_ _ | refine blk_drew ?_ | refine blk_alloc ?_ _)); exact BK144.out) hb); have n3_ := Aside0.mk (blk_below (g := gb147) (o := .cells #[.int .i64 t145, .string t146] 23 (0, 0)) (by (with_reducible repeat (first | refine blk_drewN ?_ _ | refine blk_drew ?_ | refine blk_alloc ?_ _)); exact BK147.out) hb); have n4_ := Aside0.mk (below_step (by repeat (first | (with_reducible first | exact HB.out | apply below_alloc | apply pw_below_drewN | apply below_drew1 | refine below_set ?_ GE136.out | refine below_set ?_ GE141.out | refine below_set ?_ GE144.out | refine below_set ?_ GE147.out) | exact HB.out)) hb); clear BK136; clear BK141; clear BK144; clear BK147; clear HB; have BK136 := n0_; have BK141 := n1_; have BK144 := n2_; have BK147 := n3_; have HB := n4_; clear n0_ n1_ n2_ n3_ n4_; (try clear hb); (try clear hb2); (try clear hk); (try clear hi)))
          go_meet
          case rel => exact ⟨_, (decide (t148 > 1)), (by first | rfl | (simp; done) | (simp [*]; done)), (by first | exact H' | (subst_vars; exact H')), ⟨by first | omega | exact Nat.le_refl _⟩, ⟨by (with_reducible repeat (first | refine blk_drewN ?_ _ | refine blk_drew ?_ | refine blk_alloc ?_ _)); exact BK136.out⟩, ⟨by (with_reducible repeat (first | refine blk_drewN ?_ _ | refine blk_drew ?_ | refine blk_alloc ?_ _)); exact BK141.out⟩, ⟨by (with_reducible repeat (first | refine blk_drewN ?_ _ | refine blk_drew ?_ | refine blk_alloc ?_ _)); exact BK144.out⟩, ⟨by (with_reducible repeat (first | refine blk_drewN ?_ _ | refine blk_drew ?_ | refine blk_alloc ?_ _)); exact BK147.out⟩, ⟨by repeat (first | (with_reducible first | exact HB.out | apply below_alloc | apply pw_below_drewN | apply below_drew1 | refine below_set ?_ GE136.out | refine below_set ?_ GE141.out | refine below_set ?_ GE144.out | refine below_set ?_ GE147.out) | exact HB.out)⟩⟩
      · rw [if_neg c50] at H
        have c50b0 : (t151 == (wrap64 (-t148))) = false := beq_eq_false_iff_ne.mpr c50
        have c50b1 : (t151 != (wrap64 (-t148))) = true := bne_iff_ne.mpr c50
        have H' := Aside0.mk H
        clear H
        have hnb68 := NB141_136.out
        have hnc68 := NB136_141.out
        have hnb69 := NB141_144.out
        have hnc69 := NB144_141.out
        have hnb70 := NB141_147.out
        have hnc70 := NB147_141.out
        have hcz71_0 : w40.cell? ⟨gb141, 0, none⟩ = some (.int .i64 t139) := (blk_cell BK141.out 0).trans rfl
        have hcz71_1 : w40.cell? ⟨gb141, 1, none⟩ = some (.string t140) := (blk_cell BK141.out 1).trans rfl
        have hfz71_0 := blk_frozen BK141.out 0
        have hfz71_1 := blk_frozen BK141.out 1
        have hnb72 := NB144_136.out
        have hnc72 := NB136_144.out
        have hnb73 := NB144_147.out
        have hnc73 := NB147_144.out
        have hcz74_0 : w40.cell? ⟨gb144, 0, none⟩ = some (.int .i64 t142) := (blk_cell BK144.out 0).trans rfl
        have hcz74_1 : w40.cell? ⟨gb144, 1, none⟩ = some (.string t143) := (blk_cell BK144.out 1).trans rfl
        have hfz74_0 := blk_frozen BK144.out 0
        have hfz74_1 := blk_frozen BK144.out 1
        go_wp2_with (first | (go_at_call 12; (with_reducible refine (value_Compare.calls k t138 t142 t143 t139 t140 t151 _ A49.out).mono ?_); rintro e w75 ⟨rfl, hb⟩; have n0_ := Aside0.mk (blk_below (g := gb136) (o := .cells #[.int .i64 a1_0, .string a1_1, .int .i64 a1_2, .string a1_3, .int .i64 a1_4, .string a1_5] 24 (0, 0)) (by (with_reducible repeat (first | refine blk_drewN ?_ _ | refine blk_drew ?_ | refine blk_alloc ?_ _)); exact BK136.out) hb); have n1_ := Aside0.mk (blk_below (g := gb141) (o := .cells #[.int .i64 t139, .string t140] 23 (0, 0)) (by (with_reducible repeat (first | refine blk_drewN ?_ _ | refine blk_drew ?_ | refine blk_alloc ?_ _)); exact BK141.out) hb); have n2_ := Aside0.mk (blk_below (g := gb144) (o := .cells #[.int .i64 t142, .string t143] 23 (0, 0)) (by (with_reducible repeat (first | refine blk_drewN ?_ _ | refine blk_drew ?_ | refine blk_alloc ?_ _)); exact BK144.out) hb); have n3_ := Aside0.mk (blk_below (g := gb147) (o := .cells #[.int .i64 t145, .string t146] 23 (0, 0)) (by (with_reducible repeat (first | refine blk_drewN ?_ _ | refine blk_drew ?_ | refine blk_alloc ?_ _)); exact BK147.out) hb); have n4_ := Aside0.mk (below_step (by repeat (first | (with_reducible first | exact HB.out | apply below_alloc | apply pw_below_drewN | apply below_drew1 | refine below_set ?_ GE136.out | refine below_set ?_ GE141.out | refine below_set ?_ GE144.out | refine below_set ?_ GE147.out) | exact HB.out)) hb); clear BK136; clear BK141; clear BK144; clear BK147; clear HB; have BK136 := n0_; have BK141 := n1_; have BK144 := n2_; have BK147 := n3_; have HB := n4_; clear n0_ n1_ n2_ n3_ n4_; (try clear hb); (try clear hb2); (try clear hk); (try clear hi)))
        go_meet
        case rel => exact ⟨_, (true), (by first | rfl | (simp; done) | (simp [*]; done)), (by first | exact H' | (subst_vars; exact H')), ⟨by first | omega | exact Nat.le_refl _⟩, ⟨by (with_reducible repeat (first | refine blk_drewN ?_ _ | refine blk_drew ?_ | refine blk_alloc ?_ _)); exact BK136.out⟩, ⟨by (with_reducible repeat (first | refine blk_drewN ?_ _ | refine blk_drew ?_ | refine blk_alloc ?_ _)); exact BK141.out⟩, ⟨by (with_reducible repeat (first | refine blk_drewN ?_ _ | refine blk_drew ?_ | refine blk_alloc ?_ _)); exact BK144.out⟩, ⟨by (with_reducible repeat (first | refine blk_drewN ?_ _ | refine blk_drew ?_ | refine blk_alloc ?_ _)); exact BK147.out⟩, ⟨by repeat (first | (with_reducible first | exact HB.out | apply below_alloc | apply pw_below_drewN | apply below_drew1 | refine below_set ?_ GE136.out | refine below_set ?_ GE141.out | refine below_set ?_ GE144.out | refine below_set ?_ GE147.out) | exact HB.out)⟩⟩
  case rest =>
    clear HC11
    try clear c1
    try clear c2
    try clear p2
    try clear c3
    try clear c4
    try clear c5
    try clear c6
    try clear p6
    try clear c7
    try clear c9
    try clear c10
    try clear c11
    try clear c12
    try clear c17
    try clear c22
    try clear c23
    try clear c28
    try clear c29
    try clear c30
    try clear c41
    try clear c41b0
    try clear c41b1
    try clear c41b2
    try clear c42
    try clear c43
    try clear c44
    try clear c46
    try clear c47
    try clear c50
    try clear c50b0
    try clear c50b1
    try clear c51
    try clear c51b0
    try clear c52
    try clear c53
    try clear c54
    try clear c56
    try clear c57
    try clear c60
    try clear c61
    try clear c62
    try clear c64
    try clear p64
    try clear c65
    try clear c68
    try clear c69
    try clear c70
    try clear c72
    try clear c73
    try clear hcz14_0
    try clear hcz14_1
    try clear hcz14_2
    try clear hcz14_3
    try clear hcz14_4
    try clear hcz14_5
    try clear hcz18_0
    try clear hcz18_1
    try clear hcz19_0
    try clear hcz19_1
    try clear hcz19_2
    try clear hcz19_3
    try clear hcz19_4
    try clear hcz19_5
    try clear hcz24_0
    try clear hcz24_1
    try clear hcz25_0
    try clear hcz25_1
    try clear hcz25_2
    try clear hcz25_3
    try clear hcz25_4
    try clear hcz25_5
    try clear hcz31_0
    try clear hcz31_1
    try clear hcz32_0
    try clear hcz32_1
    try clear hcz33_0
    try clear hcz33_1
    try clear hcz35_0
    try clear hcz35_1
    try clear hcz36_0
    try clear hcz36_1
    try clear hcz38_0
    try clear hcz38_1
    try clear hcz39_0
    try clear hcz39_1
    try clear hcz45_0
    try clear hcz45_1
    try clear hcz48_0
    try clear hcz48_1
    try clear hcz55_0
    try clear hcz55_1
    try clear hcz58_0
    try clear hcz58_1
    try clear hcz63_0
    try clear hcz63_1
    try clear hcz66_0
    try clear hcz66_1
    try clear hcz71_0
    try clear hcz71_1
    try clear hcz74_0
    try clear hcz74_1
    try clear hfz14_0
    try clear hfz14_1
    try clear hfz14_2
    try clear hfz14_3
    try clear hfz14_4
    try clear hfz14_5
    try clear hfz18_0
    try clear hfz18_1
    try clear hfz19_0
    try clear hfz19_1
    try clear hfz19_2
    try clear hfz19_3
    try clear hfz19_4
    try clear hfz19_5
    try clear hfz24_0
    try clear hfz24_1
    try clear hfz25_0
    try clear hfz25_1
    try clear hfz25_2
    try clear hfz25_3
    try clear hfz25_4
    try clear hfz25_5
    try clear hfz31_0
    try clear hfz31_1
    try clear hfz32_0
    try clear hfz32_1
    try clear hfz33_0
    try clear hfz33_1
    try clear hfz35_0
    try clear hfz35_1
    try clear hfz36_0
    try clear hfz36_1
    try clear hfz38_0
    try clear hfz38_1
    try clear hfz39_0
    try clear hfz39_1
    try clear hfz45_0
    try clear hfz45_1
    try clear hfz48_0
    try clear hfz48_1
    try clear hfz55_0
    try clear hfz55_1
    try clear hfz58_0
    try clear hfz58_1
    try clear hfz63_0
    try clear hfz63_1
    try clear hfz66_0
    try clear hfz66_1
    try clear hfz71_0
    try clear hfz71_1
    try clear hfz74_0
    try clear hfz74_1
    obtain ⟨kq, x62_10, rfl, HA, HJ10, BK136, BK141, BK144, BK147, HB⟩ := hcut
    cases kq with
    | zero => exact absurd HA.out (by simp [thresherlaw03_ValueOrder.j0])
    | succ kj10 =>
      have H := HA.out
      clear HA
      simp only [thresherlaw03_ValueOrder.j0] at H
      by_cases c76 : x62_10 = true
      · subst c76
        have H1 : (some false) = some r := by rw [if_pos rfl] at H; exact H
        clear H
        have H := H1
        clear H1
        obtain rfl := Option.some.inj H
        go_wp2
        go_ret
        exact ⟨by first | rfl | (simp [errW_none, errW_some] <;> rfl) | (simp [*, errW_none, errW_some] <;> rfl), by repeat (first | (with_reducible first | exact HB.out | apply below_alloc | apply pw_below_drewN | apply below_drew1 | refine below_set ?_ GE136.out | refine below_set ?_ GE141.out | refine below_set ?_ GE144.out | refine below_set ?_ GE147.out) | exact HB.out)⟩
      · replace c76 := Bool.eq_false_iff.mpr c76
        subst c76
        have H1 : (if t137 = true then (if t148 > 0 then (if t148 < 0 then (if t148 = 0 then (thresherlaw03_ValueOrder.j1 kj10 (t150 == t149)) else (thresherlaw03_ValueOrder.j1 kj10 true)) else (if t149 < 0 then (if t148 = 0 then (thresherlaw03_ValueOrder.j1 kj10 (t150 == t149)) else (thresherlaw03_ValueOrder.j1 kj10 true)) else (if t150 ≥ 0 then (if t148 = 0 then (thresherlaw03_ValueOrder.j1 kj10 (t150 == t149)) else (thresherlaw03_ValueOrder.j1 kj10 true)) else (thresherlaw03_ValueOrder.j1 kj10 false)))) else (if t149 > 0 then (if t148 < 0 then (if t148 = 0 then (thresherlaw03_ValueOrder.j1 kj10 (t150 == t149)) else (thresherlaw03_ValueOrder.j1 kj10 true)) else (if t149 < 0 then (if t148 = 0 then (thresherlaw03_ValueOrder.j1 kj10 (t150 == t149)) else (thresherlaw03_ValueOrder.j1 kj10 true)) else (if t150 ≥ 0 then (if t148 = 0 then (thresherlaw03_ValueOrder.j1 kj10 (t150 == t149)) else (thresherlaw03_ValueOrder.j1 kj10 true)) else (thresherlaw03_ValueOrder.j1 kj10 false)))) else (if t150 ≤ 0 then (if t148 < 0 then (if t148 = 0 then (thresherlaw03_ValueOrder.j1 kj10 (t150 == t149)) else (thresherlaw03_ValueOrder.j1 kj10 true)) else (if t149 < 0 then (if t148 = 0 then (thresherlaw03_ValueOrder.j1 kj10 (t150 == t149)) else (thresherlaw03_ValueOrder.j1 kj10 true)) else (if t150 ≥ 0 then (if t148 = 0 then (thresherlaw03_ValueOrder.j1 kj10 (t150 == t149)) else (thresherlaw03_ValueOrder.j1 kj10 true)) else (thresherlaw03_ValueOrder.j1 kj10 false)))) else (thresherlaw03_ValueOrder.j1 kj10 false)))) else (thresherlaw03_ValueOrder.j1 kj10 false)) = some r := by rw [if_neg (show ¬ (false = true) by decide)] at H; exact H
        clear H
        have H := H1
        clear H1
        have HC77 := Aside0.mk H
        clear H
        go_upto_region 11 with (fail)
        go_cut [4] (fun v4 wc => ∃ (kq : Nat) (x4_76 : Bool), v4 = .bool x4_76 ∧ Aside0 (thresherlaw03_ValueOrder.j1 kq x4_76 = some r) ∧ Aside0 (kq ≤ kj10) ∧ Aside0 (wc.heap[gb136]? = some (.cells #[.int .i64 a1_0, .string a1_1, .int .i64 a1_2, .string a1_3, .int .i64 a1_4, .string a1_5] 24 (0, 0))) ∧ Aside0 (wc.heap[gb141]? = some (.cells #[.int .i64 t139, .string t140] 23 (0, 0))) ∧ Aside0 (wc.heap[gb144]? = some (.cells #[.int .i64 t142, .string t143] 23 (0, 0))) ∧ Aside0 (wc.heap[gb147]? = some (.cells #[.int .i64 t145, .string t146] 23 (0, 0))) ∧ Aside0 (Below w.heap.size w wc))
        case first =>
          have H := HC77.out
          clear HC77
          by_cases c78 : t137 = true
          · subst c78
            have H1 : (if t148 > 0 then (if t148 < 0 then (if t148 = 0 then (thresherlaw03_ValueOrder.j1 kj10 (t150 == t149)) else (thresherlaw03_ValueOrder.j1 kj10 true)) else (if t149 < 0 then (if t148 = 0 then (thresherlaw03_ValueOrder.j1 kj10 (t150 == t149)) else (thresherlaw03_ValueOrder.j1 kj10 true)) else (if t150 ≥ 0 then (if t148 = 0 then (thresherlaw03_ValueOrder.j1 kj10 (t150 == t149)) else (thresherlaw03_ValueOrder.j1 kj10 true)) else (thresherlaw03_ValueOrder.j1 kj10 false)))) else (if t149 > 0 then (if t148 < 0 then (if t148 = 0 then (thresherlaw03_ValueOrder.j1 kj10 (t150 == t149)) else (thresherlaw03_ValueOrder.j1 kj10 true)) else (if t149 < 0 then (if t148 = 0 then (thresherlaw03_ValueOrder.j1 kj10 (t150 == t149)) else (thresherlaw03_ValueOrder.j1 kj10 true)) else (if t150 ≥ 0 then (if t148 = 0 then (thresherlaw03_ValueOrder.j1 kj10 (t150 == t149)) else (thresherlaw03_ValueOrder.j1 kj10 true)) else (thresherlaw03_ValueOrder.j1 kj10 false)))) else (if t150 ≤ 0 then (if t148 < 0 then (if t148 = 0 then (thresherlaw03_ValueOrder.j1 kj10 (t150 == t149)) else (thresherlaw03_ValueOrder.j1 kj10 true)) else (if t149 < 0 then (if t148 = 0 then (thresherlaw03_ValueOrder.j1 kj10 (t150 == t149)) else (thresherlaw03_ValueOrder.j1 kj10 true)) else (if t150 ≥ 0 then (if t148 = 0 then (thresherlaw03_ValueOrder.j1 kj10 (t150 == t149)) else (thresherlaw03_ValueOrder.j1 kj10 true)) else (thresherlaw03_ValueOrder.j1 kj10 false)))) else (thresherlaw03_ValueOrder.j1 kj10 false)))) = some r := by rw [if_pos rfl] at H; exact H
            clear H
            have H := H1
            clear H1
            by_cases c79 : t148 > 0
            · rw [if_pos c79] at H
              have c79b0 : decide (0 < t148) = true := decide_eq_true c79
              clear c79
              (first | rw [c79b0] | (simp only [i64_w, i32_w]; rw [c79b0]) | skip)
              by_cases c80 : t148 < 0
              · rw [if_pos c80] at H
                have c80b0 : decide (t148 < 0) = true := decide_eq_true c80
                clear c80
                by_cases c81 : t148 = 0
                · rw [if_pos c81] at H
                  have c81b0 : (t148 == 0) = true := beq_iff_eq.mpr c81
                  have c81b1 : (t148 != 0) = false := bne_eq_false_iff_eq.mpr c81
                  clear c81
                  have H' := Aside0.mk H
                  clear H
                  go_wp2
                  go_meet
                  case rel => exact ⟨_, ((t150 == t149)), (by first | rfl | (simp; done) | (simp [*]; done)), (by first | exact H' | (subst_vars; exact H')), ⟨by have := HJ10.out; first | omega | exact Nat.le_refl _⟩, ⟨by (with_reducible repeat (first | refine blk_drewN ?_ _ | refine blk_drew ?_ | refine blk_alloc ?_ _)); exact BK136.out⟩, ⟨by (with_reducible repeat (first | refine blk_drewN ?_ _ | refine blk_drew ?_ | refine blk_alloc ?_ _)); exact BK141.out⟩, ⟨by (with_reducible repeat (first | refine blk_drewN ?_ _ | refine blk_drew ?_ | refine blk_alloc ?_ _)); exact BK144.out⟩, ⟨by (with_reducible repeat (first | refine blk_drewN ?_ _ | refine blk_drew ?_ | refine blk_alloc ?_ _)); exact BK147.out⟩, ⟨by repeat (first | (with_reducible first | exact HB.out | apply below_alloc | apply pw_below_drewN | apply below_drew1 | refine below_set ?_ GE136.out | refine below_set ?_ GE141.out | refine below_set ?_ GE144.out | refine below_set ?_ GE147.out) | exact HB.out)⟩⟩
                · rw [if_neg c81] at H
                  have c81b0 : (t148 == 0) = false := beq_eq_false_iff_ne.mpr c81
                  have c81b1 : (t148 != 0) = true := bne_iff_ne.mpr c81
                  have H' := Aside0.mk H
                  clear H
                  go_wp2
                  go_meet
                  case rel => exact ⟨_, (true), (by first | rfl | (simp; done) | (simp [*]; done)), (by first | exact H' | (subst_vars; exact H')), ⟨by have := HJ10.out; first | omega | exact Nat.le_refl _⟩, ⟨by (with_reducible repeat (first | refine blk_drewN ?_ _ | refine blk_drew ?_ | refine blk_alloc ?_ _)); exact BK136.out⟩, ⟨by (with_reducible repeat (first | refine blk_drewN ?_ _ | refine blk_drew ?_ | refine blk_alloc ?_ _)); exact BK141.out⟩, ⟨by (with_reducible repeat (first | refine blk_drewN ?_ _ | refine blk_drew ?_ | refine blk_alloc ?_ _)); exact BK144.out⟩, ⟨by (with_reducible repeat (first | refine blk_drewN ?_ _ | refine blk_drew ?_ | refine blk_alloc ?_ _)); exact BK147.out⟩, ⟨by repeat (first | (with_reducible first | exact HB.out | apply below_alloc | apply pw_below_drewN | apply below_drew1 | refine below_set ?_ GE136.out | refine below_set ?_ GE141.out | refine below_set ?_ GE144.out | refine below_set ?_ GE147.out) | exact HB.out)⟩⟩
              · rw [if_neg c80] at H
                have c80b0 : decide (t148 < 0) = false := decide_eq_false c80
                clear c80
                by_cases c82 : t149 < 0
                · rw [if_pos c82] at H
                  have c82b0 : decide (t149 < 0) = true := decide_eq_true c82
                  clear c82
                  by_cases c83 : t148 = 0
                  · rw [if_pos c83] at H
                    have c83b0 : (t148 == 0) = true := beq_iff_eq.mpr c83
                    have c83b1 : (t148 != 0) = false := bne_eq_false_iff_eq.mpr c83
                    clear c83
                    have H' := Aside0.mk H
                    clear H
                    go_wp2
                    go_meet
                    case rel => exact ⟨_, ((t150 == t149)), (by first | rfl | (simp; done) | (simp [*]; done)), (by first | exact H' | (subst_vars; exact H')), ⟨by have := HJ10.out; first | omega | exact Nat.le_refl _⟩, ⟨by (with_reducible repeat (first | refine blk_drewN ?_ _ | refine blk_drew ?_ | refine blk_alloc ?_ _)); exact BK136.out⟩, ⟨by (with_reducible repeat (first | refine blk_drewN ?_ _ | refine blk_drew ?_ | refine blk_alloc ?_ _)); exact BK141.out⟩, ⟨by (with_reducible repeat (first | refine blk_drewN ?_ _ | refine blk_drew ?_ | refine blk_alloc ?_ _)); exact BK144.out⟩, ⟨by (with_reducible repeat (first | refine blk_drewN ?_ _ | refine blk_drew ?_ | refine blk_alloc ?_ _)); exact BK147.out⟩, ⟨by repeat (first | (with_reducible first | exact HB.out | apply below_alloc | apply pw_below_drewN | apply below_drew1 | refine below_set ?_ GE136.out | refine below_set ?_ GE141.out | refine below_set ?_ GE144.out | refine below_set ?_ GE147.out) | exact HB.out)⟩⟩
                  · rw [if_neg c83] at H
                    have c83b0 : (t148 == 0) = false := beq_eq_false_iff_ne.mpr c83
                    have c83b1 : (t148 != 0) = true := bne_iff_ne.mpr c83
                    have H' := Aside0.mk H
                    clear H
                    go_wp2
                    go_meet
                    case rel => exact ⟨_, (true), (by first | rfl | (simp; done) | (simp [*]; done)), (by first | exact H' | (subst_vars; exact H')), ⟨by have := HJ10.out; first | omega | exact Nat.le_refl _⟩, ⟨by (with_reducible repeat (first | refine blk_drewN ?_ _ | refine blk_drew ?_ | refine blk_alloc ?_ _)); exact BK136.out⟩, ⟨by (with_reducible repeat (first | refine blk_drewN ?_ _ | refine blk_drew ?_ | refine blk_alloc ?_ _)); exact BK141.out⟩, ⟨by (with_reducible repeat (first | refine blk_drewN ?_ _ | refine blk_drew ?_ | refine blk_alloc ?_ _)); exact BK144.out⟩, ⟨by (with_reducible repeat (first | refine blk_drewN ?_ _ | refine blk_drew ?_ | refine blk_alloc ?_ _)); exact BK147.out⟩, ⟨by repeat (first | (with_reducible first | exact HB.out | apply below_alloc | apply pw_below_drewN | apply below_drew1 | refine below_set ?_ GE136.out | refine below_set ?_ GE141.out | refine below_set ?_ GE144.out | refine below_set ?_ GE147.out) | exact HB.out)⟩⟩
                · rw [if_neg c82] at H
                  have c82b0 : decide (t149 < 0) = false := decide_eq_false c82
                  clear c82
                  by_cases c84 : t150 ≥ 0
                  · rw [if_pos c84] at H
                    have c84b0 : decide (0 ≤ t150) = true := decide_eq_true c84
                    clear c84
                    by_cases c85 : t148 = 0
                    · rw [if_pos c85] at H
                      have c85b0 : (t148 == 0) = true := beq_iff_eq.mpr c85
                      have c85b1 : (t148 != 0) = false := bne_eq_false_iff_eq.mpr c85
                      clear c85
                      have H' := Aside0.mk H
                      clear H
                      go_wp2
                      go_meet
                      case rel => exact ⟨_, ((t150 == t149)), (by first | rfl | (simp; done) | (simp [*]; done)), (by first | exact H' | (subst_vars; exact H')), ⟨by have := HJ10.out; first | omega | exact Nat.le_refl _⟩, ⟨by (with_reducible repeat (first | refine blk_drewN ?_ _ | refine blk_drew ?_ | refine blk_alloc ?_ _)); exact BK136.out⟩, ⟨by (with_reducible repeat (first | refine blk_drewN ?_ _ | refine blk_drew ?_ | refine blk_alloc ?_ _)); exact BK141.out⟩, ⟨by (with_reducible repeat (first | refine blk_drewN ?_ _ | refine blk_drew ?_ | refine blk_alloc ?_ _)); exact BK144.out⟩, ⟨by (with_reducible repeat (first | refine blk_drewN ?_ _ | refine blk_drew ?_ | refine blk_alloc ?_ _)); exact BK147.out⟩, ⟨by repeat (first | (with_reducible first | exact HB.out | apply below_alloc | apply pw_below_drewN | apply below_drew1 | refine below_set ?_ GE136.out | refine below_set ?_ GE141.out | refine below_set ?_ GE144.out | refine below_set ?_ GE147.out) | exact HB.out)⟩⟩
                    · rw [if_neg c85] at H
                      have c85b0 : (t148 == 0) = false := beq_eq_false_iff_ne.mpr c85
                      have c85b1 : (t148 != 0) = true := bne_iff_ne.mpr c85
                      have H' := Aside0.mk H
                      clear H
                      go_wp2
                      go_meet
                      case rel => exact ⟨_, (true), (by first | rfl | (simp; done) | (simp [*]; done)), (by first | exact H' | (subst_vars; exact H')), ⟨by have := HJ10.out; first | omega | exact Nat.le_refl _⟩, ⟨by (with_reducible repeat (first | refine blk_drewN ?_ _ | refine blk_drew ?_ | refine blk_alloc ?_ _)); exact BK136.out⟩, ⟨by (with_reducible repeat (first | refine blk_drewN ?_ _ | refine blk_drew ?_ | refine blk_alloc ?_ _)); exact BK141.out⟩, ⟨by (with_reducible repeat (first | refine blk_drewN ?_ _ | refine blk_drew ?_ | refine blk_alloc ?_ _)); exact BK144.out⟩, ⟨by (with_reducible repeat (first | refine blk_drewN ?_ _ | refine blk_drew ?_ | refine blk_alloc ?_ _)); exact BK147.out⟩, ⟨by repeat (first | (with_reducible first | exact HB.out | apply below_alloc | apply pw_below_drewN | apply below_drew1 | refine below_set ?_ GE136.out | refine below_set ?_ GE141.out | refine below_set ?_ GE144.out | refine below_set ?_ GE147.out) | exact HB.out)⟩⟩
                  · rw [if_neg c84] at H
                    have c84b0 : decide (0 ≤ t150) = false := decide_eq_false c84
                    clear c84
                    have H' := Aside0.mk H
                    clear H
                    go_wp2
                    go_meet
                    case rel => exact ⟨_, (false), (by first | rfl | (simp; done) | (simp [*]; done)), (by first | exact H' | (subst_vars; exact H')), ⟨by have := HJ10.out; first | omega | exact Nat.le_refl _⟩, ⟨by (with_reducible repeat (first | refine blk_drewN ?_ _ | refine blk_drew ?_ | refine blk_alloc ?_ _)); exact BK136.out⟩, ⟨by (with_reducible repeat (first | refine blk_drewN ?_ _ | refine blk_drew ?_ | refine blk_alloc ?_ _)); exact BK141.out⟩, ⟨by (with_reducible repeat (first | refine blk_drewN ?_ _ | refine blk_drew ?_ | refine blk_alloc ?_ _)); exact BK144.out⟩, ⟨by (with_reducible repeat (first | refine blk_drewN ?_ _ | refine blk_drew ?_ | refine blk_alloc ?_ _)); exact BK147.out⟩, ⟨by repeat (first | (with_reducible first | exact HB.out | apply below_alloc | apply pw_below_drewN | apply below_drew1 | refine below_set ?_ GE136.out | refine below_set ?_ GE141.out | refine below_set ?_ GE144.out | refine below_set ?_ GE147.out) | exact HB.out)⟩⟩
            · rw [if_neg c79] at H
              have c79b0 : decide (0 < t148) = false := decide_eq_false c79
              clear c79
              (first | rw [c79b0] | (simp only [i64_w, i32_w]; rw [c79b0]) | skip)
              by_cases c86 : t149 > 0
              · rw [if_pos c86] at H
                have c86b0 : decide (0 < t149) = true := decide_eq_true c86
                clear c86
                by_cases c87 : t148 < 0
                · rw [if_pos c87] at H
                  have c87b0 : decide (t148 < 0) = true := decide_eq_true c87
                  clear c87
                  by_cases c88 : t148 = 0
                  · rw [if_pos c88] at H
                    have c88b0 : (t148 == 0) = true := beq_iff_eq.mpr c88
                    have c88b1 : (t148 != 0) = false := bne_eq_false_iff_eq.mpr c88
                    clear c88
                    have H' := Aside0.mk H
                    clear H
                    go_wp2
                    go_meet
                    case rel => exact ⟨_, ((t150 == t149)), (by first | rfl | (simp; done) | (simp [*]; done)), (by first | exact H' | (subst_vars; exact H')), ⟨by have := HJ10.out; first | omega | exact Nat.le_refl _⟩, ⟨by (with_reducible repeat (first | refine blk_drewN ?_ _ | refine blk_drew ?_ | refine blk_alloc ?_ _)); exact BK136.out⟩, ⟨by (with_reducible repeat (first | refine blk_drewN ?_ _ | refine blk_drew ?_ | refine blk_alloc ?_ _)); exact BK141.out⟩, ⟨by (with_reducible repeat (first | refine blk_drewN ?_ _ | refine blk_drew ?_ | refine blk_alloc ?_ _)); exact BK144.out⟩, ⟨by (with_reducible repeat (first | refine blk_drewN ?_ _ | refine blk_drew ?_ | refine blk_alloc ?_ _)); exact BK147.out⟩, ⟨by repeat (first | (with_reducible first | exact HB.out | apply below_alloc | apply pw_below_drewN | apply below_drew1 | refine below_set ?_ GE136.out | refine below_set ?_ GE141.out | refine below_set ?_ GE144.out | refine below_set ?_ GE147.out) | exact HB.out)⟩⟩
                  · rw [if_neg c88] at H
                    have c88b0 : (t148 == 0) = false := beq_eq_false_iff_ne.mpr c88
                    have c88b1 : (t148 != 0) = true := bne_iff_ne.mpr c88
                    have H' := Aside0.mk H
                    clear H
                    go_wp2
                    go_meet
                    case rel => exact ⟨_, (true), (by first | rfl | (simp; done) | (simp [*]; done)), (by first | exact H' | (subst_vars; exact H')), ⟨by have := HJ10.out; first | omega | exact Nat.le_refl _⟩, ⟨by (with_reducible repeat (first | refine blk_drewN ?_ _ | refine blk_drew ?_ | refine blk_alloc ?_ _)); exact BK136.out⟩, ⟨by (with_reducible repeat (first | refine blk_drewN ?_ _ | refine blk_drew ?_ | refine blk_alloc ?_ _)); exact BK141.out⟩, ⟨by (with_reducible repeat (first | refine blk_drewN ?_ _ | refine blk_drew ?_ | refine blk_alloc ?_ _)); exact BK144.out⟩, ⟨by (with_reducible repeat (first | refine blk_drewN ?_ _ | refine blk_drew ?_ | refine blk_alloc ?_ _)); exact BK147.out⟩, ⟨by repeat (first | (with_reducible first | exact HB.out | apply below_alloc | apply pw_below_drewN | apply below_drew1 | refine below_set ?_ GE136.out | refine below_set ?_ GE141.out | refine below_set ?_ GE144.out | refine below_set ?_ GE147.out) | exact HB.out)⟩⟩
                · rw [if_neg c87] at H
                  have c87b0 : decide (t148 < 0) = false := decide_eq_false c87
                  clear c87
                  by_cases c89 : t149 < 0
                  · rw [if_pos c89] at H
                    have c89b0 : decide (t149 < 0) = true := decide_eq_true c89
                    clear c89
                    by_cases c90 : t148 = 0
                    · rw [if_pos c90] at H
                      have c90b0 : (t148 == 0) = true := beq_iff_eq.mpr c90
                      have c90b1 : (t148 != 0) = false := bne_eq_false_iff_eq.mpr c90
                      clear c90
                      have H' := Aside0.mk H
                      clear H
                      go_wp2
                      go_meet
                      case rel => exact ⟨_, ((t150 == t149)), (by first | rfl | (simp; done) | (simp [*]; done)), (by first | exact H' | (subst_vars; exact H')), ⟨by have := HJ10.out; first | omega | exact Nat.le_refl _⟩, ⟨by (with_reducible repeat (first | refine blk_drewN ?_ _ | refine blk_drew ?_ | refine blk_alloc ?_ _)); exact BK136.out⟩, ⟨by (with_reducible repeat (first | refine blk_drewN ?_ _ | refine blk_drew ?_ | refine blk_alloc ?_ _)); exact BK141.out⟩, ⟨by (with_reducible repeat (first | refine blk_drewN ?_ _ | refine blk_drew ?_ | refine blk_alloc ?_ _)); exact BK144.out⟩, ⟨by (with_reducible repeat (first | refine blk_drewN ?_ _ | refine blk_drew ?_ | refine blk_alloc ?_ _)); exact BK147.out⟩, ⟨by repeat (first | (with_reducible first | exact HB.out | apply below_alloc | apply pw_below_drewN | apply below_drew1 | refine below_set ?_ GE136.out | refine below_set ?_ GE141.out | refine below_set ?_ GE144.out | refine below_set ?_ GE147.out) | exact HB.out)⟩⟩
                    · rw [if_neg c90] at H
                      have c90b0 : (t148 == 0) = false := beq_eq_false_iff_ne.mpr c90
                      have c90b1 : (t148 != 0) = true := bne_iff_ne.mpr c90
                      have H' := Aside0.mk H
                      clear H
                      go_wp2
                      go_meet
                      case rel => exact ⟨_, (true), (by first | rfl | (simp; done) | (simp [*]; done)), (by first | exact H' | (subst_vars; exact H')), ⟨by have := HJ10.out; first | omega | exact Nat.le_refl _⟩, ⟨by (with_reducible repeat (first | refine blk_drewN ?_ _ | refine blk_drew ?_ | refine blk_alloc ?_ _)); exact BK136.out⟩, ⟨by (with_reducible repeat (first | refine blk_drewN ?_ _ | refine blk_drew ?_ | refine blk_alloc ?_ _)); exact BK141.out⟩, ⟨by (with_reducible repeat (first | refine blk_drewN ?_ _ | refine blk_drew ?_ | refine blk_alloc ?_ _)); exact BK144.out⟩, ⟨by (with_reducible repeat (first | refine blk_drewN ?_ _ | refine blk_drew ?_ | refine blk_alloc ?_ _)); exact BK147.out⟩, ⟨by repeat (first | (with_reducible first | exact HB.out | apply below_alloc | apply pw_below_drewN | apply below_drew1 | refine below_set ?_ GE136.out | refine below_set ?_ GE141.out | refine below_set ?_ GE144.out | refine below_set ?_ GE147.out) | exact HB.out)⟩⟩
                  · rw [if_neg c89] at H
                    have c89b0 : decide (t149 < 0) = false := decide_eq_false c89
                    clear c89
                    by_cases c91 : t150 ≥ 0
                    · rw [if_pos c91] at H
                      have c91b0 : decide (0 ≤ t150) = true := decide_eq_true c91
                      clear c91
                      by_cases c92 : t148 = 0
                      · rw [if_pos c92] at H
                        have c92b0 : (t148 == 0) = true := beq_iff_eq.mpr c92
                        have c92b1 : (t148 != 0) = false := bne_eq_false_iff_eq.mpr c92
                        clear c92
                        have H' := Aside0.mk H
                        clear H
                        go_wp2
                        go_meet
                        case rel => exact ⟨_, ((t150 == t149)), (by first | rfl | (simp; done) | (simp [*]; done)), (by first | exact H' | (subst_vars; exact H')), ⟨by have := HJ10.out; first | omega | exact Nat.le_refl _⟩, ⟨by (with_reducible repeat (first | refine blk_drewN ?_ _ | refine blk_drew ?_ | refine blk_alloc ?_ _)); exact BK136.out⟩, ⟨by (with_reducible repeat (first | refine blk_drewN ?_ _ | refine blk_drew ?_ | refine blk_alloc ?_ _)); exact BK141.out⟩, ⟨by (with_reducible repeat (first | refine blk_drewN ?_ _ | refine blk_drew ?_ | refine blk_alloc ?_ _)); exact BK144.out⟩, ⟨by (with_reducible repeat (first | refine blk_drewN ?_ _ | refine blk_drew ?_ | refine blk_alloc ?_ _)); exact BK147.out⟩, ⟨by repeat (first | (with_reducible first | exact HB.out | apply below_alloc | apply pw_below_drewN | apply below_drew1 | refine below_set ?_ GE136.out | refine below_set ?_ GE141.out | refine below_set ?_ GE144.out | refine below_set ?_ GE147.out) | exact HB.out)⟩⟩
                      · rw [if_neg c92] at H
                        have c92b0 : (t148 == 0) = false := beq_eq_false_iff_ne.mpr c92
                        have c92b1 : (t148 != 0) = true := bne_iff_ne.mpr c92
                        have H' := Aside0.mk H
                        clear H
                        go_wp2
                        go_meet
                        case rel => exact ⟨_, (true), (by first | rfl | (simp; done) | (simp [*]; done)), (by first | exact H' | (subst_vars; exact H')), ⟨by have := HJ10.out; first | omega | exact Nat.le_refl _⟩, ⟨by (with_reducible repeat (first | refine blk_drewN ?_ _ | refine blk_drew ?_ | refine blk_alloc ?_ _)); exact BK136.out⟩, ⟨by (with_reducible repeat (first | refine blk_drewN ?_ _ | refine blk_drew ?_ | refine blk_alloc ?_ _)); exact BK141.out⟩, ⟨by (with_reducible repeat (first | refine blk_drewN ?_ _ | refine blk_drew ?_ | refine blk_alloc ?_ _)); exact BK144.out⟩, ⟨by (with_reducible repeat (first | refine blk_drewN ?_ _ | refine blk_drew ?_ | refine blk_alloc ?_ _)); exact BK147.out⟩, ⟨by repeat (first | (with_reducible first | exact HB.out | apply below_alloc | apply pw_below_drewN | apply below_drew1 | refine below_set ?_ GE136.out | refine below_set ?_ GE141.out | refine below_set ?_ GE144.out | refine below_set ?_ GE147.out) | exact HB.out)⟩⟩
                    · rw [if_neg c91] at H
                      have c91b0 : decide (0 ≤ t150) = false := decide_eq_false c91
                      clear c91
                      have H' := Aside0.mk H
                      clear H
                      go_wp2
                      go_meet
                      case rel => exact ⟨_, (false), (by first | rfl | (simp; done) | (simp [*]; done)), (by first | exact H' | (subst_vars; exact H')), ⟨by have := HJ10.out; first | omega | exact Nat.le_refl _⟩, ⟨by (with_reducible repeat (first | refine blk_drewN ?_ _ | refine blk_drew ?_ | refine blk_alloc ?_ _)); exact BK136.out⟩, ⟨by (with_reducible repeat (first | refine blk_drewN ?_ _ | refine blk_drew ?_ | refine blk_alloc ?_ _)); exact BK141.out⟩, ⟨by (with_reducible repeat (first | refine blk_drewN ?_ _ | refine blk_drew ?_ | refine blk_alloc ?_ _)); exact BK144.out⟩, ⟨by (with_reducible repeat (first | refine blk_drewN ?_ _ | refine blk_drew ?_ | refine blk_alloc ?_ _)); exact BK147.out⟩, ⟨by repeat (first | (with_reducible first | exact HB.out | apply below_alloc | apply pw_below_drewN | apply below_drew1 | refine below_set ?_ GE136.out | refine below_set ?_ GE141.out | refine below_set ?_ GE144.out | refine below_set ?_ GE147.out) | exact HB.out)⟩⟩
              · rw [if_neg c86] at H
                have c86b0 : decide (0 < t149) = false := decide_eq_false c86
                clear c86
                by_cases c93 : t150 ≤ 0
                · rw [if_pos c93] at H
                  have c93b0 : decide (t150 ≤ 0) = true := decide_eq_true c93
                  clear c93
                  by_cases c94 : t148 < 0
                  · rw [if_pos c94] at H
                    have c94b0 : decide (t148 < 0) = true := decide_eq_true c94
                    clear c94
                    by_cases c95 : t148 = 0
                    · rw [if_pos c95] at H
                      have c95b0 : (t148 == 0) = true := beq_iff_eq.mpr c95
                      have c95b1 : (t148 != 0) = false := bne_eq_false_iff_eq.mpr c95
                      clear c95
                      have H' := Aside0.mk H
                      clear H
                      go_wp2
                      go_meet
                      case rel => exact ⟨_, ((t150 == t149)), (by first | rfl | (simp; done) | (simp [*]; done)), (by first | exact H' | (subst_vars; exact H')), ⟨by have := HJ10.out; first | omega | exact Nat.le_refl _⟩, ⟨by (with_reducible repeat (first | refine blk_drewN ?_ _ | refine blk_drew ?_ | refine blk_alloc ?_ _)); exact BK136.out⟩, ⟨by (with_reducible repeat (first | refine blk_drewN ?_ _ | refine blk_drew ?_ | refine blk_alloc ?_ _)); exact BK141.out⟩, ⟨by (with_reducible repeat (first | refine blk_drewN ?_ _ | refine blk_drew ?_ | refine blk_alloc ?_ _)); exact BK144.out⟩, ⟨by (with_reducible repeat (first | refine blk_drewN ?_ _ | refine blk_drew ?_ | refine blk_alloc ?_ _)); exact BK147.out⟩, ⟨by repeat (first | (with_reducible first | exact HB.out | apply below_alloc | apply pw_below_drewN | apply below_drew1 | refine below_set ?_ GE136.out | refine below_set ?_ GE141.out | refine below_set ?_ GE144.out | refine below_set ?_ GE147.out) | exact HB.out)⟩⟩
                    · rw [if_neg c95] at H
                      have c95b0 : (t148 == 0) = false := beq_eq_false_iff_ne.mpr c95
                      have c95b1 : (t148 != 0) = true := bne_iff_ne.mpr c95
                      have H' := Aside0.mk H
                      clear H
                      go_wp2
                      go_meet
                      case rel => exact ⟨_, (true), (by first | rfl | (simp; done) | (simp [*]; done)), (by first | exact H' | (subst_vars; exact H')), ⟨by have := HJ10.out; first | omega | exact Nat.le_refl _⟩, ⟨by (with_reducible repeat (first | refine blk_drewN ?_ _ | refine blk_drew ?_ | refine blk_alloc ?_ _)); exact BK136.out⟩, ⟨by (with_reducible repeat (first | refine blk_drewN ?_ _ | refine blk_drew ?_ | refine blk_alloc ?_ _)); exact BK141.out⟩, ⟨by (with_reducible repeat (first | refine blk_drewN ?_ _ | refine blk_drew ?_ | refine blk_alloc ?_ _)); exact BK144.out⟩, ⟨by (with_reducible repeat (first | refine blk_drewN ?_ _ | refine blk_drew ?_ | refine blk_alloc ?_ _)); exact BK147.out⟩, ⟨by repeat (first | (with_reducible first | exact HB.out | apply below_alloc | apply pw_below_drewN | apply below_drew1 | refine below_set ?_ GE136.out | refine below_set ?_ GE141.out | refine below_set ?_ GE144.out | refine below_set ?_ GE147.out) | exact HB.out)⟩⟩
                  · rw [if_neg c94] at H
                    have c94b0 : decide (t148 < 0) = false := decide_eq_false c94
                    clear c94
                    by_cases c96 : t149 < 0
                    · rw [if_pos c96] at H
                      have c96b0 : decide (t149 < 0) = true := decide_eq_true c96
                      clear c96
                      by_cases c97 : t148 = 0
                      · rw [if_pos c97] at H
                        have c97b0 : (t148 == 0) = true := beq_iff_eq.mpr c97
                        have c97b1 : (t148 != 0) = false := bne_eq_false_iff_eq.mpr c97
                        clear c97
                        have H' := Aside0.mk H
                        clear H
                        go_wp2
                        go_meet
                        case rel => exact ⟨_, ((t150 == t149)), (by first | rfl | (simp; done) | (simp [*]; done)), (by first | exact H' | (subst_vars; exact H')), ⟨by have := HJ10.out; first | omega | exact Nat.le_refl _⟩, ⟨by (with_reducible repeat (first | refine blk_drewN ?_ _ | refine blk_drew ?_ | refine blk_alloc ?_ _)); exact BK136.out⟩, ⟨by (with_reducible repeat (first | refine blk_drewN ?_ _ | refine blk_drew ?_ | refine blk_alloc ?_ _)); exact BK141.out⟩, ⟨by (with_reducible repeat (first | refine blk_drewN ?_ _ | refine blk_drew ?_ | refine blk_alloc ?_ _)); exact BK144.out⟩, ⟨by (with_reducible repeat (first | refine blk_drewN ?_ _ | refine blk_drew ?_ | refine blk_alloc ?_ _)); exact BK147.out⟩, ⟨by repeat (first | (with_reducible first | exact HB.out | apply below_alloc | apply pw_below_drewN | apply below_drew1 | refine below_set ?_ GE136.out | refine below_set ?_ GE141.out | refine below_set ?_ GE144.out | refine below_set ?_ GE147.out) | exact HB.out)⟩⟩
                      · rw [if_neg c97] at H
                        have c97b0 : (t148 == 0) = false := beq_eq_false_iff_ne.mpr c97
                        have c97b1 : (t148 != 0) = true := bne_iff_ne.mpr c97
                        have H' := Aside0.mk H
                        clear H
                        go_wp2
                        go_meet
                        case rel => exact ⟨_, (true), (by first | rfl | (simp; done) | (simp [*]; done)), (by first | exact H' | (subst_vars; exact H')), ⟨by have := HJ10.out; first | omega | exact Nat.le_refl _⟩, ⟨by (with_reducible repeat (first | refine blk_drewN ?_ _ | refine blk_drew ?_ | refine blk_alloc ?_ _)); exact BK136.out⟩, ⟨by (with_reducible repeat (first | refine blk_drewN ?_ _ | refine blk_drew ?_ | refine blk_alloc ?_ _)); exact BK141.out⟩, ⟨by (with_reducible repeat (first | refine blk_drewN ?_ _ | refine blk_drew ?_ | refine blk_alloc ?_ _)); exact BK144.out⟩, ⟨by (with_reducible repeat (first | refine blk_drewN ?_ _ | refine blk_drew ?_ | refine blk_alloc ?_ _)); exact BK147.out⟩, ⟨by repeat (first | (with_reducible first | exact HB.out | apply below_alloc | apply pw_below_drewN | apply below_drew1 | refine below_set ?_ GE136.out | refine below_set ?_ GE141.out | refine below_set ?_ GE144.out | refine below_set ?_ GE147.out) | exact HB.out)⟩⟩
                    · rw [if_neg c96] at H
                      have c96b0 : decide (t149 < 0) = false := decide_eq_false c96
                      clear c96
                      by_cases c98 : t150 ≥ 0
                      · rw [if_pos c98] at H
                        have c98b0 : decide (0 ≤ t150) = true := decide_eq_true c98
                        clear c98
                        by_cases c99 : t148 = 0
                        · rw [if_pos c99] at H
                          have c99b0 : (t148 == 0) = true := beq_iff_eq.mpr c99
                          have c99b1 : (t148 != 0) = false := bne_eq_false_iff_eq.mpr c99
                          clear c99
                          have H' := Aside0.mk H
                          clear H
                          go_wp2
                          go_meet
                          case rel => exact ⟨_, ((t150 == t149)), (by first | rfl | (simp; done) | (simp [*]; done)), (by first | exact H' | (subst_vars; exact H')), ⟨by have := HJ10.out; first | omega | exact Nat.le_refl _⟩, ⟨by (with_reducible repeat (first | refine blk_drewN ?_ _ | refine blk_drew ?_ | refine blk_alloc ?_ _)); exact BK136.out⟩, ⟨by (with_reducible repeat (first | refine blk_drewN ?_ _ | refine blk_drew ?_ | refine blk_alloc ?_ _)); exact BK141.out⟩, ⟨by (with_reducible repeat (first | refine blk_drewN ?_ _ | refine blk_drew ?_ | refine blk_alloc ?_ _)); exact BK144.out⟩, ⟨by (with_reducible repeat (first | refine blk_drewN ?_ _ | refine blk_drew ?_ | refine blk_alloc ?_ _)); exact BK147.out⟩, ⟨by repeat (first | (with_reducible first | exact HB.out | apply below_alloc | apply pw_below_drewN | apply below_drew1 | refine below_set ?_ GE136.out | refine below_set ?_ GE141.out | refine below_set ?_ GE144.out | refine below_set ?_ GE147.out) | exact HB.out)⟩⟩
                        · rw [if_neg c99] at H
                          have c99b0 : (t148 == 0) = false := beq_eq_false_iff_ne.mpr c99
                          have c99b1 : (t148 != 0) = true := bne_iff_ne.mpr c99
                          have H' := Aside0.mk H
                          clear H
                          go_wp2
                          go_meet
                          case rel => exact ⟨_, (true), (by first | rfl | (simp; done) | (simp [*]; done)), (by first | exact H' | (subst_vars; exact H')), ⟨by have := HJ10.out; first | omega | exact Nat.le_refl _⟩, ⟨by (with_reducible repeat (first | refine blk_drewN ?_ _ | refine blk_drew ?_ | refine blk_alloc ?_ _)); exact BK136.out⟩, ⟨by (with_reducible repeat (first | refine blk_drewN ?_ _ | refine blk_drew ?_ | refine blk_alloc ?_ _)); exact BK141.out⟩, ⟨by (with_reducible repeat (first | refine blk_drewN ?_ _ | refine blk_drew ?_ | refine blk_alloc ?_ _)); exact BK144.out⟩, ⟨by (with_reducible repeat (first | refine blk_drewN ?_ _ | refine blk_drew ?_ | refine blk_alloc ?_ _)); exact BK147.out⟩, ⟨by repeat (first | (with_reducible first | exact HB.out | apply below_alloc | apply pw_below_drewN | apply below_drew1 | refine below_set ?_ GE136.out | refine below_set ?_ GE141.out | refine below_set ?_ GE144.out | refine below_set ?_ GE147.out) | exact HB.out)⟩⟩
                      · rw [if_neg c98] at H
                        have c98b0 : decide (0 ≤ t150) = false := decide_eq_false c98
                        clear c98
                        have H' := Aside0.mk H
                        clear H
                        go_wp2
                        go_meet
                        case rel => exact ⟨_, (false), (by first | rfl | (simp; done) | (simp [*]; done)), (by first | exact H' | (subst_vars; exact H')), ⟨by have := HJ10.out; first | omega | exact Nat.le_refl _⟩, ⟨by (with_reducible repeat (first | refine blk_drewN ?_ _ | refine blk_drew ?_ | refine blk_alloc ?_ _)); exact BK136.out⟩, ⟨by (with_reducible repeat (first | refine blk_drewN ?_ _ | refine blk_drew ?_ | refine blk_alloc ?_ _)); exact BK141.out⟩, ⟨by (with_reducible repeat (first | refine blk_drewN ?_ _ | refine blk_drew ?_ | refine blk_alloc ?_ _)); exact BK144.out⟩, ⟨by (with_reducible repeat (first | refine blk_drewN ?_ _ | refine blk_drew ?_ | refine blk_alloc ?_ _)); exact BK147.out⟩, ⟨by repeat (first | (with_reducible first | exact HB.out | apply below_alloc | apply pw_below_drewN | apply below_drew1 | refine below_set ?_ GE136.out | refine below_set ?_ GE141.out | refine below_set ?_ GE144.out | refine below_set ?_ GE147.out) | exact HB.out)⟩⟩
                · rw [if_neg c93] at H
                  have c93b0 : decide (t150 ≤ 0) = false := decide_eq_false c93
                  clear c93
                  have H' := Aside0.mk H
                  clear H
                  go_wp2
                  go_meet
                  case rel => exact ⟨_, (false), (by first | rfl | (simp; done) | (simp [*]; done)), (by first | exact H' | (subst_vars; exact H')), ⟨by have := HJ10.out; first | omega | exact Nat.le_refl _⟩, ⟨by (with_reducible repeat (first | refine blk_drewN ?_ _ | refine blk_drew ?_ | refine blk_alloc ?_ _)); exact BK136.out⟩, ⟨by (with_reducible repeat (first | refine blk_drewN ?_ _ | refine blk_drew ?_ | refine blk_alloc ?_ _)); exact BK141.out⟩, ⟨by (with_reducible repeat (first | refine blk_drewN ?_ _ | refine blk_drew ?_ | refine blk_alloc ?_ _)); exact BK144.out⟩, ⟨by (with_reducible repeat (first | refine blk_drewN ?_ _ | refine blk_drew ?_ | refine blk_alloc ?_ _)); exact BK147.out⟩, ⟨by repeat (first | (with_reducible first | exact HB.out | apply below_alloc | apply pw_below_drewN | apply below_drew1 | refine below_set ?_ GE136.out | refine below_set ?_ GE141.out | refine below_set ?_ GE144.out | refine below_set ?_ GE147.out) | exact HB.out)⟩⟩
          · replace c78 := Bool.eq_false_iff.mpr c78
            subst c78
            have H1 : (thresherlaw03_ValueOrder.j1 kj10 false) = some r := by rw [if_neg (show ¬ (false = true) by decide)] at H; exact H
            clear H
            have H := H1
            clear H1
            have H' := Aside0.mk H
            clear H
            go_wp2
            go_meet
            case rel => exact ⟨_, (false), (by first | rfl | (simp; done) | (simp [*]; done)), (by first | exact H' | (subst_vars; exact H')), ⟨by have := HJ10.out; first | omega | exact Nat.le_refl _⟩, ⟨by (with_reducible repeat (first | refine blk_drewN ?_ _ | refine blk_drew ?_ | refine blk_alloc ?_ _)); exact BK136.out⟩, ⟨by (with_reducible repeat (first | refine blk_drewN ?_ _ | refine blk_drew ?_ | refine blk_alloc ?_ _)); exact BK141.out⟩, ⟨by (with_reducible repeat (first | refine blk_drewN ?_ _ | refine blk_drew ?_ | refine blk_alloc ?_ _)); exact BK144.out⟩, ⟨by (with_reducible repeat (first | refine blk_drewN ?_ _ | refine blk_drew ?_ | refine blk_alloc ?_ _)); exact BK147.out⟩, ⟨by repeat (first | (with_reducible first | exact HB.out | apply below_alloc | apply pw_below_drewN | apply below_drew1 | refine below_set ?_ GE136.out | refine below_set ?_ GE141.out | refine below_set ?_ GE144.out | refine below_set ?_ GE147.out) | exact HB.out)⟩⟩
        case rest =>
          clear HC77
          try clear c1
          try clear c2
          try clear p2
          try clear c3
          try clear c4
          try clear c5
          try clear c6
          try clear p6
          try clear c7
          try clear c8
          try clear c9
          try clear c10
          try clear c11
          try clear c12
          try clear c17
          try clear c22
          try clear c23
          try clear c28
          try clear c29
          try clear c30
          try clear c41
          try clear c41b0
          try clear c41b1
          try clear c41b2
          try clear c42
          try clear c43
          try clear c44
          try clear c46
          try clear c47
          try clear c50
          try clear c50b0
          try clear c50b1
          try clear c51
          try clear c51b0
          try clear c52
          try clear c53
          try clear c54
          try clear c56
          try clear c57
          try clear c60
          try clear c61
          try clear c62
          try clear c64
          try clear p64
          try clear c65
          try clear c68
          try clear c69
          try clear c70
          try clear c72
          try clear c73
          try clear c76
          try clear c78
          try clear c79
          try clear c79b0
          try clear c80
          try clear c80b0
          try clear c81
          try clear c81b0
          try clear c81b1
          try clear c82
          try clear c82b0
          try clear c83
          try clear c83b0
          try clear c83b1
          try clear c84
          try clear c84b0
          try clear c85
          try clear c85b0
          try clear c85b1
          try clear c86
          try clear c86b0
          try clear c87
          try clear c87b0
          try clear c88
          try clear c88b0
          try clear c88b1
          try clear c89
          try clear c89b0
          try clear c90
          try clear c90b0
          try clear c90b1
          try clear c91
          try clear c91b0
          try clear c92
          try clear c92b0
          try clear c92b1
          try clear c93
          try clear c93b0
          try clear c94
          try clear c94b0
          try clear c95
          try clear c95b0
          try clear c95b1
          try clear c96
          try clear c96b0
          try clear c97
          try clear c97b0
          try clear c97b1
          try clear c98
          try clear c98b0
          try clear c99
          try clear c99b0
          try clear c99b1
          try clear hcz14_0
          try clear hcz14_1
          try clear hcz14_2
          try clear hcz14_3
          try clear hcz14_4
          try clear hcz14_5
          try clear hcz18_0
          try clear hcz18_1
          try clear hcz19_0
          try clear hcz19_1
          try clear hcz19_2
          try clear hcz19_3
          try clear hcz19_4
          try clear hcz19_5
          try clear hcz24_0
          try clear hcz24_1
          try clear hcz25_0
          try clear hcz25_1
          try clear hcz25_2
          try clear hcz25_3
          try clear hcz25_4
          try clear hcz25_5
          try clear hcz31_0
          try clear hcz31_1
          try clear hcz32_0
          try clear hcz32_1
          try clear hcz33_0
          try clear hcz33_1
          try clear hcz35_0
          try clear hcz35_1
          try clear hcz36_0
          try clear hcz36_1
          try clear hcz38_0
          try clear hcz38_1
          try clear hcz39_0
          try clear hcz39_1
          try clear hcz45_0
          try clear hcz45_1
          try clear hcz48_0
          try clear hcz48_1
          try clear hcz55_0
          try clear hcz55_1
          try clear hcz58_0
          try clear hcz58_1
          try clear hcz63_0
          try clear hcz63_1
          try clear hcz66_0
          try clear hcz66_1
          try clear hcz71_0
          try clear hcz71_1
          try clear hcz74_0
          try clear hcz74_1
          try clear hfz14_0
          try clear hfz14_1
          try clear hfz14_2
          try clear hfz14_3
          try clear hfz14_4
          try clear hfz14_5
          try clear hfz18_0
          try clear hfz18_1
          try clear hfz19_0
          try clear hfz19_1
          try clear hfz19_2
          try clear hfz19_3
          try clear hfz19_4
          try clear hfz19_5
          try clear hfz24_0
          try clear hfz24_1
          try clear hfz25_0
          try clear hfz25_1
          try clear hfz25_2
          try clear hfz25_3
          try clear hfz25_4
          try clear hfz25_5
          try clear hfz31_0
          try clear hfz31_1
          try clear hfz32_0
          try clear hfz32_1
          try clear hfz33_0
          try clear hfz33_1
          try clear hfz35_0
          try clear hfz35_1
          try clear hfz36_0
          try clear hfz36_1
          try clear hfz38_0
          try clear hfz38_1
          try clear hfz39_0
          try clear hfz39_1
          try clear hfz45_0
          try clear hfz45_1
          try clear hfz48_0
          try clear hfz48_1
          try clear hfz55_0
          try clear hfz55_1
          try clear hfz58_0
          try clear hfz58_1
          try clear hfz63_0
          try clear hfz63_1
          try clear hfz66_0
          try clear hfz66_1
          try clear hfz71_0
          try clear hfz71_1
          try clear hfz74_0
          try clear hfz74_1
          try clear p2
          try clear p6
          try clear p64
          obtain ⟨kq, x4_76, rfl, HA, HJ76, BK136, BK141, BK144, BK147, HB⟩ := hcut
          cases kq with
          | zero => exact absurd HA.out (by simp [thresherlaw03_ValueOrder.j1])
          | succ kj76 =>
            have H := HA.out
            clear HA
            simp only [thresherlaw03_ValueOrder.j1] at H
            obtain rfl := Option.some.inj H
            go_wp2
            go_ret
            exact ⟨by first | rfl | (simp [errW_none, errW_some] <;> rfl) | (simp [*, errW_none, errW_some] <;> rfl), by repeat (first | (with_reducible first | exact HB.out | apply below_alloc | apply pw_below_drewN | apply below_drew1 | refine below_set ?_ GE136.out | refine below_set ?_ GE141.out | refine below_set ?_ GE144.out | refine below_set ?_ GE147.out) | exact HB.out)⟩

end Go.Proofs.YtifpjhghbafcjaaDoor.P
