/- Texts of DiskFails. Merged: HDskH. -/
import Derived.Test.YtfbpplgpmgnmjaaMDiskFails1
import Derived.Shelf.SlMaps.Clone
import Derived.BigQuiet
/- maps.Clone, slices.Clone of files; SyncDir, Sync, Remove, Rename: what their steps do. -/
namespace Go.Proofs.Ytfbpplgpmgnmjaa.P
open Go.RowKit Go.Proofs.YtfbpplgpmgnmjaaW.PrintWords Go.Proofs.YtfbpplgpmgnmjaaW.PrintLast Go.Proofs.YtfbpplgpmgnmjaaW.PrintMore
set_option linter.unusedVariables false
set_option linter.unusedSimpArgs false
section
variable {w w' : World} {p m k : Nat} {ok ok' : Nat → Prop} {d : DS} {vf vc vx : Value}
set_option maxHeartbeats 4000000 in
set_option maxRecDepth 100000 in
theorem mclone_any {B : Nat} {es : List NE} (h : NMap w B es) :
    Calls Try.prog 49 #[.map (some B)] w fun e w' => e = .returned (.map (some w.heap.size)) ∧ NMap w' w.heap.size es ∧ ∃ o, w' = w.alloc o := by
  have hq := fun w => run_eql_map_nil_sl (P := Try.prog) w 67 _ _ (some B) Try.underlying67
  obtain ⟨ents, clock, h1, h2, h3⟩ := h.ex
  have hN : NMap (w.alloc (.map ents clock)) w.heap.size es := ⟨ents, clock, blk_new w _, h2, h3⟩
  clear h2 h3
  go_enter Try.func49, Try.ntmps49
  go_wp2
  rw [run_callFunc_extern Try.func68 (by kernel_rfl) (by kernel_rfl) (by kernel_rfl) (e := Extern.MapsClone.clone) (by kernel_rfl), run_maps_clone_sl w 67 h1]
  simp only [Result.andThen]
  rw [Oper.upon_value]
  go_wp2
  rw [run_typeAssert_map_sl _ 67 20 _ _ _ Try.underlying67]
  simp only [Result.andThen]
  rw [Oper.upon_value]
  go_wp2
  go_ret
  exact ⟨rfl, hN, _, rfl⟩
theorem syncdir_fin {w9 : World} {g : Nat} (h9 : DW w9 p m (far p m) d vf vc vx k) (hk : Kept w w9 (mutS p m)) (hn : NMap w9 g d.names) (hg : far p m g) :
    Stepped w p m { d with kept := d.names, changes := [] } 0 (.returned (.int .i64 0)) ((w9.setCell ⟨p, 4, none⟩ (.map (some g))).setCell ⟨p, 5, none⟩ (.slice none 0 0)) := by
  have h10 := h9.put 4 (.map (some g)) (d' := { d with kept := d.names }) (vf' := vf) (vc' := vc) (vx' := vx) (k' := g) (by simp [cellsD]) rfl hn hg h9.f h9.c h9.x
  have h11 := h10.put 5 (.slice none 0 0) (d' := { d with kept := d.names, changes := [] }) (vf' := vf) (vc' := .slice none 0 0) (vx' := vx) (k' := g) (by simp [cellsD]) rfl h10.kp h10.okk h10.f (Kd.V_nil _ _ _ _ _) h10.x
  exact ⟨rfl, h11.dk, (hk.setCell (.inl (.inl rfl)) _).setCell (.inl (.inl rfl)) _⟩
set_option maxHeartbeats 4000000 in
set_option maxRecDepth 100000 in
theorem syncdir1_any (h : Dk w p m (far p m) d) (bd : Nat) (hd : w.heap[bd]? = some (.cells #[.pointer (some ⟨p, 0, none⟩)] 24 (0, 0))) (hbp : bd ≠ p ∧ bd ≠ m) :
    Calls Try.prog 48 #[.pointer (some ⟨bd, 0, none⟩)] w (Stepped w p m { d with kept := d.names, changes := [] } 0) := by
  obtain ⟨vf, vc, vx, k, h⟩ := h.ex
  have mixed : Try.prog.follows Departure.mixedOrders = true := rfl
  have hc3 := h.c3
  have hcd : w.cell? ⟨bd, 0, none⟩ = some (.pointer (some ⟨p, 0, none⟩)) := (blk_cell hd 0).trans rfl
  have HD := Aside0.mk h
  have Hd := Aside0.mk hd
  have hb1 := hbp.1
  clear h hd hbp
  go_enter Try.func48, Try.ntmps48
  go_wp2_with fail
  go_region_law_o
    (first
      | (refine goes_ Try.func49 (by kernel_rfl) rfl #[.map (some m)] (by rfl) rfl rfl (by simp only [List.map_toArray, List.map_cons, List.map_nil]; rfl) ?_; with_reducible refine (mclone_any HD.out.drew.n).mono ?_; rintro e w9 ⟨rfl, hn9, o, hw9⟩
         have hd9 : DW w9 p m (far p m) d vf vc vx k := by rw [hw9]; exact HD.out.drew.alloc o
         have hbd9 : w9.heap[bd]? = some (.cells #[.pointer (some ⟨p, 0, none⟩)] 24 (0, 0)) := by rw [hw9]; exact blk_alloc (blk_drew Hd.out) o
         have hk9 : Kept w w9 (mutS p m) := by rw [hw9]; exact ((Kept.refl w _).drew.alloc o)
         have hcd9 : w9.cell? ⟨bd, 0, none⟩ = some (.pointer (some ⟨p, 0, none⟩)) := (blk_cell hbd9 0).trans rfl
         have hc4 := hd9.c4
         have hc5 := hd9.c5
         have hf4 := hd9.fz 4
         have hf5 := hd9.fz 5
         have HD9 := Aside0.mk hd9
         have HK9 := Aside0.mk hk9
         have HN9 := Aside0.mk hn9
         clear hw9 hd9 hbd9 hk9 hn9
         refine ⟨_, rfl, ?_⟩))
  all_goals
    go_wp2
    go_ret
    exact syncdir_fin HD9.out HK9.out HN9.out ⟨(Nat.ne_of_lt HD.out.lt).symm, (Nat.ne_of_lt HD.out.n.lt).symm⟩
end
end Go.Proofs.Ytfbpplgpmgnmjaa.P

