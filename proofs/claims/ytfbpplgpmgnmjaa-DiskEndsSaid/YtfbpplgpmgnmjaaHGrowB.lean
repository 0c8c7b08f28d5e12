/- slices.Grow at no bytes (as slices.Concat calls it), by hand: an empty row with room. -/
import Derived.Test.YtfbpplgpmgnmjaaPx0
namespace Go.Proofs.Ytfbpplgpmgnmjaa.P
open Go.RowKit Go.Proofs.YtfbpplgpmgnmjaaW.PrintWords Go.Proofs.YtfbpplgpmgnmjaaW.PrintLast Go.Proofs.YtfbpplgpmgnmjaaW.PrintMore
set_option linter.unusedVariables false
set_option linter.unusedSimpArgs false

def slices_Grow_byte_byte.f (l0 : List Int) (a1 : Int) : Option (List Int) := if l0 = [] ∧ 0 ≤ a1 ∧ a1 ≤ 1000000000000 then some [] else none

set_option maxHeartbeats 1600000 in
set_option maxRecDepth 100000 in
theorem slices_Grow_byte_byte.calls (A0 : Option Addr) (c0 : Nat) (l0 : List Int) (a1 : Int) (r : List Int) (w : World) (hr0 : Kd.C (Kd.int .u8) w A0 l0.length l0) (hc0 : l0.length ≤ c0) (h : slices_Grow_byte_byte.f l0 a1 = some r) (hnil : A0 = none ∧ c0 = 0 := by exact ⟨rfl, rfl⟩) :
    Calls Try.prog 80 #[.slice A0 l0.length c0, .int .i64 a1] w fun e w' => ∃ v0_ : Value, e = .returned (v0_) ∧ Kd.R (Kd.int .u8) 5 w' w.heap.size (fun _ => True) v0_ r ∧ Below w.heap.size w w' := by
  obtain ⟨rfl, rfl⟩ := hnil
  unfold slices_Grow_byte_byte.f at h
  split at h
  case isFalse => simp at h
  rename_i hh
  obtain ⟨rfl, h0, h1⟩ := hh
  obtain rfl := Option.some.inj h
  simp only [List.length_nil] at *
  by_cases hz : a1 = 0
  · subst hz
    go_enter Try.func80, Try.ntmps80
    go_wp2
    go_ret
    exact ⟨_, rfl, Kd.R_nil _ _ _ _ _, Below.refl _ _⟩
  have hp : 0 < a1 := by omega
  obtain ⟨i0, hi0, _, hsz0, _⟩ := info_parts info5
  have hcut := cut_to (P := Try.prog) 22 5 .i64 Try.underlying22 hi0 none 0 0 0 (by omega) (by omega) (by omega)
  simp only [Int.toNat_zero] at hcut
  go_enter Try.func80, Try.ntmps80
  go_wp2_with (at_builtin; refine Kd.R_append_zeros (Kd.int .u8) (w0 := w) w.heap.size rfl (.tmp 20) (.tmp 21) 22 3 5 (.int .u8 0) 1 rfl Try.underlying22 Try.underlying3 info5 rfl (by decide) (by omega) (.slice none 0 0) [] 0 a1 (fun _ => True) rfl rfl rfl (fun _ _ => trivial) (Kd.R_nil _ _ _ _ _) h0 (Below.refl _ _) (Nat.le_refl _) (by simp; omega) ?_; intro v1 w1 ho hb _ _; obtain ⟨A1, c1, rfl⟩ := Kd.R_slice ho; have hcc := (Kd.R_reads' ho).2.1; have hcut2 := cut_to (P := Try.prog) 22 5 .i64 Try.underlying22 hi0 A1 ([] ++ List.replicate a1.toNat (0 : Int)).length c1 0 (by omega) (by omega) hcc; simp only [Int.toNat_zero] at hcut2; have ht := Aside0.mk (Kd.R_take (m := 0) ho (by omega)); have HB := Aside0.mk hb; clear ho hb hcc hcut)
  go_ret
  exact ⟨_, rfl, by simpa using ht.out, HB.out⟩
end Go.Proofs.Ytfbpplgpmgnmjaa.P
