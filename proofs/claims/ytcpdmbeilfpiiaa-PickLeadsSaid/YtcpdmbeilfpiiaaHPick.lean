/- pick.Pick, by hand: what it computes, and that the call does. -/
import Derived.Test.YtcpdmbeilfpiiaaPx0
namespace Go.Proofs.Ytcpdmbeilfpiiaa.P
open Go.RowKit Go.Proofs.YtcpdmbeilfpiiaaW.PrintWords Go.Proofs.YtcpdmbeilfpiiaaW.PrintLast Go.Proofs.YtcpdmbeilfpiiaaW.PrintMore
attribute [local go_sem] max2_int min2_int max_two min_two
set_option linter.unusedVariables false
set_option linter.unusedSimpArgs false

def cnt (x : Int) : Int := mn (mx x 0) 1048576
theorem cnt_lo (x : Int) : 0 ≤ cnt x := by unfold cnt mn mx; (repeat' split) <;> omega
theorem cnt_hi (x : Int) : cnt x ≤ 1048576 := by unfold cnt mn mx; (repeat' split) <;> omega
theorem cnt_mem (x : Int) (h0 : 0 ≤ x) (h1 : x < 1048576) : cnt x = x := by unfold cnt mn mx; (repeat' split) <;> omega

theorem count_any (l : List Int) (A : Option Addr) (c : Nat) (p : Addr) (i : Int) (w : World) (hp : w.cell? p = some (.slice A l.length c)) (hr : Kd.C (Kd.int .i64) w A l.length l) (h0 : 0 ≤ i) (hi : i < l.length) :
    Calls Try.prog 17 #[.int .i64 i, .pointer (some p)] w fun e w' => e = .returned (.int .i64 (cnt (rd l i))) ∧ w = w' := by
  obtain ⟨ad, rfl, hc⟩ := Kd.at_int hr i (by omega) (by omega)
  have hm := hr.2.1
  unfold cnt mn mx
  go_enter Try.func17, Try.ntmps17
  go_wp2
  all_goals (go_ret; exact ⟨rfl, rfl⟩)

/-- The first of the least two in a row, from place i on (m places left). -/
def scan (l : List Int) : Nat → Nat → Nat → Int → Nat × Int
  | 0, _, a, s => (a, s)
  | m + 1, i, a, s => if cnt (rd l i) + cnt (rd l ((i : Int) + 1)) < s then scan l m (i + 1) i (cnt (rd l i) + cnt (rd l ((i : Int) + 1))) else scan l m (i + 1) a s
/-- How far what is picked goes on. -/
def ext (l : List Int) : Nat → Nat → Int → Nat
  | 0, t, _ => t
  | m + 1, t, s => if cnt (rd l t) ≤ s then ext l m (t + 1) (s + cnt (rd l t)) else t
def pick2 (l : List Int) : Nat × Nat :=
  if l.length < 2 then (0, 0) else ((scan l (l.length - 1) 0 0 2097153).1, ext l (l.length - ((scan l (l.length - 1) 0 0 2097153).1 + 2)) ((scan l (l.length - 1) 0 0 2097153).1 + 2) (scan l (l.length - 1) 0 0 2097153).2)
def pick_Pick.f (l : List Int) : Option (Int × Int) := if l.length ≤ 1000000 then some (((pick2 l).1 : Int), ((pick2 l).2 : Int)) else none

theorem scan_lt (l : List Int) (n : Nat) : ∀ m i a s, a < n → i + m ≤ n → (scan l m i a s).1 < n
  | 0, i, a, s, h, _ => h
  | m + 1, i, a, s, h, hm => by
    unfold scan
    split
    · exact scan_lt l n m _ _ _ (by omega) (by omega)
    · exact scan_lt l n m _ _ _ h (by omega)

set_option maxHeartbeats 1600000 in
set_option maxRecDepth 100000 in
theorem pick_Pick.calls (A0 : Option Addr) (c0 : Nat) (l0 : List Int) (r1 : Int) (r2 : Int) (w : World) (hr0 : Kd.C (Kd.int .i64) w A0 l0.length l0) (hc0 : l0.length ≤ c0) (h : pick_Pick.f l0 = some (r1, r2)) :
    Calls Try.prog 10 #[.slice A0 l0.length c0] w fun e w' => e = .returned (.tuple #[.int .i64 r1, .int .i64 r2]) ∧ Below w.heap.size w w' := by
  unfold pick_Pick.f at h
  split at h
  case isFalse => simp at h
  rename_i hlen
  injection h with h
  injection h with h1 h2
  subst h1 h2
  have hmf : ∀ (fn : Fn) (first cap : Array Value) (w : World), (Instr.makeFunc fn first cap).run Try.prog w = .ok (.func fn first cap) w := fun _ _ _ _ => rfl
  by_cases hlt : l0.length < 2
  · have e : pick2 l0 = (0, 0) := by unfold pick2; rw [if_pos hlt]
    rw [e]
    go_enter Try.func10, Try.ntmps10
    go_wp2
    go_ret2
    exact ⟨rfl, (Below.refl _ _).alloc (Nat.le_refl _) _⟩
  have hl2 : 2 ≤ l0.length := by omega
  obtain ⟨a1, s1, hs⟩ : ∃ a s, scan l0 (l0.length - 1) 0 0 2097153 = (a, s) := ⟨_, _, rfl⟩
  have e : pick2 l0 = (a1, ext l0 (l0.length - (a1 + 2)) (a1 + 2) s1) := by unfold pick2; rw [if_neg hlt, hs]
  rw [e]
  clear e
  have HP : Aside0 ((w.alloc (.cells #[.slice A0 l0.length c0] 22)).cell? ⟨w.heap.size, 0, none⟩ = some (.slice A0 l0.length c0)) := Aside0.mk (by go_simp)
  have HR : Aside0 (Kd.C (Kd.int .i64) (w.alloc (.cells #[.slice A0 l0.length c0] 22)) A0 l0.length l0) := Aside0.mk (Kd.C_alloc hr0 _)
  have HS := Aside0.mk hs
  have hm := hr0.2.1
  clear hs hr0
  go_enter Try.func10, Try.ntmps10
  go_wp2
  go_loop [2, 5, 15] (fun f s i => ∃ (k a : Nat) (b : Int), k ≤ l0.length - 1 ∧ a + 2 ≤ l0.length ∧ i = .int .i64 k ∧ f = .int .i64 a ∧ s = .int .i64 b ∧ 0 ≤ b ∧ b ≤ 2097153 ∧ Aside0 (scan l0 (l0.length - 1 - k) k a b = (a1, s1))) (fun _ _ i => l0.length - 1 - (intOf i).toNat)
  case atStart => exact ⟨0, 0, 2097153, Nat.zero_le _, hl2, rfl, rfl, rfl, by omega, by omega, HS⟩
  case round =>
    obtain ⟨k, a, b, hk, ha, rfl, rfl, rfl, hb0, hb1, HQ⟩ := hrel
    by_cases hkl : k < l0.length - 1
    · have e1 : l0.length - 1 - k = (l0.length - 1 - (k + 1)) + 1 := by omega
      have HQ2 := HQ.out
      rw [e1] at HQ2
      unfold scan at HQ2
      have HQ3 := Aside0.mk HQ2
      clear HQ2 HQ e1
      have c1 := cnt_lo (rd l0 (k : Int))
      have c2 := cnt_hi (rd l0 (k : Int))
      have c3 := cnt_lo (rd l0 ((k : Int) + 1))
      have c4 := cnt_hi (rd l0 ((k : Int) + 1))
      by_cases hc : cnt (rd l0 (k : Int)) + cnt (rd l0 ((k : Int) + 1)) < b
      · have HQ4 := HQ3.out
        rw [if_pos hc] at HQ4
        have HQ5 := Aside0.mk HQ4
        clear HQ4 HQ3
        go_wp2_with (go_at_call 17; refine (count_any l0 A0 c0 _ _ _ HP.out HR.out (by omega) (by omega)).mono ?_; rintro e w' ⟨rfl, rfl⟩)
        go_round
        case rel => exact ⟨k + 1, k, _, by omega, by omega, by go_num, rfl, rfl, by omega, by omega, HQ5⟩
        case measure => simp [intOf]; omega
      · have HQ4 := HQ3.out
        rw [if_neg hc] at HQ4
        have HQ5 := Aside0.mk HQ4
        clear HQ4 HQ3
        go_wp2_with (go_at_call 17; refine (count_any l0 A0 c0 _ _ _ HP.out HR.out (by omega) (by omega)).mono ?_; rintro e w' ⟨rfl, rfl⟩)
        go_round
        case rel => exact ⟨k + 1, a, b, by omega, ha, by go_num, rfl, rfl, by omega, by omega, HQ5⟩
        case measure => simp [intOf]; omega
    · have e1 : l0.length - 1 - k = 0 := by omega
      have HQ2 := HQ.out
      rw [e1] at HQ2
      unfold scan at HQ2
      injection HQ2 with q1 q2
      subst q1 q2
      clear HQ e1
      go_wp2
      go_loop [3, 5] (fun t s => ∃ (j : Nat) (x : Int), j ≤ l0.length ∧ t = .int .i64 j ∧ s = .int .i64 x ∧ 0 ≤ x ∧ x ≤ 2097153 + 1048576 * (j : Int) ∧ Aside0 (ext l0 (l0.length - (a + 2)) (a + 2) b = ext l0 (l0.length - j) j x)) (fun t _ => l0.length - (intOf t).toNat)
      case atStart => exact ⟨a + 2, b, by omega, by go_num, rfl, by omega, by omega, Aside0.mk rfl⟩
      case round =>
        obtain ⟨j, x, hj, rfl, rfl, hx0, hx1, HX⟩ := hrel
        by_cases hjl : j < l0.length
        · have e1 : l0.length - j = (l0.length - (j + 1)) + 1 := by omega
          have c1 := cnt_lo (rd l0 (j : Int))
          have c2 := cnt_hi (rd l0 (j : Int))
          have HX2 := HX.out
          rw [e1] at HX2
          clear e1 HX
          by_cases hc : cnt (rd l0 (j : Int)) ≤ x
          · rw [show ext l0 (l0.length - (j + 1) + 1) j x = ext l0 (l0.length - (j + 1)) (j + 1) (x + cnt (rd l0 (j : Int))) by rw [ext, if_pos hc]] at HX2
            have HX3 := Aside0.mk HX2
            clear HX2
            go_wp2_with (go_at_call 17; refine (count_any l0 A0 c0 _ _ _ HP.out HR.out (by omega) (by omega)).mono ?_; rintro e w' ⟨rfl, rfl⟩)
            go_round
            case rel => exact ⟨j + 1, _, by omega, by go_num, rfl, by omega, by omega, HX3⟩
            case measure => simp [intOf]; omega
          · rw [show ext l0 (l0.length - (j + 1) + 1) j x = j by rw [ext, if_neg hc]] at HX2
            have HX3 := Aside0.mk HX2
            clear HX2
            go_wp2_with (go_at_call 17; refine (count_any l0 A0 c0 _ _ _ HP.out HR.out (by omega) (by omega)).mono ?_; rintro e w' ⟨rfl, rfl⟩)
            go_ret2
            exact ⟨by rw [HX3.out]; rfl, (Below.refl _ _).alloc (Nat.le_refl _) _⟩
        · have e1 : l0.length - j = 0 := by omega
          have HX2 := HX.out
          rw [e1] at HX2
          rw [show ext l0 0 j x = j from rfl] at HX2
          have HX3 := Aside0.mk HX2
          clear HX2 HX e1
          go_wp2
          go_ret2
          exact ⟨by rw [HX3.out]; rfl, (Below.refl _ _).alloc (Nat.le_refl _) _⟩
end Go.Proofs.Ytcpdmbeilfpiiaa.P
