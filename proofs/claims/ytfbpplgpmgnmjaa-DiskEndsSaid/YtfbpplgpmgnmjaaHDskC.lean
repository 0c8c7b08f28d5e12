/- step: what a step does that is let by, that fails, and that comes too late. -/
import Derived.Test.YtfbpplgpmgnmjaaHDskB
import Derived.Test.YtfbpplgpmgnmjaaPx1
import Derived.Deep.RegionHeld3
namespace Go.Proofs.Ytfbpplgpmgnmjaa.P
open Go.RowKit Go.Proofs.YtfbpplgpmgnmjaaW.PrintWords Go.Proofs.YtfbpplgpmgnmjaaW.PrintLast Go.Proofs.YtfbpplgpmgnmjaaW.PrintMore
set_option linter.unusedVariables false
set_option linter.unusedSimpArgs false
def ended (d : DS) : Bool := d.dead || (decide (0 ≤ d.limit) && decide (d.limit ≤ d.steps))
def one (d : DS) : DS := { d with steps := d.steps + 1 }
def fault (d : DS) : Bool := d.fails.contains (d.steps + 1)
theorem slices_Index_ev (l : List Int) (x : Int) (hl : l.length ≤ 4611686018427387904) : ∀ n i, i + n = l.length → slices_Index_int_int.l0 (n + 1) l x (l.length : Int) (i : Nat) = some (if x ∈ l.drop i then ((i + (l.drop i).idxOf x : Nat) : Int) else (-1 : Int)) := by
  intro n
  induction n with
  | zero =>
    intro i hi
    rw [slices_Index_int_int.l0, if_neg (by omega), List.drop_eq_nil_of_le (by omega)]
    simp
  | succ n ih =>
    intro i hi
    have hlt : i < l.length := by omega
    rw [slices_Index_int_int.l0, if_pos (by omega), if_pos (by omega), if_pos (by omega)]
    have hd : l.drop i = l[i] :: l.drop (i + 1) := (List.getElem_cons_drop hlt).symm
    have hr : rd l (i : Nat) = l[i] := by simp [rd, List.getD, hlt]
    have e1 : wrap64 ((i : Nat) + 1 : Int) = ((i + 1 : Nat) : Int) := by rw [w64 (by omega) (by omega)]; omega
    have h2 := ih (i + 1) (by omega)
    rw [hr, hd, e1, h2]
    clear h2 e1 hr hd
    generalize l[i] = y
    generalize l.drop (i + 1) = r
    by_cases he : x = y
    · subst he
      simp
    · rw [if_neg he]
      have hm : (x ∈ y :: r) ↔ x ∈ r := by simp [he]
      by_cases hx : x ∈ r
      · rw [if_pos hx, if_pos (hm.2 hx)]
        have : (y :: r).idxOf x = r.idxOf x + 1 := by
          rw [List.idxOf_cons]
          have : (y == x) = false := by simpa using fun e => he e.symm
          rw [this]; rfl
        rw [this]
        congr 2; omega
      · rw [if_neg hx, if_neg (fun h => hx (hm.1 h))]
theorem contains_ev (l : List Int) (x : Int) (hl : l.length ≤ 4611686018427387904) : slices_Contains_int_int.f (l.length + 1) l x = some (l.contains x) := by
  have h := slices_Index_ev l x hl l.length 0 (by omega)
  simp only [slices_Contains_int_int.f, slices_Index_int_int.f]
  rw [show ((0 : Nat) : Int) = 0 from rfl] at h
  rw [h]
  simp only [Option.bind_some, List.drop_zero]
  by_cases hx : x ∈ l
  · rw [if_pos hx]; simp [hx]
  · rw [if_neg hx]; simp [hx]
section
variable {w w' : World} {p m : Nat} {ok ok' : Nat → Prop} {d : DS}
set_option maxHeartbeats 4000000 in
set_option maxRecDepth 100000 in
theorem step_late (h : Dk w p m ok d) (he : ended d = true) (f g : Value) :
    Calls Try.prog 37 #[.pointer (some ⟨p, 0, none⟩), f, g] w (Stepped w p m { d with dead := true } 34) := by
  obtain ⟨vf, vc, vx, k, h⟩ := h.ex
  have mixed : Try.prog.follows Departure.mixedOrders = true := rfl
  have hc8 := h.c8
  have hc7 := h.c7
  have hc1 := h.c1
  have hf8 := h.fz 8
  have HW : Aside0 (Dk (w.setCell ⟨p, 8, none⟩ (.bool true)).drew p m (far p m) { d with dead := true } ∧ Kept w (w.setCell ⟨p, 8, none⟩ (.bool true)).drew (mutS p m)) :=
    ⟨((h.wide.putv 8 (.bool true) (d' := { d with dead := true }) (by simp [cellsD]) rfl rfl rfl rfl rfl).drew).dk, ((Kept.refl w _).setCell (.inl (.inl rfl)) _).drew⟩
  have HE := Aside0.mk he
  clear h
  by_cases hd : d.dead = true
  · rw [hd] at hc8
    clear he
    go_enter Try.func37, Try.ntmps37
    go_wp2_with fail
    go_big_region_o
    go_wp2_with fail
    go_ret
    exact ⟨rfl, HW.out.1, HW.out.2⟩
  · have hd' : d.dead = false := by simpa using hd
    rw [hd'] at hc8
    have hl : 0 ≤ d.limit ∧ d.limit ≤ d.steps := by simpa [ended, hd'] using he
    have l1 : decide (d.limit ≥ 0) = true := decide_eq_true hl.1
    have l2 : decide (d.steps ≥ d.limit) = true := decide_eq_true hl.2
    clear he hd hl
    go_enter Try.func37, Try.ntmps37
    go_wp2_with fail
    go_big_region_o
    go_wp2_with fail
    go_ret
    exact ⟨rfl, HW.out.1, HW.out.2⟩
set_option maxHeartbeats 4000000 in
set_option maxRecDepth 100000 in
/-- A step that is let by. -/
theorem step_ok (h : Dk w p m ok d) (he : ended d = false) (hf : fault d = false) (hr : d.steps + 1 ≤ 9223372036854775807) (hr0 : 0 ≤ d.steps) (hl : d.fails.length ≤ 4611686018427387904) (g : Nat) (lb : Array Value) (fv : Value) {Q : Ending → World → Prop}
    (eg : ∀ args w, (callFunc g args).run Try.prog w = .ok (.enter g args) w)
    (hg : ∀ W, Dk W p m (far p m) (one d) → Kept w W (mutS p m) → Calls Try.prog g lb W fun e w' => ∃ v, e = .returned v ∧ Q (.returned v) w') :
    Calls Try.prog 37 #[.pointer (some ⟨p, 0, none⟩), .func (.func g) #[] lb, fv] w fun e w' => ∃ v, e = .returned v ∧ Q (.returned v) w' := by
  obtain ⟨vf, vc, vx, k, h⟩ := h.ex
  have mixed : Try.prog.follows Departure.mixedOrders = true := rfl
  obtain ⟨Ax, cx, rfl, hcx, hFx⟩ := h.x
  have hC := contains_ev d.fails (d.steps + 1) hl
  rw [show d.fails.contains (d.steps + 1) = false from hf] at hC
  have hc8 := h.c8
  have hc7 := h.c7
  have hc1 := h.c1
  have hf1 := h.fz 1
  have HG := Aside0.mk hg
  have hd' : d.dead = false := by simp [ended] at he; exact he.1
  rw [hd'] at hc8
  have ew : wrap64 (d.steps + 1) = d.steps + 1 := w64 (by omega) hr
  have H1 := h.wide.putv 1 (.int .i64 (d.steps + 1)) (d' := one d) (by simp [cellsD, one]) rfl rfl rfl rfl rfl
  have hk1 : Kept w (w.setCell ⟨p, 1, none⟩ (.int .i64 (d.steps + 1))) (mutS p m) := h.kept_put 1 _
  clear h hr hg
  go_enter Try.func37, Try.ntmps37
  have hnl : (decide (d.limit ≥ 0) && decide (d.steps ≥ d.limit)) = false := by
    simp only [ended, hd', Bool.false_or] at he; exact he
  have hgd : (if decide (d.limit ≥ 0) = true then decide (d.steps ≥ d.limit) else false) = false := by
    cases h1 : decide (d.limit ≥ 0) with
    | true => rw [h1] at hnl; simpa using hnl
    | false => rfl
  replace H1 := H1.drew
  replace hk1 := hk1.drew
  have hle : (decide (d.limit ≥ 0) = true ∧ decide (d.steps ≥ d.limit) = false) ∨ decide (d.limit ≥ 0) = false := by
    cases l1 : decide (d.limit ≥ 0) with
    | true => rw [l1] at hnl; exact .inl ⟨rfl, by simpa using hnl⟩
    | false => exact .inr rfl
  clear hnl hgd he
  rcases hle with ⟨l1, l2⟩ | l1
  all_goals
    replace H1 := Aside0.mk H1
    replace hk1 := Aside0.mk hk1
    go_wp2_with fail
    go_big_region_o
    go_wp2_with fail
    generalize hW1 : (w.setCell { block := p, off := 1 } (.int .i64 (d.steps + 1))).drew = W1 at H1 hk1
    clear hc8 hc7 hc1 hf1 hFx hW1
    try clear l2
    clear l1
    have hc6 := H1.out.c6
    have hc1 : W1.cell? ⟨p, 1, none⟩ = some (.int .i64 (d.steps + 1)) := H1.out.c1
    have hCx : ∀ n, Kd.C (Kd.int .i64) (W1.drewN n) Ax d.fails.length d.fails := fun n => Kd.C_drewN (Kd.V_reads' H1.out.x).2.2 n
    go_region_held3 (fun w' => w'.cell? ⟨p, 6, none⟩ = some (.slice Ax d.fails.length cx) ∧ w'.cell? ⟨p, 1, none⟩ = some (.int .i64 (d.steps + 1))) (go_keep)
      (first | (go_at_call 65; refine (slices_Contains_int_int.calls (d.fails.length + 1) Ax cx d.fails (d.steps + 1) false _ (by first | exact hCx _ | exact hCx 0) hcx hC).mono ?_; rintro e w' ⟨rfl, ⟨nd, rfl⟩⟩))
    clear hc6 hc1 hCx
    go_wp2_with (go_at_fn g; refine (HG.out _ (H1.out.drewN _).dk (hk1.out.drewN _)).mono ?_; rintro e w' ⟨v, rfl, hQ⟩)
    go_ret
    exact ⟨_, rfl, hQ⟩
set_option maxHeartbeats 4000000 in
set_option maxRecDepth 100000 in
/-- A step that fails. -/
theorem step_bad (h : Dk w p m ok d) (he : ended d = false) (hf : fault d = true) (hr : d.steps + 1 ≤ 9223372036854775807) (hr0 : 0 ≤ d.steps) (hl : d.fails.length ≤ 4611686018427387904) (g : Nat) (lb : Array Value) (fv : Value) {Q : World → Prop}
    (eg : ∀ args w, (callFunc g args).run Try.prog w = .ok (.enter g args) w)
    (hg : ∀ W, Dk W p m (far p m) (one d) → Kept w W (mutS p m) → Calls Try.prog g lb W fun e w' => e = .returned (.tuple #[]) ∧ Q w') :
    Calls Try.prog 37 #[.pointer (some ⟨p, 0, none⟩), fv, .func (.func g) #[] lb] w fun e w' => e = .returned (.int .i64 33) ∧ Q w' := by
  obtain ⟨vf, vc, vx, k, h⟩ := h.ex
  have mixed : Try.prog.follows Departure.mixedOrders = true := rfl
  obtain ⟨Ax, cx, rfl, hcx, hFx⟩ := h.x
  have hC := contains_ev d.fails (d.steps + 1) hl
  rw [show d.fails.contains (d.steps + 1) = true from hf] at hC
  have hc8 := h.c8
  have hc7 := h.c7
  have hc1 := h.c1
  have hf1 := h.fz 1
  have HG := Aside0.mk hg
  have hd' : d.dead = false := by simp [ended] at he; exact he.1
  rw [hd'] at hc8
  have ew : wrap64 (d.steps + 1) = d.steps + 1 := w64 (by omega) hr
  have H1 := h.wide.putv 1 (.int .i64 (d.steps + 1)) (d' := one d) (by simp [cellsD, one]) rfl rfl rfl rfl rfl
  have hk1 : Kept w (w.setCell ⟨p, 1, none⟩ (.int .i64 (d.steps + 1))) (mutS p m) := h.kept_put 1 _
  clear h hr hg
  go_enter Try.func37, Try.ntmps37
  have hnl : (decide (d.limit ≥ 0) && decide (d.steps ≥ d.limit)) = false := by
    simp only [ended, hd', Bool.false_or] at he; exact he
  have hgd : (if decide (d.limit ≥ 0) = true then decide (d.steps ≥ d.limit) else false) = false := by
    cases h1 : decide (d.limit ≥ 0) with
    | true => rw [h1] at hnl; simpa using hnl
    | false => rfl
  replace H1 := H1.drew
  replace hk1 := hk1.drew
  have hle : (decide (d.limit ≥ 0) = true ∧ decide (d.steps ≥ d.limit) = false) ∨ decide (d.limit ≥ 0) = false := by
    cases l1 : decide (d.limit ≥ 0) with
    | true => rw [l1] at hnl; exact .inl ⟨rfl, by simpa using hnl⟩
    | false => exact .inr rfl
  clear hnl hgd he
  rcases hle with ⟨l1, l2⟩ | l1
  all_goals
    replace H1 := Aside0.mk H1
    replace hk1 := Aside0.mk hk1
    go_wp2_with fail
    go_big_region_o
    go_wp2_with fail
    generalize hW1 : (w.setCell { block := p, off := 1 } (.int .i64 (d.steps + 1))).drew = W1 at H1 hk1
    clear hc8 hc7 hc1 hf1 hFx hW1
    try clear l2
    clear l1
    have hc6 := H1.out.c6
    have hc1 : W1.cell? ⟨p, 1, none⟩ = some (.int .i64 (d.steps + 1)) := H1.out.c1
    have hCx : ∀ n, Kd.C (Kd.int .i64) (W1.drewN n) Ax d.fails.length d.fails := fun n => Kd.C_drewN (Kd.V_reads' H1.out.x).2.2 n
    go_region_held3 (fun w' => w'.cell? ⟨p, 6, none⟩ = some (.slice Ax d.fails.length cx) ∧ w'.cell? ⟨p, 1, none⟩ = some (.int .i64 (d.steps + 1))) (go_keep)
      (first | (go_at_call 65; refine (slices_Contains_int_int.calls (d.fails.length + 1) Ax cx d.fails (d.steps + 1) true _ (by first | exact hCx _ | exact hCx 0) hcx hC).mono ?_; rintro e w' ⟨rfl, ⟨nd, rfl⟩⟩))
    clear hc6 hc1 hCx
    go_wp2_with (go_at_fn g; refine (HG.out _ (H1.out.drewN _).dk (hk1.out.drewN _)).mono ?_; rintro e w' ⟨rfl, hQ⟩)
    go_ret
    exact ⟨rfl, hQ⟩
end
end Go.Proofs.Ytfbpplgpmgnmjaa.P
