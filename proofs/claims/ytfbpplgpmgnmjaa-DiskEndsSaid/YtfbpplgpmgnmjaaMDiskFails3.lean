/- Texts of DiskFails. Merged: HDskM, HDskN. -/
import Derived.Test.YtfbpplgpmgnmjaaQDiskFailsHDskL
import Derived.Test.YtfbpplgpmgnmjaaQDiskFailsHDskH
/- Append, Sync, SyncDir, Remove, Rename, as steps. -/
namespace Go.Proofs.Ytfbpplgpmgnmjaa.P
open Go.RowKit Go.Proofs.YtfbpplgpmgnmjaaW.PrintWords Go.Proofs.YtfbpplgpmgnmjaaW.PrintLast Go.Proofs.YtfbpplgpmgnmjaaW.PrintMore
set_option linter.unusedVariables false
set_option linter.unusedSimpArgs false
/-- Bounds in which a disk stays, and names that lead to files. -/
structure Bd2 (d : DS) : Prop extends Bd d where
  n : NamesOk d.files d.names
  u : used d ≤ 100000000000
def append1 (d : DS) (s : ByteArray) (b : List Int) : DS × Int := if ended d = true then ({ d with dead := true }, 34) else if fault d = true then ((grow1 (one d) s b (b.length / 2)).1, 33) else grow1 (one d) s b b.length
section
variable {w w' : World} {p m k : Nat} {ok ok' : Nat → Prop} {d : DS} {vf vc vx : Value}
set_option maxHeartbeats 4000000 in
set_option maxRecDepth 100000 in
theorem sync_any (h : Dk w p m ok d) (b : Bd2 d) (s : ByteArray) :
    Calls Try.prog 15 #[.pointer (some ⟨p, 0, none⟩), .string s] w (Stepped w p m (stepF d (sync1 · s)).1 (stepF d (sync1 · s)).2) := by
  have H : ∀ w2, w2 = (w.alloc (.cells #[.pointer (some ⟨p, 0, none⟩)] 24)).alloc (.cells #[.string s] 9) →
      Calls Try.prog 37 #[.pointer (some ⟨p, 0, none⟩), .func (.func 46) #[] #[.pointer (some ⟨w.heap.size, 0, none⟩), .pointer (some ⟨w.heap.size + 1, 0, none⟩)], .func (.func 42) #[] #[]] w2 (Stepped w p m (stepF d (sync1 · s)).1 (stepF d (sync1 · s)).2) := by
    rintro w2 rfl
    have h1 := blk_alloc (blk_new w (.cells #[.pointer (some ⟨p, 0, none⟩)] 24)) (.cells #[.string s] 9)
    have h2 := blk_new (w.alloc (.cells #[.pointer (some ⟨p, 0, none⟩)] 24)) (.cells #[.string s] 9)
    rw [World.size_alloc] at h2
    have hl := h.lt
    have hm := h.ltm
    refine (step_any (h.below (below_alloc (below_alloc (Below.refl _ _) _) _)) b.toBd 46 _ (sync1 · s) (enters_of Try.func46 (by kernel_rfl) rfl) (fun W hD hK => ?_)).mono (fun e w' h => h.up (Kept.of_below (below_alloc (below_alloc (Below.refl _ _) _) _) _))
    exact sync1_any hD w.heap.size (w.heap.size + 1) s (box_kept h1 hK (by omega) (by omega)) (box_kept h2 hK (by omega) (by omega)) ⟨by omega, by omega, by omega, by omega⟩ b.n b.f
  go_enter Try.func15, Try.ntmps15
  go_wp2_with (go_at_call 37; refine (H _ rfl).mono ?_; rintro e w' ⟨rfl, hd, hk⟩)
  go_ret
  exact ⟨rfl, hd, hk⟩
def syncdir1 (d : DS) : DS × Int := ({ d with kept := d.names, changes := [] }, 0)
set_option maxHeartbeats 4000000 in
set_option maxRecDepth 100000 in
theorem syncdir_any (h : Dk w p m ok d) (b : Bd d) :
    Calls Try.prog 16 #[.pointer (some ⟨p, 0, none⟩)] w (Stepped w p m (stepF d syncdir1).1 (stepF d syncdir1).2) := by
  have H : ∀ w2, w2 = w.alloc (.cells #[.pointer (some ⟨p, 0, none⟩)] 24) →
      Calls Try.prog 37 #[.pointer (some ⟨p, 0, none⟩), .func (.func 48) #[] #[.pointer (some ⟨w.heap.size, 0, none⟩)], .func (.func 42) #[] #[]] w2 (Stepped w p m (stepF d syncdir1).1 (stepF d syncdir1).2) := by
    rintro w2 rfl
    have h1 := blk_new w (.cells #[.pointer (some ⟨p, 0, none⟩)] 24)
    have hl := h.lt
    have hm := h.ltm
    refine (step_any (h.below (below_alloc (Below.refl _ _) _)) b 48 _ syncdir1 (enters_of Try.func48 (by kernel_rfl) rfl) (fun W hD hK => ?_)).mono (fun e w' h => h.up (Kept.of_below (below_alloc (Below.refl _ _) _) _))
    exact syncdir1_any hD w.heap.size (box_kept h1 hK (by omega) (by omega)) ⟨by omega, by omega⟩
  go_enter Try.func16, Try.ntmps16
  go_wp2_with (go_at_call 37; refine (H _ rfl).mono ?_; rintro e w' ⟨rfl, hd, hk⟩)
  go_ret
  exact ⟨rfl, hd, hk⟩
set_option maxHeartbeats 4000000 in
set_option maxRecDepth 100000 in
theorem remove_any (h : Dk w p m ok d) (b : Bd d) (s : ByteArray) :
    Calls Try.prog 23 #[.pointer (some ⟨p, 0, none⟩), .string s] w (Stepped w p m (stepF d (remove1 · s)).1 (stepF d (remove1 · s)).2) := by
  have H : ∀ w2, w2 = (w.alloc (.cells #[.pointer (some ⟨p, 0, none⟩)] 24)).alloc (.cells #[.string s] 9) →
      Calls Try.prog 37 #[.pointer (some ⟨p, 0, none⟩), .func (.func 53) #[] #[.pointer (some ⟨w.heap.size + 1, 0, none⟩), .pointer (some ⟨w.heap.size, 0, none⟩)], .func (.func 42) #[] #[]] w2 (Stepped w p m (stepF d (remove1 · s)).1 (stepF d (remove1 · s)).2) := by
    rintro w2 rfl
    have h1 := blk_alloc (blk_new w (.cells #[.pointer (some ⟨p, 0, none⟩)] 24)) (.cells #[.string s] 9)
    have h2 := blk_new (w.alloc (.cells #[.pointer (some ⟨p, 0, none⟩)] 24)) (.cells #[.string s] 9)
    rw [World.size_alloc] at h2
    have hl := h.lt
    have hm := h.ltm
    refine (step_any (h.below (below_alloc (below_alloc (Below.refl _ _) _) _)) b 53 _ (remove1 · s) (enters_of Try.func53 (by kernel_rfl) rfl) (fun W hD hK => ?_)).mono (fun e w' h => h.up (Kept.of_below (below_alloc (below_alloc (Below.refl _ _) _) _) _))
    exact remove1_any hD w.heap.size (w.heap.size + 1) s (box_kept h1 hK (by omega) (by omega)) (box_kept h2 hK (by omega) (by omega)) b.c
  go_enter Try.func23, Try.ntmps23
  go_wp2_with (go_at_call 37; refine (H _ rfl).mono ?_; rintro e w' ⟨rfl, hd, hk⟩)
  go_ret
  exact ⟨rfl, hd, hk⟩
set_option maxHeartbeats 4000000 in
set_option maxRecDepth 100000 in
theorem rename_any (h : Dk w p m ok d) (b : Bd d) (s t : ByteArray) :
    Calls Try.prog 24 #[.pointer (some ⟨p, 0, none⟩), .string s, .string t] w (Stepped w p m (stepF d (rename1 · s t)).1 (stepF d (rename1 · s t)).2) := by
  have H : ∀ w2, w2 = ((w.alloc (.cells #[.pointer (some ⟨p, 0, none⟩)] 24)).alloc (.cells #[.string s] 9)).alloc (.cells #[.string t] 9) →
      Calls Try.prog 37 #[.pointer (some ⟨p, 0, none⟩), .func (.func 54) #[] #[.pointer (some ⟨w.heap.size + 1, 0, none⟩), .pointer (some ⟨w.heap.size + 2, 0, none⟩), .pointer (some ⟨w.heap.size, 0, none⟩)], .func (.func 42) #[] #[]] w2 (Stepped w p m (stepF d (rename1 · s t)).1 (stepF d (rename1 · s t)).2) := by
    rintro w2 rfl
    have h1 := blk_alloc (blk_alloc (blk_new w (.cells #[.pointer (some ⟨p, 0, none⟩)] 24)) (.cells #[.string s] 9)) (.cells #[.string t] 9)
    have h2 := blk_alloc (blk_new (w.alloc (.cells #[.pointer (some ⟨p, 0, none⟩)] 24)) (.cells #[.string s] 9)) (.cells #[.string t] 9)
    have h3 := blk_new ((w.alloc (.cells #[.pointer (some ⟨p, 0, none⟩)] 24)).alloc (.cells #[.string s] 9)) (.cells #[.string t] 9)
    rw [World.size_alloc] at h2
    rw [World.size_alloc, World.size_alloc] at h3
    have hl := h.lt
    have hm := h.ltm
    refine (step_any (h.below (below_alloc (below_alloc (below_alloc (Below.refl _ _) _) _) _)) b 54 _ (rename1 · s t) (enters_of Try.func54 (by kernel_rfl) rfl) (fun W hD hK => ?_)).mono (fun e w' h => h.up (Kept.of_below (below_alloc (below_alloc (below_alloc (Below.refl _ _) _) _) _) _))
    exact rename1_any hD w.heap.size (w.heap.size + 1) (w.heap.size + 2) s t (box_kept h1 hK (by omega) (by omega)) (box_kept h2 hK (by omega) (by omega)) (box_kept h3 hK (by omega) (by omega)) b.c
  go_enter Try.func24, Try.ntmps24
  go_wp2_with (go_at_call 37; refine (H _ rfl).mono ?_; rintro e w' ⟨rfl, hd, hk⟩)
  go_ret
  exact ⟨rfl, hd, hk⟩
end
end Go.Proofs.Ytfbpplgpmgnmjaa.P

/- Append, as a step. -/
namespace Go.Proofs.Ytfbpplgpmgnmjaa.P
open Go.RowKit Go.Proofs.YtfbpplgpmgnmjaaW.PrintWords Go.Proofs.YtfbpplgpmgnmjaaW.PrintLast Go.Proofs.YtfbpplgpmgnmjaaW.PrintMore
set_option linter.unusedVariables false
set_option linter.unusedSimpArgs false
section
variable {w w' : World} {p m k : Nat} {ok ok' : Nat → Prop} {d : DS} {vf vc vx : Value}
set_option maxHeartbeats 4000000 in
set_option maxRecDepth 100000 in
theorem append1a_any (h : Dk w p m (far p m) d) (bd bs bb : Nat) (s : ByteArray) (b : List Int) (Ab : Option Addr) (cb : Nat) (okb : Nat → Prop) (hb : Kd.F (Kd.int .u8) w okb Ab b.length b) (hokb : ∀ q, okb q → q ≠ p ∧ q ≠ m) (hcb : b.length ≤ cb)
    (hd : w.heap[bd]? = some (.cells #[.pointer (some ⟨p, 0, none⟩)] 24 (0, 0))) (hs : w.heap[bs]? = some (.cells #[.string s] 9 (0, 0))) (hbb : w.heap[bb]? = some (.cells #[.slice Ab b.length cb] 22 (0, 0)))
    (hn : NamesOk d.files d.names) (hl : d.files.length ≤ 1000000) (hu : used d ≤ 100000000000) (hbl : b.length ≤ 1000000000) :
    Calls Try.prog 43 #[.pointer (some ⟨bd, 0, none⟩), .pointer (some ⟨bs, 0, none⟩), .pointer (some ⟨bb, 0, none⟩)] w (Stepped w p m (grow1 d s b b.length).1 (grow1 d s b b.length).2) := by
  have hcd : w.cell? ⟨bd, 0, none⟩ = some (.pointer (some ⟨p, 0, none⟩)) := (blk_cell hd 0).trans rfl
  have hcs : w.cell? ⟨bs, 0, none⟩ = some (.string s) := (blk_cell hs 0).trans rfl
  have hcb2 : w.cell? ⟨bb, 0, none⟩ = some (.slice Ab b.length cb) := (blk_cell hbb 0).trans rfl
  have H := Aside0.mk (grow_any h s b b.length Ab cb okb hb hokb hcb (Nat.le_refl _) hn hl hu hbl)
  clear h hb hokb hcb hd hs hbb hn hl hu hbl
  go_enter Try.func43, Try.ntmps43
  go_wp2_with (go_at_call 44; refine H.out.mono ?_; rintro e w9 ⟨rfl, hd9, hk9⟩)
  go_ret
  exact ⟨rfl, hd9, hk9⟩
set_option maxHeartbeats 4000000 in
set_option maxRecDepth 100000 in
theorem append2a_any (h : Dk w p m (far p m) d) (bd bs bb : Nat) (s : ByteArray) (b : List Int) (Ab : Option Addr) (cb : Nat) (okb : Nat → Prop) (hb : Kd.F (Kd.int .u8) w okb Ab b.length b) (hokb : ∀ q, okb q → q ≠ p ∧ q ≠ m) (hcb : b.length ≤ cb)
    (hd : w.heap[bd]? = some (.cells #[.pointer (some ⟨p, 0, none⟩)] 24 (0, 0))) (hs : w.heap[bs]? = some (.cells #[.string s] 9 (0, 0))) (hbb : w.heap[bb]? = some (.cells #[.slice Ab b.length cb] 22 (0, 0)))
    (hn : NamesOk d.files d.names) (hl : d.files.length ≤ 1000000) (hu : used d ≤ 100000000000) (hbl : b.length ≤ 1000000000) :
    Calls Try.prog 45 #[.pointer (some ⟨bd, 0, none⟩), .pointer (some ⟨bs, 0, none⟩), .pointer (some ⟨bb, 0, none⟩)] w fun e w' => e = .returned (.tuple #[]) ∧ Dk w' p m (far p m) (grow1 d s b (b.length / 2)).1 ∧ Kept w w' (mutS p m) := by
  have hcd : w.cell? ⟨bd, 0, none⟩ = some (.pointer (some ⟨p, 0, none⟩)) := (blk_cell hd 0).trans rfl
  have hcs : w.cell? ⟨bs, 0, none⟩ = some (.string s) := (blk_cell hs 0).trans rfl
  have hcb2 : w.cell? ⟨bb, 0, none⟩ = some (.slice Ab b.length cb) := (blk_cell hbb 0).trans rfl
  have H := Aside0.mk (grow_any h s b (b.length / 2) Ab cb okb hb hokb hcb (Nat.div_le_self _ _) hn hl hu hbl)
  clear h hb hokb hcb hd hs hbb hn hl hu
  go_enter Try.func45, Try.ntmps45
  go_wp2_with (go_at_call 44; refine H.out.mono ?_; rintro e w9 ⟨rfl, hd9, hk9⟩)
  refine bodyPost_end (results_none rfl _ _ _) rfl ?_
  exact ⟨rfl, hd9, hk9⟩
set_option maxHeartbeats 4000000 in
set_option maxRecDepth 100000 in
theorem append_any (h : Dk w p m ok d) (bd : Bd2 d) (s : ByteArray) (b : List Int) (Ab : Option Addr) (cb : Nat) (okb : Nat → Prop) (hb : Kd.F (Kd.int .u8) w okb Ab b.length b) (hokb : ∀ q, okb q → q ≠ p ∧ q ≠ m) (hcb : b.length ≤ cb) (hbl : b.length ≤ 1000000000) :
    Calls Try.prog 14 #[.pointer (some ⟨p, 0, none⟩), .string s, .slice Ab b.length cb] w (Stepped w p m (append1 d s b).1 (append1 d s b).2) := by
  have H : ∀ w2, w2 = ((w.alloc (.cells #[.pointer (some ⟨p, 0, none⟩)] 24)).alloc (.cells #[.string s] 9)).alloc (.cells #[.slice Ab b.length cb] 22) →
      Calls Try.prog 37 #[.pointer (some ⟨p, 0, none⟩), .func (.func 43) #[] #[.pointer (some ⟨w.heap.size, 0, none⟩), .pointer (some ⟨w.heap.size + 1, 0, none⟩), .pointer (some ⟨w.heap.size + 2, 0, none⟩)], .func (.func 45) #[] #[.pointer (some ⟨w.heap.size, 0, none⟩), .pointer (some ⟨w.heap.size + 1, 0, none⟩), .pointer (some ⟨w.heap.size + 2, 0, none⟩)]] w2 (Stepped w p m (append1 d s b).1 (append1 d s b).2) := by
    rintro w2 rfl
    have h1 := blk_alloc (blk_alloc (blk_new w (.cells #[.pointer (some ⟨p, 0, none⟩)] 24)) (.cells #[.string s] 9)) (.cells #[.slice Ab b.length cb] 22)
    have h2 := blk_alloc (blk_new (w.alloc (.cells #[.pointer (some ⟨p, 0, none⟩)] 24)) (.cells #[.string s] 9)) (.cells #[.slice Ab b.length cb] 22)
    have h3 := blk_new ((w.alloc (.cells #[.pointer (some ⟨p, 0, none⟩)] 24)).alloc (.cells #[.string s] 9)) (.cells #[.slice Ab b.length cb] 22)
    rw [World.size_alloc] at h2
    rw [World.size_alloc, World.size_alloc] at h3
    have hl := h.lt
    have hm := h.ltm
    have hbw : Below w.heap.size w (((w.alloc (.cells #[.pointer (some ⟨p, 0, none⟩)] 24)).alloc (.cells #[.string s] 9)).alloc (.cells #[.slice Ab b.length cb] 22)) := below_alloc (below_alloc (below_alloc (Below.refl _ _) _) _) _
    have hb2 := Kd.F_below hb hbw
    have hD2 := h.below hbw
    have hK2 : Kept w (((w.alloc (.cells #[.pointer (some ⟨p, 0, none⟩)] 24)).alloc (.cells #[.string s] 9)).alloc (.cells #[.slice Ab b.length cb] 22)) (mutS p m) := Kept.of_below hbw _
    have bn : NamesOk (one d).files (one d).names := bd.n
    have bu : used (one d) ≤ 100000000000 := bd.u
    have bf : (one d).files.length ≤ 1000000 := bd.f
    clear hb hbw
    generalize ((w.alloc (.cells #[.pointer (some ⟨p, 0, none⟩)] 24)).alloc (.cells #[.string s] 9)).alloc (.cells #[.slice Ab b.length cb] 22) = w2 at *
    have hbW : ∀ W, Kept w2 W (mutS p m) → Kd.F (Kd.int .u8) W okb Ab b.length b := fun W hK => Kd.F_step hb2 (fun q hq hlt => hK.2 q hlt (fun e => e.elim (hokb q hq).1 (hokb q hq).2))
    unfold append1
    by_cases he : ended d = true
    · rw [if_pos he]
      exact (step_late hD2 he _ _).mono (fun e w' h => h.up hK2)
    · rw [if_neg he]
      have he' : ended d = false := by simpa using he
      by_cases hf : fault d = true
      · rw [if_pos hf]
        refine (step_bad hD2 he' hf bd.toBd.one bd.s0 (by have := bd.x; omega) 45 _ _ (Q := fun w' => Dk w' p m (far p m) (grow1 (one d) s b (b.length / 2)).1 ∧ Kept w w' (mutS p m)) (enters_of Try.func45 (by kernel_rfl) rfl) (fun W hD hK => ?_)).mono ?_
        · refine (append2a_any hD w.heap.size (w.heap.size + 1) (w.heap.size + 2) s b Ab cb okb (hbW W hK) hokb hcb (box_kept h1 hK (by omega) (by omega)) (box_kept h2 hK (by omega) (by omega)) (box_kept h3 hK (by omega) (by omega)) bn bf bu hbl).mono ?_
          rintro e w' ⟨rfl, hd, hk⟩
          exact ⟨rfl, hd, (hK2.then_ hK (fun _ h => .inl h)).then_ hk (fun _ h => .inl h)⟩
        · rintro e w' ⟨rfl, hd, hk⟩
          exact ⟨rfl, hd, hk⟩
      · rw [if_neg hf]
        refine (step_ok hD2 he' (by simpa using hf) bd.toBd.one bd.s0 (by have := bd.x; omega) 43 _ _ (Q := fun e w' => Stepped w p m (grow1 (one d) s b b.length).1 (grow1 (one d) s b b.length).2 e w') (enters_of Try.func43 (by kernel_rfl) rfl) (fun W hD hK => ?_)).mono ?_
        · refine (append1a_any hD w.heap.size (w.heap.size + 1) (w.heap.size + 2) s b Ab cb okb (hbW W hK) hokb hcb (box_kept h1 hK (by omega) (by omega)) (box_kept h2 hK (by omega) (by omega)) (box_kept h3 hK (by omega) (by omega)) bn bf bu hbl).mono ?_
          rintro e w' ⟨rfl, hd, hk⟩
          exact ⟨_, rfl, rfl, hd, (hK2.then_ hK (fun _ h => .inl h)).then_ hk (fun _ h => .inl h)⟩
        · rintro e w' ⟨v, rfl, hQ⟩
          exact hQ
  go_enter Try.func14, Try.ntmps14
  go_wp2_with (go_at_call 37; refine (H _ rfl).mono ?_; rintro e w' ⟨rfl, hd, hk⟩)
  go_ret
  exact ⟨rfl, hd, hk⟩
end
end Go.Proofs.Ytfbpplgpmgnmjaa.P

