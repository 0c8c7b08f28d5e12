/- Texts of DiskFails. Merged: HDskF, HDskG. -/
import Derived.Test.YtfbpplgpmgnmjaaMDiskFails0
import Derived.Deep.DeepCutAuto
import Derived.Deep.CutBlock
/- Create, Remove, Rename. -/
namespace Go.Proofs.Ytfbpplgpmgnmjaa.P
open Go.RowKit Go.Proofs.YtfbpplgpmgnmjaaW.PrintWords Go.Proofs.YtfbpplgpmgnmjaaW.PrintLast Go.Proofs.YtfbpplgpmgnmjaaW.PrintMore
set_option linter.unusedVariables false
set_option linter.unusedSimpArgs false
theorem i64w {x : Int} (h0 : -9223372036854775808 ≤ x) (h1 : x ≤ 9223372036854775807) : IntKind.i64.wrap x = x := by rw [IntKind.wrap_i64]; omega
def noName : ByteArray := ⟨#[]⟩
def create1 (d : DS) (n : ByteArray) : DS × Int :=
  if may n = false then (d, 1) else if (tget d.names n).isSome = true then (d, 31) else if 200 ≤ d.names.length then (d, 32)
  else (({ d with files := d.files ++ [zF] } : DS).turn (noName, n, (d.files.length : Nat)), 0)
section
variable {w w' : World} {p m k : Nat} {ok ok' : Nat → Prop} {d : DS} {vf vc vx : Value}
set_option maxHeartbeats 4000000 in
set_option maxRecDepth 100000 in
theorem clipF_any (A : Option Addr) (n c : Nat) (hc : n ≤ c) (w : World) :
    Calls Try.prog 40 #[.slice A n c] w fun e w' => e = .returned (.slice A n n) ∧ w' = w := by
  have hcut : ∀ W, (Instr.slice 68 (.slice A n c) none (some (.int .i64 n)) (some (.int .i64 n))).run Try.prog W = .ok (.slice A n n) W := clip_run Try.underlying68 infoF A n c hc
  go_enter Try.func40, Try.ntmps40
  go_wp2
  go_ret
  exact ⟨rfl, rfl⟩
set_option maxHeartbeats 4000000 in
set_option maxRecDepth 100000 in
theorem create1_any (h : Dk w p m (far p m) d) (bd bn : Nat) (n : ByteArray) (hd : w.heap[bd]? = some (.cells #[.pointer (some ⟨p, 0, none⟩)] 24 (0, 0))) (hn : w.heap[bn]? = some (.cells #[.string n] 73 (0, 0)))
    (hbp : bd ≠ p ∧ bd ≠ m ∧ bn ≠ p ∧ bn ≠ m) (hl : d.changes.length ≤ 1000000) (hl2 : d.files.length ≤ 1000000) :
    Calls Try.prog 38 #[.pointer (some ⟨bd, 0, none⟩), .pointer (some ⟨bn, 0, none⟩)] w (Stepped w p m (create1 d n).1 (create1 d n).2) := by
  obtain ⟨vf, vc, vx, k, h⟩ := h.ex
  have mixed : Try.prog.follows Departure.mixedOrders = true := rfl
  have hc3 := h.c3
  have hcd : w.cell? ⟨bd, 0, none⟩ = some (.pointer (some ⟨p, 0, none⟩)) := (blk_cell hd 0).trans rfl
  have hcn : w.cell? ⟨bn, 0, none⟩ = some (.string n) := (blk_cell hn 0).trans rfl
  have hlk : (Instr.lookup 67 (.map (some m)) (.agg #[.string n]) true).run Try.prog w.drew = .ok (.tuple #[.int .i64 ((tget d.names n).getD 0), .bool (tget d.names n).isSome]) w.drew := h.drew.n.look2 n
  have HD := Aside0.mk h
  clear h
  have hb1 := hbp.1
  have hb2 := hbp.2.1
  have hb3 := hbp.2.2.1
  have hb4 := hbp.2.2.2
  have HL := Aside0.mk (And.intro hl hl2)
  have Hd := Aside0.mk hd
  have Hn := Aside0.mk hn
  obtain ⟨r, hr⟩ : ∃ r, r = create1 d n := ⟨_, rfl⟩
  rw [← hr]
  have hr' := hr
  unfold create1 at hr'
  clear hl hl2 hd hn hr hbp
  go_enter Try.func38, Try.ntmps38
  cases hmy : may n with
  | false =>
    rw [if_pos hmy] at hr'
    subst hr'
    have hmay : ∀ W, Calls Try.prog 39 #[.agg #[.string n]] W fun e w' => e = .returned (.bool false) ∧ Below W.heap.size W w' := fun W => by rw [← hmy]; exact may_any n W
    go_wp2_with fail
    go_big_region_o
    go_wp2_with (go_at_call 39; refine (hmay _).mono ?_; rintro e w2 ⟨rfl, hb⟩; have HB := Aside0.mk hb; clear hb)
    go_ret
    exact ⟨rfl, (HD.out.drew.below HB.out).dk, (Kept.refl w _).drew.below HB.out⟩
  | true =>
    rw [if_neg (by rw [hmy]; simp)] at hr'
    have hmay : ∀ W, Calls Try.prog 39 #[.agg #[.string n]] W fun e w' => e = .returned (.bool true) ∧ Below W.heap.size W w' := fun W => by rw [← hmy]; exact may_any n W
    cases ht : (tget d.names n).isSome with
    | true =>
      rw [if_pos ht] at hr'
      subst hr'
      rw [ht] at hlk
      go_wp2_with fail
      go_big_region_o
      go_wp2_with (go_at_call 39; refine (hmay _).mono ?_; rintro e w2 ⟨rfl, hb⟩; have HB := Aside0.mk hb; clear hb)
      go_ret
      exact ⟨rfl, (HD.out.drew.below HB.out).dk, (Kept.refl w _).drew.below HB.out⟩
    | false =>
      rw [if_neg (by rw [ht]; simp)] at hr'
      rw [ht] at hlk
      by_cases h2 : 200 ≤ d.names.length
      · rw [if_pos h2] at hr'
        subst hr'
        have hge : decide ((d.names.length : Int) ≥ 200) = true := decide_eq_true (by omega)
        go_wp2_with fail
        go_big_region_o
        go_wp2_with (go_at_call 39; refine (hmay _).mono ?_; rintro e w2 ⟨rfl, hb⟩
                     have HD2 := Aside0.mk (HD.out.drew.below hb)
                     have hc32 := HD2.out.c3
                     have hlen := HD2.out.n.len 3
                     have hd2 : w2.cell? ⟨bd, 0, none⟩ = some (.pointer (some ⟨p, 0, none⟩)) := (blk_cell (blk_below (blk_drew Hd.out) hb) 0).trans rfl
                     have HB := Aside0.mk hb; clear hb)
        go_ret
        exact ⟨rfl, (HD.out.drew.below HB.out).dk, (Kept.refl w _).drew.below HB.out⟩
      · rw [if_neg h2] at hr'
        have hge : decide ((d.names.length : Int) ≥ 200) = false := decide_eq_false (by omega)
        go_wp2_with fail
        go_big_region_o
        go_upto_region 8 with (go_at_call 39; refine (hmay _).mono ?_; rintro e w2 ⟨rfl, hb⟩; have HD2 := Aside0.mk (HD.out.drew.below hb); have hc32 := HD2.out.c3; have hlen := HD2.out.n.len 3; have hbd := blk_below (blk_drew Hd.out) hb; have hbn := blk_below (blk_drew Hn.out) hb; have hd2 : w2.cell? ⟨bd, 0, none⟩ = some (.pointer (some ⟨p, 0, none⟩)) := (blk_cell hbd 0).trans rfl; have Hd2 := Aside0.mk hbd; have Hn2 := Aside0.mk hbn; have HB := Aside0.mk hb; clear hb hbd hbn)
        have hsz2 := HD2.out.lt
        obtain ⟨Af, cf, rfl, hcf, hFf⟩ := HD2.out.f
        have HD2 := Aside0.mk HD2.out
        have hcl := clipF_any Af d.files.length cf hcf
        have hc22 := HD2.out.c2
        have ha2 : ∀ ob, (w2.alloc ob).cell? ⟨p, 2, none⟩ = some (.slice Af d.files.length cf) := fun ob => (HD2.out.alloc ob).c2
        have had : ∀ ob, (w2.alloc ob).cell? ⟨bd, 0, none⟩ = some (.pointer (some ⟨p, 0, none⟩)) := fun ob => (blk_cell (blk_alloc Hd2.out ob) 0).trans rfl
        have K2 := Aside0.mk (show Kept w w2 (mutS p m) from (Kept.refl w _).drew.below HB.out)
        clear hFf
        go_cut [] (fun wc => Aside0 (∃ A5 c5, DW wc p m (far p m) { d with files := d.files ++ [zF] } (.slice A5 (d.files.length + 1) c5) vc vx k ∧ Kept w wc (mutS p m) ∧ wc.heap[bd]? = some (.cells #[.pointer (some ⟨p, 0, none⟩)] 24 (0, 0)) ∧ wc.heap[bn]? = some (.cells #[.string n] 73 (0, 0))))
        case first =>
          go_region_law_o
            (first
              | (refine goes_ Try.func40 (by kernel_rfl) rfl #[.slice Af d.files.length cf] (by rfl) rfl rfl (by simp only [List.map_toArray, List.map_cons, List.map_nil]; rfl) ?_; with_reducible refine (hcl _).mono ?_; rintro e w9 ⟨rfl, rfl⟩; refine ⟨_, rfl, ?_⟩)
              | (refine step_appD (dd := kF) (e := 78) (p := p) (d := d) (vf := .slice Af d.files.length cf) (vc := vc) (vx := vx) (k := k) (m := m) (xs := d.files) (y := zF) (news := [.slice none 0 0, .int .i64 0]) rfl _ _ _ (by rfl) Try.underlying68 infoF rfl (by decide) (by rfl) (by rfl) (by repeat (first | exact HD2.out | refine DW.alloc ?_ _ | refine DW.drewN ?_ _ | refine DW.drew ?_)) (by repeat (first | exact ⟨_, _, rfl, Nat.le_refl _, (Kd.V_at HD2.out.f).2.2⟩ | refine Kd.V_alloc ?_ _ | refine Kd.V_drewN ?_ _ | refine Kd.V_drew ?_)) (World.news_of_block (heap_alloc_new _ _)) (kF_mk (x := zF) (Nat.le_refl _) (Kd.F_nil _ _ _)) (by have := HL.out.2; simp only [maxLen]; omega) (by have := HL.out.2; omega) ?_
                 intro A5 c5 w5 hd5 hb5 hv5
                 have HK5 := Aside0.mk (K2.out.below (below_step (by repeat (first | exact Below.refl _ _ | apply below_alloc | apply pw_below_drewN | apply below_drew1)) hb5))
                 have HBD5 := Aside0.mk (blk_below (by repeat (first | exact Hd2.out | apply blk_alloc | apply blk_drewN | apply blk_drew)) hb5)
                 have HBN5 := Aside0.mk (blk_below (by repeat (first | exact Hn2.out | apply blk_alloc | apply blk_drewN | apply blk_drew)) hb5)
                 have HD5 := Aside0.mk hd5
                 have HV5 := Aside0.mk hv5
                 have hf5 := HD5.out.fz 2
                 have hc5' := HD5.out.c2
                 have hcd5 := (blk_cell HBD5.out 0).trans rfl
                 clear hb5 hd5 hv5))
          all_goals
            go_wp2_with fail
            go_meet
            case rel => exact ⟨⟨A5, c5, HD5.out.put 2 (.slice A5 (d.files.length + 1) c5) (d' := { d with files := d.files ++ [zF] }) (vf' := .slice A5 (d.files.length + 1) c5) (vc' := vc) (vx' := vx) (k' := k) (by simp [cellsD]) rfl HD5.out.kp HD5.out.okk HV5.out HD5.out.c HD5.out.x, HK5.out.setCell (.inl (.inl rfl)) _, blk_far HBD5.out hb1 _, blk_far HBN5.out hb3 _⟩⟩
        case rest =>
          obtain ⟨⟨A5, c5, hd5, hk5, hbd5, hbn5⟩⟩ := hcut
          have hcd5 : wc.cell? ⟨bd, 0, none⟩ = some (.pointer (some ⟨p, 0, none⟩)) := (blk_cell hbd5 0).trans rfl
          have hcn5 : wc.cell? ⟨bn, 0, none⟩ = some (.string n) := (blk_cell hbn5 0).trans rfl
          have hc25 := hd5.c2
          have ew : IntKind.i64.wrap (d.files.length : Int) = (d.files.length : Int) := by have := HL.out.2; exact i64w (by omega) (by omega)
          have HD5 := Aside0.mk hd5
          have HK5 := Aside0.mk hk5
          have hturn : Calls Try.prog 41 #[.pointer (some ⟨p, 0, none⟩), .agg #[.string ⟨#[]⟩, .string n, .int .i64 (IntKind.i64.wrap (d.files.length : Int))]] wc.drew (Turned wc.drew p m (({ d with files := d.files ++ [zF] } : DS).turn (⟨#[]⟩, n, (d.files.length : Nat))) (.slice A5 (d.files.length + 1) c5) vx k) := by
            rw [ew]; exact turn_any hd5.drew ((⟨#[]⟩ : ByteArray), n, (d.files.length : Nat)) HL.out.1
          clear ew
          clear hd5 hk5 hbd5 hbn5 hcl hc22 ha2 had hd2 hc32 hlen hge
          go_wp2_with fail
          go_region_held3 (fun w' => w'.cell? ⟨bd, 0, none⟩ = some (.pointer (some ⟨p, 0, none⟩)) ∧ w'.cell? ⟨bn, 0, none⟩ = some (.string n) ∧ w'.cell? ⟨p, 2, none⟩ = some (.slice A5 (d.files.length + 1) c5)) (first | exact ⟨hcd5, hcn5, hc25⟩ | exact HS9.out)
            (first
              | (go_at_call 41; refine hturn.mono ?_; rintro e w9 ⟨rfl, ⟨vc9, hd9⟩, hk9⟩
                 have HS9 := Aside0.mk (And.intro (kept_cell hk9 ⟨bd, 0, none⟩ (fun e => e.elim hb1 hb2) hcd5) (And.intro (kept_cell hk9 ⟨bn, 0, none⟩ (fun e => e.elim hb3 hb4) hcn5) hd9.c2))
                 have HD9 := Aside0.mk hd9.dk
                 have HK9 := Aside0.mk (HK5.out.drew.then_ hk9 (fun _ h => .inl h))
                 clear hd9 hk9))
          go_wp2
          go_ret
          rw [hr']
          exact ⟨rfl, HD9.out, HK9.out⟩
end
end Go.Proofs.Ytfbpplgpmgnmjaa.P

/- Create, as a step. -/
namespace Go.Proofs.Ytfbpplgpmgnmjaa.P
open Go.RowKit Go.Proofs.YtfbpplgpmgnmjaaW.PrintWords Go.Proofs.YtfbpplgpmgnmjaaW.PrintLast Go.Proofs.YtfbpplgpmgnmjaaW.PrintMore
set_option linter.unusedVariables false
set_option linter.unusedSimpArgs false
/-- Bounds in which a disk stays. -/
structure Bd (d : DS) : Prop where
  s0 : 0 ≤ d.steps
  s1 : d.steps ≤ 1000000000
  x : d.fails.length ≤ 1000000
  c : d.changes.length ≤ 1000000
  f : d.files.length ≤ 1000000
def stepF (d : DS) (f : DS → DS × Int) : DS × Int := if ended d = true then ({ d with dead := true }, 34) else if fault d = true then (one d, 33) else f (one d)
theorem Bd.one {d : DS} (h : Bd d) : d.steps + 1 ≤ 9223372036854775807 := by have := h.s1; omega
section
variable {w w' : World} {p m k : Nat} {ok ok' : Nat → Prop} {d : DS} {vf vc vx : Value}
theorem nothing_any (W : World) : Calls Try.prog 42 #[] W fun e w' => e = .returned (.tuple #[]) ∧ w' = W := by
  go_enter Try.func42, Try.ntmps42
  go_wp2
  refine bodyPost_end (results_none rfl _ _ _) rfl ?_
  exact ⟨rfl, rfl⟩
/-- step, of which a closure says what it does, and nothing is done if it fails. -/
theorem step_any (h : Dk w p m ok d) (b : Bd d) (g : Nat) (lb : Array Value) (f : DS → DS × Int) (eg : ∀ args w, (callFunc g args).run Try.prog w = .ok (.enter g args) w)
    (hg : ∀ W, Dk W p m (far p m) (one d) → Kept w W (mutS p m) → Calls Try.prog g lb W (Stepped W p m (f (one d)).1 (f (one d)).2)) :
    Calls Try.prog 37 #[.pointer (some ⟨p, 0, none⟩), .func (.func g) #[] lb, .func (.func 42) #[] #[]] w (Stepped w p m (stepF d f).1 (stepF d f).2) := by
  unfold stepF
  by_cases he : ended d = true
  · rw [if_pos he]
    exact step_late h he _ _
  · rw [if_neg he]
    have he' : ended d = false := by simpa using he
    by_cases hf : fault d = true
    · rw [if_pos hf]
      refine (step_bad h he' hf b.one b.s0 (by have := b.x; omega) 42 #[] _ (Q := fun w' => Dk w' p m (far p m) (one d) ∧ Kept w w' (mutS p m)) (enters_of Try.func42 (by kernel_rfl) rfl) (fun W hD hK => (nothing_any W).mono ?_)).mono ?_
      · rintro e w' ⟨rfl, rfl⟩
        exact ⟨rfl, hD, hK⟩
      · rintro e w' ⟨rfl, hD, hK⟩
        exact ⟨rfl, hD, hK⟩
    · rw [if_neg hf]
      refine (step_ok h he' (by simpa using hf) b.one b.s0 (by have := b.x; omega) g lb _ (Q := fun e w' => Stepped w p m (f (one d)).1 (f (one d)).2 e w') eg (fun W hD hK => (hg W hD hK).mono ?_)).mono ?_
      · rintro e w' ⟨rfl, hD, hK'⟩
        exact ⟨_, rfl, rfl, hD, hK.then_ hK' (fun k hk => .inl hk)⟩
      · rintro e w' ⟨v, rfl, hQ⟩
        exact hQ
theorem Stepped.up {w w2 : World} {d' : DS} {r : Int} {e : Ending} (h : Stepped w2 p m d' r e w') (hk : Kept w w2 (mutS p m)) : Stepped w p m d' r e w' := ⟨h.e, h.d, hk.then_ h.k (fun _ hk => .inl hk)⟩
/-- A box that lies behind a disk's blocks stays through what a disk's steps write. -/
theorem box_kept {w2 W : World} {g : Nat} {o : Obj} (hg : w2.heap[g]? = some o) (hk : Kept w2 W (mutS p m)) (hp : g ≠ p) (hm : g ≠ m) : W.heap[g]? = some o := (hk.2 g (blk_lt hg) (fun e => e.elim hp hm)).trans hg
set_option maxHeartbeats 4000000 in
set_option maxRecDepth 100000 in
theorem create_any (h : Dk w p m ok d) (b : Bd d) (s : ByteArray) :
    Calls Try.prog 13 #[.pointer (some ⟨p, 0, none⟩), .string s] w (Stepped w p m (stepF d (create1 · s)).1 (stepF d (create1 · s)).2) := by
  have H : ∀ w2, w2 = (w.alloc (.cells #[.pointer (some ⟨p, 0, none⟩)] 24)).alloc (.cells #[.string s] 73) →
      Calls Try.prog 37 #[.pointer (some ⟨p, 0, none⟩), .func (.func 38) #[] #[.pointer (some ⟨w.heap.size, 0, none⟩), .pointer (some ⟨w.heap.size + 1, 0, none⟩)], .func (.func 42) #[] #[]] w2 (Stepped w p m (stepF d (create1 · s)).1 (stepF d (create1 · s)).2) := by
    rintro w2 rfl
    have h1 := blk_alloc (blk_new w (.cells #[.pointer (some ⟨p, 0, none⟩)] 24)) (.cells #[.string s] 73)
    have h2 := blk_new (w.alloc (.cells #[.pointer (some ⟨p, 0, none⟩)] 24)) (.cells #[.string s] 73)
    rw [World.size_alloc] at h2
    have hl := h.lt
    have hm := h.ltm
    refine (step_any (h.below (below_alloc (below_alloc (Below.refl _ _) _) _)) b 38 _ (create1 · s) (enters_of Try.func38 (by kernel_rfl) rfl) (fun W hD hK => ?_)).mono (fun e w' h => h.up (Kept.of_below (below_alloc (below_alloc (Below.refl _ _) _) _) _))
    exact create1_any hD w.heap.size (w.heap.size + 1) s (box_kept h1 hK (by omega) (by omega)) (box_kept h2 hK (by omega) (by omega)) ⟨by omega, by omega, by omega, by omega⟩ b.c b.f
  go_enter Try.func13, Try.ntmps13
  go_wp2_with (go_at_call 37; refine (H _ rfl).mono ?_; rintro e w' ⟨rfl, hd, hk⟩)
  go_ret
  exact ⟨rfl, hd, hk⟩
end
end Go.Proofs.Ytfbpplgpmgnmjaa.P

