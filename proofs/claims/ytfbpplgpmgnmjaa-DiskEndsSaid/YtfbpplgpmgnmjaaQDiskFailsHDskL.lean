/- Texts of DiskFails. Merged: HDskL. -/
import Derived.Test.YtfbpplgpmgnmjaaQDiskFailsHDskV
import Derived.Test.YtfbpplgpmgnmjaaMDiskFails2
import Derived.Test.YtfbpplgpmgnmjaaPx1
/- grow: bytes put behind a file. -/
namespace Go.Proofs.Ytfbpplgpmgnmjaa.P
open Go.RowKit Go.Proofs.YtfbpplgpmgnmjaaW.PrintWords Go.Proofs.YtfbpplgpmgnmjaaW.PrintLast Go.Proofs.YtfbpplgpmgnmjaaW.PrintMore
set_option linter.unusedVariables false
set_option linter.unusedSimpArgs false
def growF (fs : List DF) (i : Nat) (x : List Int) : List DF := fs.set i ((fs.getD i zF).1 ++ x, (fs.getD i zF).2)
def grow1 (d : DS) (s : ByteArray) (b : List Int) (many : Nat) : DS × Int := match tget d.names s with
  | none => (d, 30)
  | some x => if d.quota < used d + (b.length : Int) then (d, 32) else ({ d with files := growF d.files x.toNat (b.take many) }, 0)
theorem concat_ev (a b : List Int) (h : a.length + b.length ≤ 1000000000000) : slices_Concat_byte_byte.f 6 [a, b] = some (a ++ b) := by
  have e1 : wrap64 (0 + (a.length : Int)) = (a.length : Int) := by rw [w64 (by omega) (by omega)]; omega
  have e2 : wrap64 ((a.length : Int) + (b.length : Int)) = (a.length : Int) + (b.length : Int) := w64 (by omega) (by omega)
  have e3 : wrap64 (0 + 1) = 1 := w64 (by omega) (by omega)
  have e4 : wrap64 (1 + 1) = 2 := w64 (by omega) (by omega)
  have r0 : rd_L1 [a, b] 0 = a := rfl
  have r1 : rd_L1 [a, b] 1 = b := rfl
  have hg : slices_Grow_byte_byte.f [] ((a.length : Int) + (b.length : Int)) = some [] := by unfold slices_Grow_byte_byte.f; rw [if_pos ⟨rfl, by omega, by omega⟩]
  unfold slices_Concat_byte_byte.f
  have hl : (([a, b] : List (List Int)).length : Int) = 2 := rfl
  rw [hl]
  rw [slices_Concat_byte_byte.l0, if_pos (by omega), if_pos (by omega), if_pos (by rw [hl]; omega), r0, e1, if_neg (by omega), e3]
  rw [slices_Concat_byte_byte.l0, if_pos (by omega), if_pos (by omega), if_pos (by rw [hl]; omega), r1, e2, if_neg (by omega), e4]
  rw [slices_Concat_byte_byte.l0, if_neg (by omega), hg]
  simp only [Option.bind_some]
  rw [hl]
  rw [slices_Concat_byte_byte.l1, if_pos (by omega), if_pos (by omega), if_pos (by rw [hl]; omega), r0, if_pos (by simp; omega), e3]
  rw [slices_Concat_byte_byte.l1, if_pos (by omega), if_pos (by omega), if_pos (by rw [hl]; omega), r1, if_pos (by simp; omega), e4]
  rw [slices_Concat_byte_byte.l1, if_neg (by omega)]
  simp
theorem OwnF.lt {W0 W : World} {ok : Nat → Prop} {g cap : Nat} {fs : List DF} (h : OwnF W0 W ok g cap fs) : g < W.heap.size := by
  obtain ⟨inner, how, hr⟩ := h.ex
  rcases how.2 with ⟨hv, _⟩ | ⟨g', cap', cur, hv, hg', hb, rest⟩
  · cases hv
  · simp only [Value.slice.injEq, Option.some.injEq, Addr.mk.injEq, true_and, and_true] at hv
    obtain ⟨rfl, rfl⟩ := hv
    exact blk_lt hb
theorem usedOf_ge (fs : List DF) : ∀ (es : List NE) (e : NE), e ∈ es → lenAt fs e.2 ≤ usedOf fs es
  | [], _, h => by cases h
  | x :: es, e, h => by
    have h0 := usedOf_nonneg fs es
    have h1 : 0 ≤ lenAt fs x.2 := by unfold lenAt; omega
    rw [usedOf_cons]
    rcases List.mem_cons.1 h with rfl | h
    · omega
    · have := usedOf_ge fs es e h; omega
section
variable {w w' : World} {p m k : Nat} {ok ok' : Nat → Prop} {d : DS} {vf vc vx : Value}
theorem concat2_any {W : World} {g : Nat} {a b : List Int} {Aa Ab : Option Addr} {ca cb : Nat} (hg : W.heap[g]? = some (.cells #[.slice Aa a.length ca, .slice Ab b.length cb] 22 (0, 0)))
    (ha : Kd.C (Kd.int .u8) W Aa a.length a) (hca : a.length ≤ ca) (hb : Kd.C (Kd.int .u8) W Ab b.length b) (hcb : b.length ≤ cb) (hl : a.length + b.length ≤ 1000000000000) :
    Calls Try.prog 67 #[.slice (some ⟨g, 0, none⟩) 2 2] W fun e w' => ∃ A c, e = .returned (.slice A (a ++ b).length c) ∧ (a ++ b).length ≤ c ∧ Kd.F (Kd.int .u8) w' (fun q => W.heap.size ≤ q) A (a ++ b).length (a ++ b) ∧ Below W.heap.size W w' := by
  have hC : Kd.C (Kd.slice 5 (Kd.int .u8)) W (some ⟨g, 0, none⟩) ([a, b] : List (List Int)).length [a, b] := arr_row hg (Reps.one ⟨Aa, ca, rfl, hca, ha⟩ (Reps.one ⟨Ab, cb, rfl, hcb, hb⟩ (Reps.none _ _)))
  refine (slices_Concat_byte_byte.calls 6 (some ⟨g, 0, none⟩) 2 [a, b] (a ++ b) W hC (Nat.le_refl _) (concat_ev a b hl)).mono ?_
  rintro e w' ⟨v, rfl, hR, hb⟩
  obtain ⟨A, c, rfl⟩ := Kd.R_slice hR
  have hF : Kd.F (Kd.int .u8) w' (fun q => W.heap.size ≤ q) A (a ++ b).length (a ++ b) := by
    refine Kd.F_mono (Kd.R_F (ok := fun q => W.heap.size ≤ q) ⟨fun q hq => ?_, hR.2⟩) (fun _ h => h)
    obtain ⟨inner, ho⟩ := Kd.R_own hR
    exact (ho.lt q hq).1
  exact ⟨A, c, rfl, (Kd.R_reads' hR).2.1, hF, hb⟩
theorem Refiled.grow {wc w9 : World} {g cap : Nat} (h : DW w p m (far p m) d vf vc vx k) (hr : Refiled w wc p m d vc vx k g cap) (hb : Below wc.heap.size wc w9) (i : Nat) (hi : i < d.files.length) (hl : d.files.length ≤ 1000000)
    (bs : List Int) (A : Option Addr) (c : Nat) (hc : bs.length ≤ c) (hF : Kd.F (Kd.int .u8) w9 (fun q => wc.heap.size ≤ q) A bs.length bs) :
    Stepped w p m { d with files := d.files.set i (bs, (d.files.getD i zF).2) } 0 (.returned (.int .i64 0)) (w9.setCell ⟨g, i * 2, none⟩ (.slice A bs.length c)) := by
  have hgp : g ≠ p := by have := hr.f.ge; have := h.lt; omega
  have hgm : g ≠ m := by have := hr.f.ge; have := h.n.lt; omega
  have hgl := hr.f.lt
  have hws : w.heap.size ≤ wc.heap.size := hr.k.1
  have hno : ¬ ((far p m g ∧ g < w.heap.size) ∨ wc.heap.size ≤ g) := fun hh => by have := hr.f.ge; rcases hh with hh | hh <;> omega
  have h0 : OwnF w w9 (fun q => (far p m q ∧ q < w.heap.size) ∨ wc.heap.size ≤ q) g cap d.files := hr.f.step (hb.block g hgl) (fun q _ hq => hb.block q hq) (fun _ h => .inl h)
  have h1 := h0.put0 i hi bs A c hc (Kd.F_mono hF (fun _ h => .inr h)) hno
  have h2 : Kept w (w9.setCell ⟨g, i * 2, none⟩ (.slice A bs.length c)) (fun i => i = p) := (hr.k.below hb).setCell (.inr hr.f.ge) _
  have hv := h1.v (ok' := far p m) (by rw [List.length_set]; exact hl) (fun q hq => by
    rcases hq with hq | hq
    · exact hq.1
    · have := h.lt; have := h.n.lt; exact ⟨by omega, by omega⟩) ⟨hgp, hgm⟩
  rw [List.length_set] at hv
  have hmp : m ≠ p := h.pm.symm
  exact ⟨rfl, (h.narrow.refile (ok' := far p m) ((Below.heap_setCell w9 _ _ p hgp.symm).trans ((hb.block p (blk_lt hr.b)).trans hr.b)) (h2.2 m h.n.lt hmp) (fun i hi hl => h2.2 i hl hi.1.1) (fun _ h => h.1) (fun _ h => h) hv).dk, h2.mono (fun _ h => .inl h)⟩
theorem Refiled.drew' {wc : World} {g cap : Nat} (h : Refiled w wc p m d vc vx k g cap) : Refiled w wc.drew p m d vc vx k g cap := h.drew
/-- What grow's second half has at hand. -/
theorem Refiled.reads {wc : World} {g cap : Nat} (hr : Refiled w wc p m d vc vx k g cap) (i : Nat) (hi : i < d.files.length) : ∃ A c, wc.cell? ⟨p, 2, none⟩ = some (.slice (some ⟨g, 0, none⟩) d.files.length cap) ∧ wc.cell? ⟨g, i * 2, none⟩ = some (.slice A (d.files.getD i zF).1.length c) ∧ wc.frozen? ⟨g, i * 2, none⟩ = false ∧ (d.files.getD i zF).1.length ≤ c ∧ Kd.C (Kd.int .u8) wc A (d.files.getD i zF).1.length (d.files.getD i zF).1 := by
  obtain ⟨A, c, e0, e1, f0, f1, hcc, hF⟩ := hr.f.at i hi
  exact ⟨A, c, (blk_cell hr.b 2).trans rfl, e0, f0, hcc, Kd.F_now hF⟩
theorem Refiled.after {wc w9 : World} {g cap : Nat} (hr : Refiled w wc p m d vc vx k g cap) (hb : Below wc.heap.size wc w9) (i : Nat) (hi : i < d.files.length) : w9.cell? ⟨p, 2, none⟩ = some (.slice (some ⟨g, 0, none⟩) d.files.length cap) ∧ (∃ v, w9.cell? ⟨g, i * 2, none⟩ = some v) ∧ w9.frozen? ⟨g, i * 2, none⟩ = false := by
  have h9 := hr.f.step (ok' := fun i => far p m i ∧ i < w.heap.size) (hb.block g hr.f.lt) (fun q _ hq => hb.block q hq) (fun _ h => h)
  obtain ⟨A, c, e0, e1, f0, f1, hcc, hF⟩ := h9.at i hi
  exact ⟨cell_old hb ((blk_cell hr.b 2).trans rfl), ⟨_, e0⟩, f0⟩
set_option maxHeartbeats 4000000 in
set_option maxRecDepth 100000 in
theorem grow_any (h : Dk w p m (far p m) d) (s : ByteArray) (b : List Int) (many : Nat) (Ab : Option Addr) (cb : Nat) (okb : Nat → Prop) (hb : Kd.F (Kd.int .u8) w okb Ab b.length b) (hokb : ∀ q, okb q → q ≠ p ∧ q ≠ m) (hcb : b.length ≤ cb) (hm : many ≤ b.length)
    (hn : NamesOk d.files d.names) (hl : d.files.length ≤ 1000000) (hu : used d ≤ 100000000000) (hbl : b.length ≤ 1000000000) :
    Calls Try.prog 44 #[.pointer (some ⟨p, 0, none⟩), .string s, .slice Ab b.length cb, .int .i64 many] w (Stepped w p m (grow1 d s b many).1 (grow1 d s b many).2) := by
  obtain ⟨vf, vc, vx, k, h⟩ := h.ex
  have mixed : Try.prog.follows Departure.mixedOrders = true := rfl
  have hc3 := h.c3
  have hlk : (Instr.lookup 67 (.map (some m)) (.agg #[.string s]) true).run Try.prog w = .ok (.tuple #[.int .i64 ((tget d.names s).getD 0), .bool (tget d.names s).isSome]) w := h.n.look2 s
  have HD := Aside0.mk h
  have HN := Aside0.mk hn
  have HL := Aside0.mk (And.intro hl hbl)
  have HU := Aside0.mk hu
  have HB := Aside0.mk (And.intro hb hokb)
  obtain ⟨r, hr⟩ : ∃ r, r = grow1 d s b many := ⟨_, rfl⟩
  rw [← hr]
  unfold grow1 at hr
  clear h hn hl hu hb hokb hbl
  cases ht : tget d.names s with
  | none =>
    rw [ht] at hlk hr
    simp only [Option.getD_none, Option.isSome_none] at hlk
    simp only at hr
    subst hr
    clear ht
    go_enter Try.func44, Try.ntmps44
    go_wp2_with fail
    go_ret
    exact ⟨rfl, HD.out.dk, Kept.refl _ _⟩
  | some x =>
    obtain ⟨i, rfl, hi⟩ := HN.out.at ht
    have hus : lenAt d.files (i : Int) ≤ used d := usedOf_ge d.files d.names _ (tget_mem _ _ _ ht)
    rw [ht] at hlk hr
    simp only [Option.getD_some, Option.isSome_some] at hlk
    simp only [Int.toNat_natCast] at hr
    have HUC := Aside0.mk (show Calls Try.prog 22 #[.pointer (some ⟨p, 0, none⟩)] w.drew fun e w' => e = .returned (.int .i64 (used d)) ∧ Below w.heap.size w w' from
      (used_any HD.out.drew HN.out (by have := HU.out; show used d ≤ _; omega)).mono (fun e w' ⟨he, hb⟩ => ⟨he, below_step (below_drew1 (Below.refl _ _)) hb⟩))
    obtain ⟨u, hue⟩ : ∃ u, u = used d := ⟨_, rfl⟩
    have hu0 : 0 ≤ u := by rw [hue]; exact usedOf_nonneg _ _
    have hu1 : u ≤ 100000000000 := by rw [hue]; exact HU.out
    rw [← hue] at HUC hr hus
    have HUS := Aside0.mk hus
    clear hue hus
    have hc0 := HD.out.drew.c0
    have hL := HL.out.2
    have hw : IntKind.i64.wrap (u + (b.length : Int)) = u + (b.length : Int) := i64w (by omega) (by omega)
    by_cases hq : d.quota < u + (b.length : Int)
    · rw [if_pos hq] at hr
      subst hr
      have hqd : decide (u + (b.length : Int) > d.quota) = true := decide_eq_true hq
      clear ht hq
      go_enter Try.func44, Try.ntmps44
      go_wp2_with fail
      go_region_law_o
        (first
          | (refine goes_ Try.func22 (by kernel_rfl) rfl #[.pointer (some ⟨p, 0, none⟩)] (by rfl) rfl rfl (by simp only [List.map_toArray, List.map_cons, List.map_nil]; rfl) ?_; with_reducible refine HUC.out.mono ?_; rintro e w9 ⟨rfl, hb9⟩
             have hc09 := (HD.out.below hb9).c0
             have HB9 := Aside0.mk hb9
             clear hb9
             refine ⟨_, rfl, ?_⟩))
      all_goals
        go_wp2_with fail
        go_ret
        exact ⟨rfl, (HD.out.below HB9.out).dk, Kept.of_below HB9.out _⟩
    · rw [if_neg hq] at hr
      have hqd : decide (u + (b.length : Int) > d.quota) = false := decide_eq_false hq
      have HR0 := Aside0.mk hr
      clear ht hq hr
      go_enter Try.func44, Try.ntmps44
      go_upto_region 4 with fail
      go_cut [24] (fun v wc => v = .bool false ∧ Aside0 (Below w.heap.size w wc))
      case first =>
        go_region_law_o
          (first
            | (refine goes_ Try.func22 (by kernel_rfl) rfl #[.pointer (some ⟨p, 0, none⟩)] (by rfl) rfl rfl (by simp only [List.map_toArray, List.map_cons, List.map_nil]; rfl) ?_; with_reducible refine HUC.out.mono ?_; rintro e w9 ⟨rfl, hb9⟩
               have hc09 := (HD.out.below hb9).c0
               have HB9 := Aside0.mk hb9
               clear hb9
               refine ⟨_, rfl, ?_⟩))
        all_goals
          go_wp2_with fail
          go_meet
          case rel => exact ⟨by first | rfl | (simp [hqd, hw]), HB9⟩
      case rest =>
        obtain ⟨rfl, HBc⟩ := hcut
        have hdc := HD.out.below HBc.out
        have hcl : Calls Try.prog 47 #[vf] wc fun e w9 => ∃ g cap, e = .returned (.slice (some ⟨g, 0, none⟩) d.files.length cap) ∧ OwnF wc w9 (fun i => far p m i ∧ i < wc.heap.size) g cap d.files ∧ Below wc.heap.size wc w9 := fclone_any (V_narrow hdc.f) (by omega) HL.out.1
        have HCL := Aside0.mk hcl
        have hc2c := hdc.c2
        have HDc := Aside0.mk hdc
        clear hdc hcl hc0 hc3 hlk
        go_upto_region 7 with (go_at_call 47; refine HCL.out.mono ?_; rintro e w9 ⟨g, cap, rfl, ho9, hb9⟩
                               have hd9 := HDc.out.below hb9
                               have hc29 := hd9.c2
                               have hf29 := hd9.fz 2
                               have HR9 := Aside0.mk (And.intro (Refiled.make HDc.out ho9 hb9) hb9)
                               clear ho9 hb9 hd9)
        generalize hW2 : w9.setCell ⟨p, 2, none⟩ (.slice (some ⟨g, 0, none⟩) d.files.length cap) = W2 at HR9
        have hk2 : Kept wc W2 (fun i => i = p) := HR9.out.1.k
        have HR := Aside0.mk HR9.out.1
        have hFb := Kd.F_step (Kd.F_below (Kd.F_mono HB.out.1 (fun _ h => h)) (Kept.to_below (Kept.of_below HBc.out (fun _ => False)) (fun _ h => h.elim))) (W1 := W2) (fun q hq hlt => hk2.2 q hlt (HB.out.2 q hq).1)
        clear hW2 HR9 hc29 hf29 hc2c
        obtain ⟨A, c, c2, e0, f0, hcc, hCC⟩ := HR.out.reads i hi
        have hfl : ((d.files.getD i zF).1.length : Int) ≤ 100000000000 := by have := HUS.out; unfold lenAt at this; simp only [Int.toNat_natCast] at this; omega
        obtain ⟨fb, hfb⟩ : ∃ fb, fb = (d.files.getD i zF).1 := ⟨_, rfl⟩
        rw [← hfb] at e0 hcc hCC hfl
        have HFB := Aside0.mk hfb
        clear hfb
        have hcut : ∀ W, (Instr.slice 22 (.slice Ab b.length cb) none (some (.int .i64 many)) none).run Try.prog W = .ok (.slice Ab many cb) W := fun W => by
          obtain ⟨i0, hi0, _, hsz0, _⟩ := info_parts info5
          have := cut_to (P := Try.prog) 22 5 .i64 Try.underlying22 hi0 Ab b.length cb (many : Int) (by omega) (by omega) (by omega) W
          simpa using this
        have hlen : (b.take many).length = many := by rw [List.length_take]; omega
        have hca : Calls Try.prog 67 #[.slice (some ⟨W2.heap.size, 0, none⟩) 2 2] (W2.alloc (.cells #[.slice A fb.length c, .slice Ab many cb] 22)).drew
            fun e w9 => ∃ A' c', e = .returned (.slice A' (fb ++ b.take many).length c') ∧ (fb ++ b.take many).length ≤ c' ∧ Kd.F (Kd.int .u8) w9 (fun q => W2.heap.size ≤ q) A' (fb ++ b.take many).length (fb ++ b.take many) ∧ Below W2.heap.size W2 w9 := by
          have h0 : Kd.C (Kd.int .u8) W2 Ab (b.take many).length (b.take many) := Kd.C_take (Kd.F_now hFb) hm
          have h1 := blk_new W2 (.cells #[.slice A fb.length c, .slice Ab (b.take many).length cb] 22)
          have := concat2_any (W := (W2.alloc (.cells #[.slice A fb.length c, .slice Ab (b.take many).length cb] 22)).drew) (g := W2.heap.size) (a := fb) (b := b.take many) h1 (Kd.C_drew (Kd.C_alloc hCC _)) hcc (Kd.C_drew (Kd.C_alloc h0 _)) (by omega) (by rw [hlen]; omega)
          rw [hlen] at this
          refine this.mono ?_
          rintro e w9 ⟨A', c', he, hc', hF, hb⟩
          exact ⟨A', c', he, hc', Kd.F_mono hF (fun q hq => by simp at hq; omega), below_step (below_drew1 (below_alloc (Below.refl _ _) _)) hb⟩
        obtain ⟨bs, hbs⟩ : ∃ bs, bs = fb ++ b.take many := ⟨_, rfl⟩
        rw [← hbs] at hca
        have HBS := Aside0.mk hbs
        clear hbs
        have HCA := Aside0.mk hca
        have ha2 : ∀ ob, (W2.alloc ob).cell? ⟨p, 2, none⟩ = some (.slice (some ⟨g, 0, none⟩) d.files.length cap) := fun ob => cell_old (below_alloc (Below.refl _ _) _) c2
        clear hca hCC hFb hfl hlen hk2
        go_region_law_o
          (first
            | (refine goes_ Try.func67 (by kernel_rfl) rfl #[.slice (some ⟨W2.heap.size, 0, none⟩) 2 2] (by rfl) rfl rfl (by simp only [List.map_toArray, List.map_cons, List.map_nil]; rfl) ?_; with_reducible refine HCA.out.mono ?_; rintro e w7 ⟨A', c', rfl, hc', hF7, hb7⟩
               obtain ⟨c27, ⟨v07, e07⟩, f07⟩ := HR.out.after hb7 i hi
               have HF7 := Aside0.mk (And.intro hF7 hb7)
               have HC7 := Aside0.mk hc'
               clear hF7 hb7 hc'
               refine ⟨_, rfl, ?_⟩))
        all_goals
          go_wp2_with fail
          go_ret
          rw [HR0.out]
          have hz := (Refiled.grow HDc.out HR.out HF7.out.2 i hi HL.out.1 _ A' c' HC7.out HF7.out.1).up (Kept.of_below HBc.out (mutS p m))
          unfold growF
          rw [← HFB.out, ← HBS.out]
          exact hz
end
end Go.Proofs.Ytfbpplgpmgnmjaa.P

