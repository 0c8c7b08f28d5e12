/- Texts of DiskFails. Merged: HDskI, HDskJ, HDskK. -/
import Derived.Test.YtfbpplgpmgnmjaaMDiskFails1
import Derived.BigQuiet
import Derived.Test.YtfbpplgpmgnmjaaWArr
/- slices.Clone of files; a file of a row of one's own stored to; Sync. -/
namespace Go.Proofs.Ytfbpplgpmgnmjaa.P
open Go.RowKit Go.Proofs.YtfbpplgpmgnmjaaW.PrintWords Go.Proofs.YtfbpplgpmgnmjaaW.PrintLast Go.Proofs.YtfbpplgpmgnmjaaW.PrintMore
set_option linter.unusedVariables false
set_option linter.unusedSimpArgs false
theorem own_empty (w : World) (e sz : Nat) : (w.alloc (.cells #[] e)).ownsRow w.heap.size e sz (.slice (some ⟨w.heap.size, 0, none⟩) 0 0) 0 [] :=
  ⟨by simp, .inr ⟨w.heap.size, 0, #[], rfl, Nat.le_refl _, blk_new w _, Nat.le_refl _, by decide, by simp, by simp⟩⟩
theorem cell_old {W w1 : World} (hb : Below W.heap.size W w1) {a : Addr} {v : Value} (h : W.cell? a = some v) : w1.cell? a = some v := (hb.cell (World.block_lt_of_cell? W a h)).trans h
/-- A cell of a row of one's own, stored to. -/
theorem own_put {W : World} {base e sz g n cap : Nat} {inner : List Value} (h : W.ownsRow base e sz (.slice (some ⟨g, 0, none⟩) n cap) n inner) (i : Nat) (hi : i < n * sz) (u : Value) : (W.setCell ⟨g, i, none⟩ u).ownsRow base e sz (.slice (some ⟨g, 0, none⟩) n cap) n (inner.set i u) := by
  obtain ⟨hl, h2⟩ := h
  refine ⟨by simp [hl], ?_⟩
  rcases h2 with ⟨hv, _⟩ | ⟨g', cap', cur, hv, hg, hb, h3, h4, h5, h6⟩
  · cases hv
  · simp only [Value.slice.injEq, Option.some.injEq, Addr.mk.injEq, true_and, and_true] at hv
    obtain ⟨rfl, rfl⟩ := hv
    refine .inr ⟨g, cap, cur.setIfInBounds i u, rfl, hg, blk_put hb i u rfl, h3, h4, by simpa using h5, ?_⟩
    rw [Array.toList_setIfInBounds, List.take_set, h6]
theorem own_cell {W : World} {base e sz g n cap : Nat} {inner : List Value} (h : W.ownsRow base e sz (.slice (some ⟨g, 0, none⟩) n cap) n inner) {i : Nat} {u : Value} (hi : inner[i]? = some u) : W.cell? ⟨g, i, none⟩ = some u ∧ W.frozen? ⟨g, i, none⟩ = false := by
  obtain ⟨hl, h2⟩ := h
  rcases h2 with ⟨hv, _⟩ | ⟨g', cap', cur, hv, hg, hb, h3, h4, h5, h6⟩
  · cases hv
  · simp only [Value.slice.injEq, Option.some.injEq, Addr.mk.injEq, true_and, and_true] at hv
    obtain ⟨rfl, rfl⟩ := hv
    refine ⟨?_, blk_frozen hb i⟩
    rw [blk_cell hb, ← Array.getElem?_toList]
    rw [← h6, List.getElem?_take] at hi
    split at hi
    · exact hi
    · cases hi
theorem Reps.set {α : Type} {R : α → List Value → Prop} {sz : Nat} {ps : List α} {cs : List Value} (h : Reps R sz ps cs) (i j : Nat) (hj : j < sz) (u : Value) (y : α) (hy : i < ps.length → R y (((cs.drop (i * sz)).take sz).set j u)) : Reps R sz (ps.set i y) (cs.set (i * sz + j) u) := by
  refine ⟨by simp [h.1], fun k p hk => ?_⟩
  rw [List.getElem?_set] at hk
  by_cases hik : i = k
  · subst hik
    rw [if_pos rfl] at hk
    split at hk
    · rename_i hlt
      obtain rfl := Option.some.inj hk
      have e1 : ((cs.set (i * sz + j) u).drop (i * sz)).take sz = ((cs.drop (i * sz)).take sz).set j u := by
        rw [List.drop_set, if_neg (by omega), List.take_set]
        congr 1; omega
      rw [e1]; exact hy hlt
    · cases hk
  · rw [if_neg hik] at hk
    have e1 : ((cs.set (i * sz + j) u).drop (k * sz)).take sz = (cs.drop (k * sz)).take sz := by
      rw [List.drop_set]
      rcases Nat.lt_or_gt_of_ne hik with hlt | hgt
      · have : (i + 1) * sz ≤ k * sz := Nat.mul_le_mul_right _ hlt
        rw [Nat.add_mul, Nat.one_mul] at this
        rw [if_pos (by omega)]
      · have : (k + 1) * sz ≤ i * sz := Nat.mul_le_mul_right _ hgt
        rw [Nat.add_mul, Nat.one_mul] at this
        rw [if_neg (by omega), List.take_set, List.set_eq_of_length_le (by rw [List.length_take]; omega)]
    rw [e1]
    exact h.2 k p hk
section
variable {w w' : World} {p m k : Nat} {ok ok' : Nat → Prop} {d : DS} {vf vc vx : Value}
/-- Files of one's own: a row laid since W0, whose files' bytes lie still. -/
structure OwnF (W0 W : World) (ok : Nat → Prop) (g cap : Nat) (fs : List DF) : Prop where
  ge : W0.heap.size ≤ g
  ex : ∃ inner, W.ownsRow W0.heap.size 78 2 (.slice (some ⟨g, 0, none⟩) fs.length cap) fs.length inner ∧ Reps (fun x cs => Kd.FK kF W ok x cs) 2 fs inner
theorem OwnF.at {W0 W : World} {g cap : Nat} {fs : List DF} (h : OwnF W0 W ok g cap fs) (i : Nat) (hi : i < fs.length) : ∃ A c, W.cell? ⟨g, i * 2, none⟩ = some (.slice A (fs.getD i zF).1.length c) ∧ W.cell? ⟨g, i * 2 + 1, none⟩ = some (.int .i64 (fs.getD i zF).2) ∧ W.frozen? ⟨g, i * 2, none⟩ = false ∧ W.frozen? ⟨g, i * 2 + 1, none⟩ = false ∧ (fs.getD i zF).1.length ≤ c ∧ Kd.F (Kd.int .u8) W ok A (fs.getD i zF).1.length (fs.getD i zF).1 := by
  obtain ⟨inner, ho, hr⟩ := h.ex
  have hx : fs[i]? = some (fs.getD i zF) := by simp [List.getD, hi]
  obtain ⟨A, c, he, hc, hF⟩ := kF_open (hr.2 i _ hx)
  have e0 : inner[i * 2]? = some (.slice A (fs.getD i zF).1.length c) := by
    have := congrArg (fun l => l[0]?) he
    simpa [List.getElem?_take, List.getElem?_drop] using this
  have e1 : inner[i * 2 + 1]? = some (.int .i64 (fs.getD i zF).2) := by
    have := congrArg (fun l => l[1]?) he
    simpa [List.getElem?_take, List.getElem?_drop] using this
  exact ⟨A, c, (own_cell ho e0).1, (own_cell ho e1).1, (own_cell ho e0).2, (own_cell ho e1).2, hc, hF⟩
/-- Behind a store elsewhere. -/
theorem OwnF.step {W0 W W2 : World} {g cap : Nat} {fs : List DF} (h : OwnF W0 W ok g cap fs) (hg : W2.heap[g]? = W.heap[g]?) (hs : ∀ i, ok i → i < W.heap.size → W2.heap[i]? = W.heap[i]?) (ho : ∀ i, ok i → ok' i) : OwnF W0 W2 ok' g cap fs := by
  obtain ⟨inner, how, hr⟩ := h.ex
  refine ⟨h.ge, inner, ⟨how.1, ?_⟩, reps_step hr hs ho⟩
  rcases how.2 with hh | ⟨g', cap', cur, hv, hg', hb, rest⟩
  · exact .inl hh
  · simp only [Value.slice.injEq, Option.some.injEq, Addr.mk.injEq, true_and, and_true] at hv
    obtain ⟨rfl, rfl⟩ := hv
    exact .inr ⟨g, cap, cur, rfl, hg', hg.trans hb, rest⟩
/-- A file's safe bytes stored. -/
theorem OwnF.put1 {W0 W : World} {g cap : Nat} {fs : List DF} (h : OwnF W0 W ok g cap fs) (i : Nat) (hi : i < fs.length) (s : Int) (hno : ¬ ok g) : OwnF W0 (W.setCell ⟨g, i * 2 + 1, none⟩ (.int .i64 s)) ok g cap (fs.set i ((fs.getD i zF).1, s)) := by
  obtain ⟨inner, ho, hr⟩ := h.ex
  have hx : fs[i]? = some (fs.getD i zF) := by simp [List.getD, hi]
  have h1 := own_put ho (i * 2 + 1) (by omega) (.int .i64 s)
  have hs : ∀ q, ok q → q < W.heap.size → (W.setCell ⟨g, i * 2 + 1, none⟩ (.int .i64 s)).heap[q]? = W.heap[q]? := fun q hq _ => Below.heap_setCell W _ _ q (fun e => hno ((show q = g from e) ▸ hq))
  have hr' := reps_step hr hs (fun _ h => h)
  refine ⟨h.ge, _, by simpa using h1, Reps.set hr' i 1 (by omega) _ _ (fun _ => ?_)⟩
  obtain ⟨A, c, he, hc, hF⟩ := kF_open (hr'.2 i _ hx)
  rw [he]
  exact kF_mk (x := ((fs.getD i zF).1, s)) hc hF
/-- A file's bytes stored. -/
theorem OwnF.put0 {W0 W : World} {g cap : Nat} {fs : List DF} (h : OwnF W0 W ok g cap fs) (i : Nat) (hi : i < fs.length) (bs : List Int) (A : Option Addr) (c : Nat) (hc : bs.length ≤ c) (hF : Kd.F (Kd.int .u8) W ok A bs.length bs) (hno : ¬ ok g) : OwnF W0 (W.setCell ⟨g, i * 2, none⟩ (.slice A bs.length c)) ok g cap (fs.set i (bs, (fs.getD i zF).2)) := by
  obtain ⟨inner, ho, hr⟩ := h.ex
  have hx : fs[i]? = some (fs.getD i zF) := by simp [List.getD, hi]
  have h1 := own_put ho (i * 2) (by omega) (.slice A bs.length c)
  have hs : ∀ q, ok q → q < W.heap.size → (W.setCell ⟨g, i * 2, none⟩ (.slice A bs.length c)).heap[q]? = W.heap[q]? := fun q hq _ => Below.heap_setCell W _ _ q (fun e => hno ((show q = g from e) ▸ hq))
  have hr' := reps_step hr hs (fun _ h => h)
  have hFV : Kd.F (Kd.int .u8) (W.setCell ⟨g, i * 2, none⟩ (.slice A bs.length c)) ok A bs.length bs := Kd.F_step hF hs
  refine ⟨h.ge, _, by simpa using h1, Reps.set hr' i 0 (by omega) _ _ (fun _ => ?_)⟩
  obtain ⟨A2, c2, he, hc2, hF2⟩ := kF_open (hr'.2 i _ hx)
  rw [he]
  exact kF_mk (x := (bs, (fs.getD i zF).2)) hc hFV
/-- Told as files that lie still. -/
theorem OwnF.v {W0 W : World} {g cap : Nat} {fs : List DF} (h : OwnF W0 W ok g cap fs) (hn : fs.length ≤ 1000000) (ho : ∀ i, ok i → ok' i) (hg : ok' g) : Kd.V kF 78 W 0 ok' (.slice (some ⟨g, 0, none⟩) fs.length cap) fs := by
  obtain ⟨inner, how, hr⟩ := h.ex
  have : W.ownsRow W0.heap.size 78 kF.sz (.slice (some ⟨g, 0, none⟩) fs.length cap) fs.length inner := how
  exact V_own this rfl (by omega) (fun k hk => by simp [Value.ownBlock] at hk; exact hk ▸ hg) (reps_step hr (fun _ _ _ => rfl) ho)
set_option maxHeartbeats 4000000 in
set_option maxRecDepth 100000 in
theorem fclone_any {v : Value} {fs : List DF} (h : Kd.V kF 78 w 0 ok v fs) (hn : 0 < fs.length) (hl : fs.length ≤ 1000000) :
    Calls Try.prog 47 #[v] w fun e w' => ∃ g cap, e = .returned (.slice (some ⟨g, 0, none⟩) fs.length cap) ∧ OwnF w w' ok g cap fs ∧ Below w.heap.size w w' := by
  obtain ⟨A, c, inner, rfl, hc, hr, hcell, hnil⟩ := V_cells h
  cases A with
  | none => rw [hnil rfl] at hn; simp at hn
  | some ad =>
    obtain ⟨i0, hi, hz0, hz1, hz2⟩ := info_parts infoF
    have hqn : ∀ (w : World) (a : Option Addr) (n c n' c' : Nat), (binOp .eql 68 (.slice a n c) (.slice none n' c')).run Try.prog w = .ok (.bool a.isNone) w := fun w a n c n' c' => Lib.run_eql_slice_nil w _ _ a n c n' c' Try.underlying68
    have hnew : ∀ j u, inner[j]? = some u → (w.alloc (.cells #[] 78)).cell? (ad.add j) = some u := fun j u hu => cell_old (below_alloc (Below.refl _ _) _) (hcell ad rfl j u hu)
    have hone : ∀ u ∈ inner, u.oneCell' = true := Kd.reps_one hr (by decide) (fun p c hp => kF.K_one (Kd.FK_now hp))
    have hlen : inner.length = fs.length * 2 := hr.1
    have HR := Aside0.mk hr
    have HN := Aside0.mk hnew
    have H1 := Aside0.mk hone
    clear h hr hcell hnil hnew hone
    go_enter Try.func47, Try.ntmps47
    go_wp2_with (at_builtin; refine wpList_append_own _ rfl _ _ 68 rfl w.heap.size 78 i0 (.agg #[.slice none 0 0, .int .i64 0]) 2 32 Try.underlying68 hi hz0 hz1 hz2 rfl (by decide) _ _ _ rfl (own_empty w _ _) ad fs.length c inner rfl hlen HN.out H1.out (by unfold maxLen; omega) (by omega) (by simp) ?_; intro v' w3 hown' hgrow3 hnil3
                 have HO := Aside0.mk hown'
                 have HG := Aside0.mk hgrow3
                 clear hown' hgrow3 hnil3)
    go_ret
    have hb : Below w.heap.size w w3 := (below_alloc (Below.refl _ _) _).grown HG.out (by simp) (fun k e => Nat.le_of_eq (Option.some.inj e))
    have ho := HO.out
    rw [Nat.zero_add, List.nil_append] at ho
    rcases ho.2 with ⟨_, h0⟩ | ⟨g, cap, cur, hv, hg, rest⟩
    · omega
    · subst hv
      exact ⟨g, cap, rfl, ⟨hg, inner, ho, reps_step HR.out (fun i _ hi => hb.block i hi) (fun _ h => h)⟩, hb⟩
end
end Go.Proofs.Ytfbpplgpmgnmjaa.P

/- Sync: what its step does. -/
namespace Go.Proofs.Ytfbpplgpmgnmjaa.P
open Go.RowKit Go.Proofs.YtfbpplgpmgnmjaaW.PrintWords Go.Proofs.YtfbpplgpmgnmjaaW.PrintLast Go.Proofs.YtfbpplgpmgnmjaaW.PrintMore
set_option linter.unusedVariables false
set_option linter.unusedSimpArgs false
def syncF (fs : List DF) (i : Nat) : List DF := fs.set i ((fs.getD i zF).1, ((fs.getD i zF).1.length : Int))
def sync1 (d : DS) (s : ByteArray) : DS × Int := match tget d.names s with
  | none => (d, 30)
  | some x => ({ d with files := syncF d.files x.toNat }, 0)
/-- The names lead to files that there are. -/
def NamesOk (fs : List DF) (es : List NE) : Prop := ∀ e ∈ es, 0 ≤ e.2 ∧ e.2 < fs.length
theorem tget_mem : ∀ (es : List NE) (a : ByteArray) (v : Int), tget es a = some v → (a, v) ∈ es
  | [], _, _, h => by simp [tget] at h
  | e :: es, a, v, h => by
    unfold tget at h
    split at h
    · rename_i hc
      obtain rfl := Option.some.inj h
      subst hc
      exact List.mem_cons_self ..
    · exact List.mem_cons_of_mem _ (tget_mem es a v h)
theorem NamesOk.at {fs : List DF} {es : List NE} (h : NamesOk fs es) {a : ByteArray} {v : Int} (ht : tget es a = some v) : ∃ i : Nat, v = (i : Int) ∧ i < fs.length := by
  have := h _ (tget_mem es a v ht)
  simp only at this
  exact ⟨v.toNat, by omega, by omega⟩
section
variable {w w' : World} {p m k : Nat} {ok ok' : Nat → Prop} {d : DS} {vf vc vx : Value}
theorem V_narrow {α : Type} {kd : Kd α} {e b : Nat} {W : World} {v : Value} {xs : List α} (h : Kd.V kd e W b ok v xs) : Kd.V kd e W b (fun i => ok i ∧ i < W.heap.size) v xs := by
  obtain ⟨A, c, hv, hc, hF⟩ := h
  exact ⟨A, c, hv, hc, fun W' hW => hF W' (fun k hk hl => hW k ⟨hk, hl⟩ hl)⟩
theorem DW.narrow (h : DW w p m ok d vf vc vx k) : DW w p m (fun i => ok i ∧ i < w.heap.size) d vf vc vx k :=
  ⟨h.b, h.n, h.kp, ⟨h.okk, h.kp.lt⟩, V_narrow h.f, V_narrow h.c, V_narrow h.x, fun k hk => h.ne k hk.1⟩
theorem DW.refile (h : DW w p m ok d vf vc vx k) {w2 : World} {vf' : Value} {fs' : List DF} (hb : w2.heap[p]? = some (.cells (cellsD d vf' vc vx m k) 71 (0, 0)))
    (hm : w2.heap[m]? = w.heap[m]?) (hs : ∀ i, ok i → i < w.heap.size → w2.heap[i]? = w.heap[i]?) (ho : ∀ i, ok i → ok' i) (hne : ∀ k, ok' k → k ≠ p ∧ k ≠ m)
    (hf : Kd.V kF 78 w2 0 ok' vf' fs') : DW w2 p m ok' { d with files := fs' } vf' vc vx k :=
  ⟨hb, h.n.same hm, h.kp.same (hs _ h.okk h.kp.lt), ho _ h.okk, hf, Kd.V_mono (Kd.V_step h.c hs) ho, Kd.V_mono (Kd.V_step h.x hs) ho, hne⟩
/-- Behind slices.Clone of the files, stored: the disk's files are a row of their own. -/
structure Refiled (w wc : World) (p m : Nat) (d : DS) (vc vx : Value) (k g cap : Nat) : Prop where
  f : OwnF w wc (fun i => far p m i ∧ i < w.heap.size) g cap d.files
  b : wc.heap[p]? = some (.cells (cellsD d (.slice (some ⟨g, 0, none⟩) d.files.length cap) vc vx m k) 71 (0, 0))
  k : Kept w wc (fun i => i = p)
theorem Refiled.make {w9 : World} {g cap : Nat} (h : DW w p m (far p m) d vf vc vx k) (h9 : OwnF w w9 (fun i => far p m i ∧ i < w.heap.size) g cap d.files) (hb : Below w.heap.size w w9) :
    Refiled w (w9.setCell ⟨p, 2, none⟩ (.slice (some ⟨g, 0, none⟩) d.files.length cap)) p m d vc vx k g cap := by
  have hg : g ≠ p := by have := h9.ge; have := h.lt; omega
  have hb9 := (hb.block p h.lt).trans h.b
  refine ⟨h9.step (Below.heap_setCell w9 _ _ g hg) (fun i hi _ => Below.heap_setCell w9 _ _ i hi.1.1) (fun _ h => h), blk_put hb9 2 _ (by simp [cellsD]), ?_⟩
  exact (Kept.of_below hb (fun i => i = p)).setCell (.inl rfl) _
theorem Refiled.arm {w9 : World} {g cap bd : Nat} (h : DW w p m (far p m) d vf vc vx k) (hd : w.heap[bd]? = some (.cells #[.pointer (some ⟨p, 0, none⟩)] 24 (0, 0))) (hb1 : bd ≠ p) (h9 : OwnF w w9 (fun i => far p m i ∧ i < w.heap.size) g cap d.files) (hb : Below w.heap.size w w9) :
    w9.cell? ⟨bd, 0, none⟩ = some (.pointer (some ⟨p, 0, none⟩)) ∧ w9.cell? ⟨p, 2, none⟩ = some vf ∧ w9.frozen? ⟨p, 2, none⟩ = false ∧
    (Refiled w (w9.setCell ⟨p, 2, none⟩ (.slice (some ⟨g, 0, none⟩) d.files.length cap)) p m d vc vx k g cap ∧ (w9.setCell ⟨p, 2, none⟩ (.slice (some ⟨g, 0, none⟩) d.files.length cap)).heap[bd]? = some (.cells #[.pointer (some ⟨p, 0, none⟩)] 24 (0, 0))) := by
  have hbd := blk_below hd hb
  have h2 := h.below hb
  exact ⟨(blk_cell hbd 0).trans rfl, h2.c2, h2.fz 2, Refiled.make h h9 hb, (Below.heap_setCell w9 _ _ bd hb1).trans hbd⟩
theorem Refiled.drew {wc : World} {g cap : Nat} (h : Refiled w wc p m d vc vx k g cap) : Refiled w wc.drew p m d vc vx k g cap := ⟨⟨h.f.ge, h.f.ex⟩, h.b, h.k.drew⟩
theorem Refiled.sync {wc : World} {g cap : Nat} (h : DW w p m (far p m) d vf vc vx k) (hr : Refiled w wc p m d vc vx k g cap) (i : Nat) (hi : i < d.files.length) (hl : d.files.length ≤ 1000000) :
    Stepped w p m { d with files := syncF d.files i } 0 (.returned (.int .i64 0)) (wc.setCell ⟨g, i * 2 + 1, none⟩ (.int .i64 ((d.files.getD i zF).1.length : Nat))) := by
  have hgp : g ≠ p := by have := hr.f.ge; have := h.lt; omega
  have hgm : g ≠ m := by have := hr.f.ge; have := h.n.lt; omega
  have hno : ¬ (far p m g ∧ g < w.heap.size) := fun hh => by have := hr.f.ge; omega
  have h1 := hr.f.put1 i hi ((d.files.getD i zF).1.length : Nat) hno
  have h2 : Kept w (wc.setCell ⟨g, i * 2 + 1, none⟩ (.int .i64 ((d.files.getD i zF).1.length : Nat))) (fun i => i = p) := hr.k.setCell (.inr hr.f.ge) _
  have hlen : (syncF d.files i).length = d.files.length := by simp [syncF]
  have hv := h1.v (ok' := far p m) (by rw [List.length_set]; exact hl) (fun _ h => h.1) ⟨hgp, hgm⟩
  rw [List.length_set] at hv
  have hmp : m ≠ p := h.pm.symm
  exact ⟨rfl, (h.narrow.refile (ok' := far p m) ((Below.heap_setCell wc _ _ p hgp.symm).trans hr.b) (h2.2 m h.n.lt hmp) (fun i hi hl => h2.2 i hl hi.1.1) (fun _ h => h.1) (fun _ h => h) hv).dk, h2.mono (fun _ h => .inl h)⟩
set_option maxHeartbeats 4000000 in
set_option maxRecDepth 100000 in
theorem sync1_any (h : Dk w p m (far p m) d) (bd bs : Nat) (s : ByteArray) (hd : w.heap[bd]? = some (.cells #[.pointer (some ⟨p, 0, none⟩)] 24 (0, 0))) (hs : w.heap[bs]? = some (.cells #[.string s] 9 (0, 0)))
    (hbp : bd ≠ p ∧ bd ≠ m ∧ bs ≠ p ∧ bs ≠ m) (hn : NamesOk d.files d.names) (hl : d.files.length ≤ 1000000) :
    Calls Try.prog 46 #[.pointer (some ⟨bd, 0, none⟩), .pointer (some ⟨bs, 0, none⟩)] w (Stepped w p m (sync1 d s).1 (sync1 d s).2) := by
  obtain ⟨vf, vc, vx, k, h⟩ := h.ex
  have mixed : Try.prog.follows Departure.mixedOrders = true := rfl
  have hc3 := h.c3
  have hcd : w.cell? ⟨bd, 0, none⟩ = some (.pointer (some ⟨p, 0, none⟩)) := (blk_cell hd 0).trans rfl
  have hcs : w.cell? ⟨bs, 0, none⟩ = some (.string s) := (blk_cell hs 0).trans rfl
  have hlk : (Instr.lookup 67 (.map (some m)) (.agg #[.string s]) true).run Try.prog w.drew = .ok (.tuple #[.int .i64 ((tget d.names s).getD 0), .bool (tget d.names s).isSome]) w.drew := h.drew.n.look2 s
  have HD := Aside0.mk h
  have Hd := Aside0.mk hd
  have hb1 := hbp.1
  have HN := Aside0.mk hn
  have HL := Aside0.mk hl
  obtain ⟨r, hr⟩ : ∃ r, r = sync1 d s := ⟨_, rfl⟩
  rw [← hr]
  unfold sync1 at hr
  clear h hd hs hbp hn hl
  cases ht : tget d.names s with
  | none =>
    rw [ht] at hlk hr
    simp only [Option.getD_none, Option.isSome_none] at hlk
    simp only at hr
    subst hr
    clear ht
    go_enter Try.func46, Try.ntmps46
    go_wp2_with fail
    go_big_region_o
    go_wp2_with fail
    go_ret
    exact ⟨rfl, HD.out.drew.dk, (Kept.refl w _).drew⟩
  | some x =>
    obtain ⟨i, rfl, hi⟩ := HN.out.at ht
    rw [ht] at hlk hr
    simp only [Option.getD_some, Option.isSome_some] at hlk
    simp only [Int.toNat_natCast] at hr
    subst hr
    clear ht
    go_enter Try.func46, Try.ntmps46
    go_wp2_with fail
    go_big_region_o
    go_upto_region 4 with fail
    have hc2 := HD.out.drew.c2
    have hf2 := HD.out.fz 2
    have hcl : Calls Try.prog 47 #[vf] w.drew.drew fun e w9 => ∃ g cap, e = .returned (.slice (some ⟨g, 0, none⟩) d.files.length cap) ∧ OwnF w w9 (fun i => far p m i ∧ i < w.heap.size) g cap d.files ∧ Below w.heap.size w w9 :=
      (fclone_any (V_narrow HD.out.drew.drew.f) (by omega) HL.out).mono (fun e w9 ⟨g, cap, he, ho, hb⟩ => ⟨g, cap, he, ⟨ho.ge, ho.ex⟩, below_step (below_drew1 (below_drew1 (Below.refl _ _))) hb⟩)
    have HCL := Aside0.mk hcl
    clear hlk hcl
    go_cut [] (fun wc => Aside0 (∃ g cap, Refiled w wc p m d vc vx k g cap ∧ wc.heap[bd]? = some (.cells #[.pointer (some ⟨p, 0, none⟩)] 24 (0, 0))))
    case first =>
      go_region_law_o
        (first
          | (refine goes_ Try.func47 (by kernel_rfl) rfl #[vf] (by rfl) rfl rfl (by simp only [List.map_toArray, List.map_cons, List.map_nil]; rfl) ?_; with_reducible refine HCL.out.mono ?_; rintro e w9 ⟨g, cap, rfl, ho9, hb9⟩
             obtain ⟨hcd9, hc29, hf29, hr9⟩ := Refiled.arm HD.out Hd.out hb1 ho9 hb9
             have HR9 := Aside0.mk hr9
             clear ho9 hb9 hr9
             refine ⟨_, rfl, ?_⟩))
      all_goals
        go_wp2_with fail
        go_meet
        case rel => exact ⟨⟨g, cap, HR9.out.1, HR9.out.2⟩⟩
    case rest =>
      obtain ⟨⟨g, cap, hr, hbd⟩⟩ := hcut
      obtain ⟨A, c, e0, e1, f0, f1, hcc, _⟩ := hr.f.at i hi
      obtain ⟨L, hL⟩ : ∃ L, L = (d.files.getD i zF).1.length := ⟨_, rfl⟩
      rw [← hL] at e0 hcc
      have HL2 := Aside0.mk hL
      generalize (d.files.getD i zF).2 = S at e1
      clear hL
      have hcd5 : wc.cell? ⟨bd, 0, none⟩ = some (.pointer (some ⟨p, 0, none⟩)) := (blk_cell hbd 0).trans rfl
      have hc25 : wc.cell? ⟨p, 2, none⟩ = some (.slice (some ⟨g, 0, none⟩) d.files.length cap) := (blk_cell hr.b 2).trans rfl
      have HR := Aside0.mk hr
      clear hr hbd hc2 hf2 hc3 hcd hcs
      go_wp2_with fail
      go_big_region_o
      go_wp2_with fail
      go_ret
      obtain rfl := HL2.out
      exact Refiled.sync HD.out HR.out.drew i hi HL.out
end
end Go.Proofs.Ytfbpplgpmgnmjaa.P

/- Remove, Rename: what their steps do. -/
namespace Go.Proofs.Ytfbpplgpmgnmjaa.P
open Go.RowKit Go.Proofs.YtfbpplgpmgnmjaaW.PrintWords Go.Proofs.YtfbpplgpmgnmjaaW.PrintLast Go.Proofs.YtfbpplgpmgnmjaaW.PrintMore
set_option linter.unusedVariables false
set_option linter.unusedSimpArgs false
def remove1 (d : DS) (s : ByteArray) : DS × Int := match tget d.names s with
  | none => (d, 30)
  | some _ => (d.turn (s, noName, 0), 0)
def rename1 (d : DS) (s t : ByteArray) : DS × Int := if may t = false then (d, 1) else match tget d.names s with
  | none => (d, 30)
  | some x => (d.turn (s, t, x), 0)
section
variable {w w' : World} {p m k : Nat} {ok ok' : Nat → Prop} {d : DS} {vf vc vx : Value}
theorem DW.cellfar (h : DW w p m ok d vf vc vx k) (a : Addr) (u : Value) (hp : p ≠ a.block) (hm : m ≠ a.block) (ho : ∀ i, ok i → i ≠ a.block) : DW (w.setCell a u) p m ok d vf vc vx k :=
  h.step (Below.heap_setCell w a u p hp) (Below.heap_setCell w a u m hm) (fun i hi _ => Below.heap_setCell w a u i (ho i hi))
set_option maxHeartbeats 4000000 in
set_option maxRecDepth 100000 in
theorem remove1_any (h : Dk w p m (far p m) d) (bd bs : Nat) (s : ByteArray) (hd : w.heap[bd]? = some (.cells #[.pointer (some ⟨p, 0, none⟩)] 24 (0, 0))) (hs : w.heap[bs]? = some (.cells #[.string s] 9 (0, 0)))
    (hl : d.changes.length ≤ 1000000) :
    Calls Try.prog 53 #[.pointer (some ⟨bs, 0, none⟩), .pointer (some ⟨bd, 0, none⟩)] w (Stepped w p m (remove1 d s).1 (remove1 d s).2) := by
  obtain ⟨vf, vc, vx, k, h⟩ := h.ex
  have mixed : Try.prog.follows Departure.mixedOrders = true := rfl
  have hcs : w.cell? ⟨bs, 0, none⟩ = some (.string s) := (blk_cell hs 0).trans rfl
  have HD := Aside0.mk h
  have Hd := Aside0.mk hd
  have HL := Aside0.mk hl
  obtain ⟨w1, hw1⟩ : ∃ w1, w1 = w.alloc (.cells #[.string s] 73) := ⟨_, rfl⟩
  have h1 : DW w1 p m (far p m) d vf vc vx k := by rw [hw1]; exact h.alloc _
  have k1 : Kept w w1 (mutS p m) := by rw [hw1]; exact (Kept.refl w _).alloc _
  have hd1 : w1.cell? ⟨bd, 0, none⟩ = some (.pointer (some ⟨p, 0, none⟩)) := by rw [hw1]; exact (blk_cell (blk_alloc hd _) 0).trans rfl
  have hn1 : w1.cell? ⟨w.heap.size, 0, none⟩ = some (.string s) := by rw [hw1]; exact (blk_cell (blk_new w _) 0).trans rfl
  have hc3 := h1.c3
  have hlk : (Instr.lookup 67 (.map (some m)) (.agg #[.string s]) true).run Try.prog w1.drew = .ok (.tuple #[.int .i64 ((tget d.names s).getD 0), .bool (tget d.names s).isSome]) w1.drew := h1.drew.n.look2 s
  have H1 := Aside0.mk (And.intro h1 k1)
  have HW1 := Aside0.mk hw1
  clear h h1 k1 hd hs hl hw1
  obtain ⟨r, hr⟩ : ∃ r, r = remove1 d s := ⟨_, rfl⟩
  rw [← hr]
  unfold remove1 at hr
  cases ht : tget d.names s with
  | none =>
    rw [ht] at hlk hr
    simp only [Option.getD_none, Option.isSome_none] at hlk
    simp only at hr
    subst hr
    clear ht
    go_enter Try.func53, Try.ntmps53
    go_wp2_with fail
    rw [← HW1.out]
    go_big_region_o
    go_wp2_with fail
    go_ret
    exact ⟨rfl, H1.out.1.drew.dk, H1.out.2.drew⟩
  | some x =>
    rw [ht] at hlk hr
    simp only [Option.getD_some, Option.isSome_some] at hlk
    simp only at hr
    have HR := Aside0.mk hr
    clear ht hr
    go_enter Try.func53, Try.ntmps53
    go_wp2_with fail
    rw [← HW1.out]
    go_big_region_o
    go_wp2_with (go_at_call 41; refine (turn_any H1.out.1.drew (s, (⟨#[]⟩ : ByteArray), 0) HL.out).mono ?_; rintro e w9 ⟨rfl, ⟨vc9, hd9⟩, hk9⟩
                 have HD9 := Aside0.mk hd9.dk
                 have HK9 := Aside0.mk (H1.out.2.drew.then_ hk9 (fun _ h => .inl h))
                 clear hd9 hk9)
    go_ret
    rw [HR.out]
    exact ⟨rfl, HD9.out, HK9.out⟩
set_option maxHeartbeats 4000000 in
set_option maxRecDepth 100000 in
theorem rename1_any (h : Dk w p m (far p m) d) (bd bs bt : Nat) (s t : ByteArray) (hd : w.heap[bd]? = some (.cells #[.pointer (some ⟨p, 0, none⟩)] 24 (0, 0))) (hs : w.heap[bs]? = some (.cells #[.string s] 9 (0, 0))) (ht_ : w.heap[bt]? = some (.cells #[.string t] 9 (0, 0)))
    (hl : d.changes.length ≤ 1000000) :
    Calls Try.prog 54 #[.pointer (some ⟨bs, 0, none⟩), .pointer (some ⟨bt, 0, none⟩), .pointer (some ⟨bd, 0, none⟩)] w (Stepped w p m (rename1 d s t).1 (rename1 d s t).2) := by
  obtain ⟨vf, vc, vx, k, h⟩ := h.ex
  have mixed : Try.prog.follows Departure.mixedOrders = true := rfl
  have hcs : w.cell? ⟨bs, 0, none⟩ = some (.string s) := (blk_cell hs 0).trans rfl
  have hct : w.cell? ⟨bt, 0, none⟩ = some (.string t) := (blk_cell ht_ 0).trans rfl
  have HD := Aside0.mk h
  have HL := Aside0.mk hl
  obtain ⟨w1, hw1⟩ : ∃ w1, w1 = w.alloc (.cells #[.string s, .string t, .int .i64 0] 81) := ⟨_, rfl⟩
  have h1 : DW w1 p m (fun i => far p m i ∧ i < w.heap.size) d vf vc vx k := by rw [hw1]; exact h.narrow.alloc _
  have k1 : Kept w w1 (mutS p m) := by rw [hw1]; exact (Kept.refl w _).alloc _
  have hbd1 : w1.heap[bd]? = some (.cells #[.pointer (some ⟨p, 0, none⟩)] 24 (0, 0)) := by rw [hw1]; exact blk_alloc hd _
  have hbn1 : w1.heap[w.heap.size]? = some (.cells #[.string s, .string t, .int .i64 0] 81 (0, 0)) := by rw [hw1]; exact blk_new w _
  have hd1 : w1.cell? ⟨bd, 0, none⟩ = some (.pointer (some ⟨p, 0, none⟩)) := (blk_cell hbd1 0).trans rfl
  have hn1 : w1.cell? ⟨w.heap.size, 0, none⟩ = some (.string s) := (blk_cell hbn1 0).trans rfl
  have hn2 : w1.cell? ⟨w.heap.size, 1, none⟩ = some (.string t) := (blk_cell hbn1 1).trans rfl
  have hc3 := h1.c3
  have hlk : (Instr.lookup 67 (.map (some m)) (.agg #[.string s]) true).run Try.prog w1.drew = .ok (.tuple #[.int .i64 ((tget d.names s).getD 0), .bool (tget d.names s).isSome]) w1.drew := h1.drew.n.look2 s
  have H1 := Aside0.mk (And.intro h1 k1)
  have HW1 := Aside0.mk hw1
  have HB1 := Aside0.mk (And.intro hbd1 hbn1)
  have hne : bd ≠ w.heap.size := Nat.ne_of_lt (blk_lt hd)
  clear h h1 k1 hd hs ht_ hl hw1 hbd1 hbn1
  obtain ⟨r, hr⟩ : ∃ r, r = rename1 d s t := ⟨_, rfl⟩
  rw [← hr]
  unfold rename1 at hr
  cases hmy : may t with
  | false =>
    rw [if_pos hmy] at hr
    subst hr
    have hmay : ∀ W, Calls Try.prog 39 #[.agg #[.string t]] W fun e w' => e = .returned (.bool false) ∧ Below W.heap.size W w' := fun W => by rw [← hmy]; exact may_any t W
    clear hmy
    go_enter Try.func54, Try.ntmps54
    go_wp2_with fail
    rw [← HW1.out]
    go_big_region_o
    go_wp2_with (go_at_call 39; refine (hmay _).mono ?_; rintro e w2 ⟨rfl, hb⟩; have HB := Aside0.mk hb; clear hb)
    go_ret
    exact ⟨rfl, (H1.out.1.drew.below HB.out).wide.dk, H1.out.2.drew.below HB.out⟩
  | true =>
    rw [if_neg (by rw [hmy]; simp)] at hr
    have hmay : ∀ W, Calls Try.prog 39 #[.agg #[.string t]] W fun e w' => e = .returned (.bool true) ∧ Below W.heap.size W w' := fun W => by rw [← hmy]; exact may_any t W
    clear hmy
    cases ht : tget d.names s with
    | none =>
      rw [ht] at hlk hr
      simp only [Option.getD_none, Option.isSome_none] at hlk
      simp only at hr
      subst hr
      clear ht
      go_enter Try.func54, Try.ntmps54
      go_wp2_with fail
      rw [← HW1.out]
      go_big_region_o
      go_wp2_with (go_at_call 39; refine (hmay _).mono ?_; rintro e w2 ⟨rfl, hb⟩; have HB := Aside0.mk hb; clear hb)
      go_ret
      exact ⟨rfl, (H1.out.1.drew.below HB.out).wide.dk, H1.out.2.drew.below HB.out⟩
    | some x =>
      rw [ht] at hlk hr
      simp only [Option.getD_some, Option.isSome_some] at hlk
      simp only at hr
      have HR := Aside0.mk hr
      clear ht hr
      go_enter Try.func54, Try.ntmps54
      go_wp2_with fail
      rw [← HW1.out]
      go_big_region_o
      go_wp2_with (first
        | (go_at_call 39; refine (hmay _).mono ?_; rintro e w2 ⟨rfl, hb⟩
           have hb1 := blk_below (blk_drew HB1.out.1) hb
           have hb2 := blk_below (blk_drew HB1.out.2) hb
           have e0 : w2.cell? ⟨w.heap.size, 0, none⟩ = some (.string s) := (blk_cell hb2 0).trans rfl
           have e1 : w2.cell? ⟨w.heap.size, 1, none⟩ = some (.string t) := (blk_cell hb2 1).trans rfl
           have e2 : w2.cell? ⟨w.heap.size, 2, none⟩ = some (.int .i64 0) := (blk_cell hb2 2).trans rfl
           have e3 : w2.frozen? ⟨w.heap.size, 2, none⟩ = false := blk_frozen hb2 2
           have e4 : w2.cell? ⟨bd, 0, none⟩ = some (.pointer (some ⟨p, 0, none⟩)) := (blk_cell hb1 0).trans rfl
           have HH2 := Aside0.mk (And.intro (H1.out.1.drew.below hb) (H1.out.2.drew.below hb))
           clear hb hb1 hb2)
        | (go_at_call 41; refine (turn_any (DW.cellfar HH2.out.1 ⟨w.heap.size, 2, none⟩ (.int .i64 x) (Nat.ne_of_lt HD.out.lt) (Nat.ne_of_lt HD.out.n.lt) (fun i hi => Nat.ne_of_lt hi.2)) (s, t, x) HL.out).mono ?_; rintro e w9 ⟨rfl, ⟨vc9, hd9⟩, hk9⟩
           have HD9 := Aside0.mk hd9.dk
           have HK9 := Aside0.mk ((HH2.out.2.setCell (.inr (Nat.le_refl _)) _).then_ hk9 (fun _ h => .inl h))
           clear hd9 hk9))
      go_ret
      rw [HR.out]
      exact ⟨rfl, HD9.out, HK9.out⟩
end
end Go.Proofs.Ytfbpplgpmgnmjaa.P

