/- Texts of DiskFails. Merged: HDskD, HDskE. -/
import Derived.Test.YtfbpplgpmgnmjaaHDskC
import Derived.ArgAppend
import Derived.Deep.AppendLies
/- Rows that lie still: their cells, and a row laid anew with one element more; a file's and a change's cells. -/
namespace Go.Proofs.Ytfbpplgpmgnmjaa.P
open Go.RowKit Go.Proofs.YtfbpplgpmgnmjaaW.PrintWords Go.Proofs.YtfbpplgpmgnmjaaW.PrintLast Go.Proofs.YtfbpplgpmgnmjaaW.PrintMore
set_option linter.unusedVariables false
set_option linter.unusedSimpArgs false
section
variable {α : Type} {d : Kd α} {e b : Nat} {ok ok' : Nat → Prop} {W w' : World} {v : Value} {xs : List α}
/-- The cells of a row that lies still. -/
theorem V_cells (h : Kd.V d e W b ok v xs) : ∃ A c inner, v = .slice A xs.length c ∧ xs.length ≤ c ∧ Reps (fun x cs => Kd.FK d W ok x cs) d.sz xs inner ∧ (∀ ad, A = some ad → ∀ j u, inner[j]? = some u → W.cell? (ad.add j) = some u) ∧ (A = none → xs = []) := by
  obtain ⟨A, c, rfl, hc, hF⟩ := h
  cases A with
  | some ad =>
    obtain ⟨inner, hr, hi⟩ := ReadsRow.inner_ (Kd.F_rows hF)
    exact ⟨some ad, c, inner, rfl, hc, hr, fun ad' he => by injection he with he; subst he; exact hi, fun h => by cases h⟩
  | none =>
    have hx : xs = [] := by
      cases xs with
      | nil => rfl
      | cons x xs => obtain ⟨_, _, h2⟩ := Kd.F_now hF; obtain ⟨ad, e, _⟩ := h2 (by simp); cases e
    subst hx
    exact ⟨none, c, [], rfl, hc, Reps.none _ _, (fun _ h => by cases h), fun _ => rfl⟩
/-- A row of one's own whose elements lead to what is ok, told as a row that lies still. -/
theorem V_own {base n : Nat} {inner : List Value} (ho : W.ownsRow base e d.sz v n inner) (hn : n = xs.length) (hmax : n ≤ 9223372036854775807) (hok : ∀ k, v.ownBlock = some k → ok k) (hr : Reps (fun x cs => Kd.FK d W ok x cs) d.sz xs inner) : Kd.V d e W b ok v xs := by
  subst hn
  obtain ⟨hl, h2⟩ := ho
  rcases h2 with ⟨hv, h0⟩ | ⟨g, cap, cur, rfl, hg, hb, h3, h4, h5, h6⟩
  · have hx : xs = [] := List.eq_nil_of_length_eq_zero (by omega)
    subst hx
    have e0 : v = .slice none 0 0 := by simpa using hv
    rw [e0]
    exact Kd.V_nil _ _ _ _ _
  · refine ⟨_, _, rfl, h3, fun W' hW => ⟨rfl, hmax, fun _ => ⟨_, rfl, fun j p hj => ?_⟩⟩⟩
    have hg' : W'.heap[g]? = some (.cells cur e (0, 0)) := (hW g (hok g (by simp [Value.ownBlock])) (blk_lt hb)).trans hb
    have hjl := (List.getElem?_eq_some_iff.1 hj).1
    have h1 : j * d.sz + d.sz ≤ inner.length := by rw [hr.1, ← Nat.succ_mul]; exact Nat.mul_le_mul_right _ hjl
    refine ⟨(inner.drop (j * d.sz)).take d.sz, by rw [List.length_take, List.length_drop]; omega, hr.2 j p hj W' hW, fun i u hu => ?_⟩
    rw [List.getElem?_take] at hu
    split at hu
    · rw [List.getElem?_drop] at hu
      rw [add_plain, blk_cell hg', ← Array.getElem?_toList]
      rw [← h6] at hu
      rw [List.getElem?_take] at hu
      split at hu
      · exact hu
      · cases hu
    · cases hu
theorem reps_step {sz : Nat} {inner : List Value} (h : Reps (fun x cs => Kd.FK d W ok x cs) sz xs inner) (hm : ∀ k, ok k → k < W.heap.size → w'.heap[k]? = W.heap[k]?) (ho : ∀ k, ok k → ok' k) : Reps (fun x cs => Kd.FK d w' ok' x cs) sz xs inner :=
  h.imp_ (fun _ _ hp => Kd.FK_mono (Kd.FK_step hp hm) ho)
/-- 'append' of one element to a row that has no room: what lies still stays, the row is laid anew. -/
theorem run_app {t ty : TypeId} {z : Value} {bytes : Nat} {A : Option Addr} {ad : Addr} {c' : Nat} {news : List Value} {y : α}
    (ht : Try.prog.underlying t = some (.slice e)) (hi : (Try.prog.info? e).map (fun i => (i.zero, i.size, i.bytes)) = some (some z, d.sz, bytes)) (hzs : z.cells.size = d.sz) (hs : 0 < d.sz)
    (h : Kd.V d e W b ok (.slice A xs.length xs.length) xs) (hn : ∀ j u, news[j]? = some u → W.cell? (ad.add j) = some u) (hy : Kd.FK d W ok y news) (h63 : xs.length + 1 ≤ maxLen) (hby : (xs.length + 1) * bytes ≤ 140737488355328) :
    ∃ v' w', (Builtin.append_ #[t, t] ty #[.slice A xs.length xs.length, .slice (some ad) 1 c']).run Try.prog W = .ok v' w' ∧ W.grownBy w' none ∧ (∃ g, v'.ownBlock = some g ∧ W.heap.size ≤ g) ∧ Kd.V d e w' b (fun k => ok k ∨ W.heap.size ≤ k) v' (xs ++ [y]) := by
  obtain ⟨i, hi, hz, hsz, hb⟩ := info_parts hi
  obtain ⟨A', c2, inner, he, hc, hr, hcell, hnil⟩ := V_cells h
  injection he with e1 e2 e3
  subst e1
  have hlen : news.length = 1 * d.sz := by rw [Nat.one_mul]; exact d.K_len (Kd.FK_now hy)
  have h1 := d.K_one (Kd.FK_now hy)
  have key : ∃ v' w', (Builtin.append_ #[t, t] ty #[.slice A xs.length xs.length, .slice (some ad) 1 c']).run Try.prog W = .ok v' w' ∧ w'.ownsRow W.heap.size e d.sz v' (xs.length + 1) (inner ++ news) ∧ W.grownBy w' none := by
    cases A with
    | some bd => exact run_append_arg_grows (P := Try.prog) W t ty e i z d.sz bytes ht hi hz hsz hb hzs hs bd xs.length xs.length inner hr.1 (hcell bd rfl) ad 1 c' news hlen hn (by omega) h63 hby
    | none =>
      have hx := hnil rfl
      subst hx
      have hin : inner = [] := List.eq_nil_of_length_eq_zero (by simpa using hr.1)
      subst hin
      obtain ⟨v', w', hrun, r1, r2, _⟩ := run_append_own (P := Try.prog) W W.heap.size t ty e i z d.sz bytes ht hi hz hsz hb hzs hs (.slice none 0 0) 0 [] (World.ownsRow_nil W _ e d.sz) ad 1 c' news hlen hn h1 (by simpa using h63) (by simpa using hby) (Nat.le_refl _)
      exact ⟨v', w', hrun, r1, r2⟩
  obtain ⟨v', w', hrun, hown, hg⟩ := key
  have hm : ∀ k, ok k → k < W.heap.size → w'.heap[k]? = W.heap[k]? := fun k _ hk => hg.block k hk (by simp)
  have hge : ∃ g, v'.ownBlock = some g ∧ W.heap.size ≤ g := by
    rcases hown.2 with ⟨_, h0⟩ | ⟨g, cap, cur, hv, hg, _⟩
    · omega
    · exact ⟨g, by rw [hv]; simp [Value.ownBlock], hg⟩
  refine ⟨v', w', hrun, hg, hge, V_own hown (by simp) (by simp only [maxLen] at h63; omega) (fun k hk => ?_) ((reps_step hr hm (fun _ h => .inl h)).snoc (Kd.FK_mono (Kd.FK_step hy hm) (fun _ h => .inl h)) (by simpa using hlen))⟩
  obtain ⟨g, h1, h2⟩ := hge
  rw [h1] at hk
  injection hk with hk
  exact .inr (hk ▸ h2)
end
section
variable {W : World} {b : Nat} {ok : Nat → Prop} {v : Value} {fs : List DF}
theorem kF_open {W : World} {x : DF} {cs : List Value} (h : Kd.FK kF W ok x cs) : ∃ A c, cs = [.slice A x.1.length c, .int .i64 x.2] ∧ x.1.length ≤ c ∧ Kd.F (Kd.int .u8) W ok A x.1.length x.1 := by
  obtain ⟨_, _, rfl, ⟨A, c, rfl, l0, g0⟩, rfl⟩ := Kd.FK_now h
  refine ⟨A, c, rfl, l0, fun W' hW => ?_⟩
  obtain ⟨c0, c1, he, ⟨A', c', rfl, l0', g0'⟩, rfl⟩ := h W' hW
  injection (Option.some.inj (show some (Value.slice A x.1.length c) = some (Value.slice A' x.1.length c') from congrArg (fun l => l[0]?) he)) with ha
  rw [ha]; exact g0'
theorem kF_mk {W : World} {x : DF} {A : Option Addr} {c : Nat} (l0 : x.1.length ≤ c) (g0 : Kd.F (Kd.int .u8) W ok A x.1.length x.1) : Kd.FK kF W ok x [.slice A x.1.length c, .int .i64 x.2] :=
  fun W' hW => ⟨[.slice A x.1.length c], [.int .i64 x.2], rfl, ⟨A, c, rfl, l0, g0 W' hW⟩, rfl⟩
def zF : DF := ([], 0)
/-- A file's two cells. -/
theorem file_at (h : Kd.V kF 78 W b ok v fs) (i : Nat) (hi : i < fs.length) : ∃ ad cap A c, v = .slice (some ad) fs.length cap ∧ fs.length ≤ cap ∧ W.cell? (ad.add (i * 2)) = some (.slice A (fs.getD i zF).1.length c) ∧ W.cell? ⟨(ad.add (i * 2)).block, (ad.add (i * 2)).off + 1, none⟩ = some (.int .i64 (fs.getD i zF).2) ∧ (fs.getD i zF).1.length ≤ c ∧ Kd.F (Kd.int .u8) W ok A (fs.getD i zF).1.length (fs.getD i zF).1 := by
  obtain ⟨A, cap, rfl, hc, hF⟩ := h
  obtain ⟨ad, cs, rfl, hcl, hK, hcc, _⟩ := Kd.F_get hF zF (i : Int) (by omega) (by omega)
  simp only [Int.toNat_natCast] at hK hcc
  obtain ⟨A1, c1, rfl, l1, g1⟩ := kF_open hK
  have hc2 : ∀ j u, ([Value.slice A1 (fs.getD i zF).1.length c1, .int .i64 (fs.getD i zF).2] : List Value)[j]? = some u → W.cell? (ad.add (i * 2 + j)) = some u := hcc
  exact ⟨ad, cap, A1, c1, rfl, hc, hc2 0 _ rfl, by rw [← add_field _ _ 1 (by omega)]; exact hc2 1 _ rfl, l1, g1⟩
theorem kC_mk {W : World} (x : DC) : Kd.FK kC W ok x [.string x.1, .string x.2.1, .int .i64 x.2.2] :=
  fun W' hW => ⟨[.string x.1], [.string x.2.1, .int .i64 x.2.2], rfl, rfl, ⟨[.string x.2.1], [.int .i64 x.2.2], rfl, rfl, rfl⟩⟩
theorem kC_open {W : World} {x : DC} {cs : List Value} (h : Kd.FK kC W ok x cs) : cs = [.string x.1, .string x.2.1, .int .i64 x.2.2] := by
  obtain ⟨_, _, rfl, rfl, ⟨_, _, rfl, rfl, rfl⟩⟩ := Kd.FK_now h
  rfl
end
end Go.Proofs.Ytfbpplgpmgnmjaa.P

/- turn: the names are changed, and the change is kept. -/
namespace Go.Proofs.Ytfbpplgpmgnmjaa.P
open Go.RowKit Go.Proofs.YtfbpplgpmgnmjaaW.PrintWords Go.Proofs.YtfbpplgpmgnmjaaW.PrintLast Go.Proofs.YtfbpplgpmgnmjaaW.PrintMore
set_option linter.unusedVariables false
set_option linter.unusedSimpArgs false
theorem kept_cell {W W' : World} {S : Nat → Prop} (h : Kept W W' S) (a : Addr) (hn : ¬ S a.block) {v : Value} (hc : W.cell? a = some v) : W'.cell? a = some v :=
  (World.cell?_of_block (h.2 a.block (World.block_lt_of_cell? W a hc) hn)).trans hc
theorem below_of_grown {W W' : World} (hg : W.grownBy W' none) : Below W.heap.size W W' := (Below.refl _ W).grown hg (Nat.le_refl _) (fun k e => by cases e)
theorem infoF : (Try.prog.info? 78).map (fun i => (i.zero, i.size, i.bytes)) = some (some (.agg #[.slice none 0 0, .int .i64 0]), 2, 32) := by kernel_rfl
theorem infoC : (Try.prog.info? 81).map (fun i => (i.zero, i.size, i.bytes)) = some (some (.agg #[.string ⟨#[]⟩, .string ⟨#[]⟩, .int .i64 0]), 3, 40) := by kernel_rfl
theorem clip_run {t e : TypeId} {z : Value} {sz by_ : Nat} (ht : Try.prog.underlying t = some (.slice e)) (hi : (Try.prog.info? e).map (fun i => (i.zero, i.size, i.bytes)) = some (some z, sz, by_)) (A : Option Addr) (n c : Nat) (hc : n ≤ c) (W : World) :
    (Instr.slice t (.slice A n c) none (some (.int .i64 n)) (some (.int .i64 n))).run Try.prog W = .ok (.slice A n n) W := by
  obtain ⟨i, hi, hz, hs, hb⟩ := info_parts hi
  have he : Try.prog.elem t = e := by simp [Program.elem, ht]
  rw [run_slice_hm W t A n c (by rw [he]; exact ht) .i64 .i64 n n (by omega) (Int.le_refl _) (by omega), he]
  simp [sizeOf, typeInfo, hi, sliced, Result.andThen]
  cases A with
  | none => simp
  | some a => cases a; simp [Addr.add]
theorem step_app {α : Type} {d : Kd α} {e b : Nat} {ok : Nat → Prop} {W : World} {xs : List α} {ops : Array Oper} {o : Oper} {a : Act} {K : Act → World → Prop} {Q : Exit → Act → World → Prop} {E : Prop} (hgd : o.guard = none) (s x : Operand) (t : TypeId)
    (ho : o.op = .call { callee := .builtin .append, args := #[s, x], argTypes := #[t, t] }) {z : Value} {bytes c' : Nat} {A : Option Addr} {ad : Addr} {news : List Value} {y : α}
    (ht : Try.prog.underlying t = some (.slice e)) (hi : (Try.prog.info? e).map (fun i => (i.zero, i.size, i.bytes)) = some (some z, d.sz, bytes)) (hzs : z.cells.size = d.sz) (hsz : 0 < d.sz)
    (hs : a.eval s = .slice A xs.length xs.length) (hx : a.eval x = .slice (some ad) 1 c')
    (h : Kd.V d e W b ok (.slice A xs.length xs.length) xs) (hn : ∀ j u, news[j]? = some u → W.cell? (ad.add j) = some u) (hy : Kd.FK d W ok y news) (h63 : xs.length + 1 ≤ maxLen) (hby : (xs.length + 1) * bytes ≤ 140737488355328)
    (hK : ∀ v' w', W.grownBy w' none → (∃ g, v'.ownBlock = some g ∧ W.heap.size ≤ g) → Kd.V d e w' b (fun k => ok k ∨ W.heap.size ≤ k) v' (xs ++ [y]) → K (a.put o.dst v') w') :
    if Region.wanted o (yielded ops a.tmps) = true then Oper.wp Try.prog o a W K Q else E := by
  have hw : Region.wanted o (yielded ops a.tmps) = true := by simp [Region.wanted, hgd]
  rw [if_pos hw]
  obtain ⟨v', w', hrun, hg, hge, hV⟩ := run_app (ty := o.type) (c' := c') ht hi hzs hsz h hn hy h63 hby
  unfold Oper.wp
  simp [execOp, ho, resolve, invoke, builtin, hs, hx, hrun, Result.andThen]
  exact hK v' w' hg hge hV
def DS.turn (d : DS) (c : DC) : DS := { d with names := do1 d.names c, changes := d.changes ++ [c] }
section
variable {w w' : World} {p m k : Nat} {ok ok' : Nat → Prop} {d : DS} {vf vc vx : Value}
/-- What turn hands back: its files and what fails are where they were. -/
structure Turned (w : World) (p m : Nat) (d' : DS) (vf vx : Value) (k : Nat) (e : Ending) (w' : World) : Prop where
  e : e = .returned (.int .i64 0)
  d : ∃ vc, DW w' p m (far p m) d' vf vc vx k
  k : Kept w w' (mutS p m)
theorem DW.turnedK (h : DW w p m ok d vf vc vx k) {es : List NE} (hk : Kept w w' (fun i => i = m)) (hm : NMap w' m es) : DW w' p m ok { d with names := es } vf vc vx k := by
  have hs : ∀ i, ok i → i < w.heap.size → w'.heap[i]? = w.heap[i]? := fun i hi hl => hk.2 i hl (h.ne i hi).2
  exact ⟨(hk.2 p h.lt h.pm).trans h.b, hm, h.kp.same (hs _ h.okk h.kp.lt), h.okk, Kd.V_step h.f hs, Kd.V_step h.c hs, Kd.V_step h.x hs, h.ne⟩
theorem step_appD {α : Type} {dd : Kd α} {e : Nat} {W : World} {xs : List α} {ops : Array Oper} {o : Oper} {a : Act} {K : Act → World → Prop} {Q : Exit → Act → World → Prop} {E : Prop} (hgd : o.guard = none) (s x : Operand) (t : TypeId)
    (ho : o.op = .call { callee := .builtin .append, args := #[s, x], argTypes := #[t, t] }) {z : Value} {bytes c' : Nat} {A : Option Addr} {ad : Addr} {news : List Value} {y : α}
    (ht : Try.prog.underlying t = some (.slice e)) (hi : (Try.prog.info? e).map (fun i => (i.zero, i.size, i.bytes)) = some (some z, dd.sz, bytes)) (hzs : z.cells.size = dd.sz) (hsz : 0 < dd.sz)
    (hs : a.eval s = .slice A xs.length xs.length) (hx : a.eval x = .slice (some ad) 1 c')
    (hD : DW W p m (far p m) d vf vc vx k) (h : Kd.V dd e W 0 (far p m) (.slice A xs.length xs.length) xs) (hn : ∀ j u, news[j]? = some u → W.cell? (ad.add j) = some u) (hy : Kd.FK dd W (far p m) y news) (h63 : xs.length + 1 ≤ maxLen) (hby : (xs.length + 1) * bytes ≤ 140737488355328)
    (hK : ∀ A5 c5 w5, DW w5 p m (far p m) d vf vc vx k → Below W.heap.size W w5 → Kd.V dd e w5 0 (far p m) (.slice A5 (xs.length + 1) c5) (xs ++ [y]) → K (a.put o.dst (.slice A5 (xs.length + 1) c5)) w5) :
    if Region.wanted o (yielded ops a.tmps) = true then Oper.wp Try.prog o a W K Q else E := by
  refine step_app hgd s x t ho ht hi hzs hsz hs hx h hn hy h63 hby fun v5 w5 hg5 hge5 hV5 => ?_
  have hb := below_of_grown hg5
  have hV : Kd.V dd e w5 0 (far p m) v5 (xs ++ [y]) := Kd.V_mono hV5 (fun k hk => by
    rcases hk with hk | hk
    · exact hk
    · have := hD.lt; have := hD.n.lt; exact ⟨by omega, by omega⟩)
  obtain ⟨A5, c5, rfl⟩ := Kd.V_slice hV
  rw [List.length_append, List.length_singleton] at hV ⊢
  exact hK A5 c5 w5 (hD.below hb) hb hV
set_option maxHeartbeats 4000000 in
set_option maxRecDepth 100000 in
theorem clipC_any (A : Option Addr) (n c : Nat) (hc : n ≤ c) (w : World) :
    Calls Try.prog 66 #[.slice A n c] w fun e w' => e = .returned (.slice A n n) ∧ w' = w := by
  have hcut : ∀ W, (Instr.slice 69 (.slice A n c) none (some (.int .i64 n)) (some (.int .i64 n))).run Try.prog W = .ok (.slice A n n) W := clip_run Try.underlying69 infoC A n c hc
  go_enter Try.func66, Try.ntmps66
  go_wp2
  go_ret
  exact ⟨rfl, rfl⟩
set_option maxHeartbeats 4000000 in
set_option maxRecDepth 100000 in
theorem turn_any (h : DW w p m ok d vf vc vx k) (c : DC) (hl : d.changes.length ≤ 1000000) :
    Calls Try.prog 41 #[.pointer (some ⟨p, 0, none⟩), .agg #[.string c.1, .string c.2.1, .int .i64 c.2.2]] w (Turned w p m (d.turn c) vf vx k) := by
  replace h := h.wide
  have mixed : Try.prog.follows Departure.mixedOrders = true := rfl
  have hB := blk_new w (.cells #[.string c.1, .string c.2.1, .int .i64 c.2.2] 81)
  have hpB : p ≠ w.heap.size := Nat.ne_of_lt h.lt
  have hmB : w.heap.size ≠ m := (Nat.ne_of_lt h.n.lt).symm
  have hpm : p ≠ m := h.pm
  have HL := Aside0.mk hl
  have h1 := h.alloc (.cells #[.string c.1, .string c.2.1, .int .i64 c.2.2] 81)
  have k1 := (Kept.refl w (mutS p m)).alloc (.cells #[.string c.1, .string c.2.1, .int .i64 c.2.2] 81)
  have HH := Aside0.mk (And.intro h1 k1)
  have HN := Aside0.mk h.n.lt
  clear h h1 k1
  go_enter Try.func41, Try.ntmps41
  go_wp2_with fail
  generalize hW : w.alloc (.cells #[.string c.1, .string c.2.1, .int .i64 c.2.2] 81) = W0 at HH hB
  have hc3 := HH.out.1.c3
  have hb0 : W0.cell? ⟨w.heap.size, 0, none⟩ = some (.string c.1) := (blk_cell hB 0).trans rfl
  have hb1 : W0.cell? ⟨w.heap.size, 1, none⟩ = some (.string c.2.1) := (blk_cell hB 1).trans rfl
  have hb2 : W0.cell? ⟨w.heap.size, 2, none⟩ = some (.int .i64 c.2.2) := (blk_cell hB 2).trans rfl
  have HB := Aside0.mk hB
  clear hB hW
  go_region_held3 (fun w' => w'.cell? ⟨p, 3, none⟩ = some (.map (some m)) ∧ w'.cell? ⟨w.heap.size, 0, none⟩ = some (.string c.1) ∧ w'.cell? ⟨w.heap.size, 1, none⟩ = some (.string c.2.1) ∧ w'.cell? ⟨w.heap.size, 2, none⟩ = some (.int .i64 c.2.2)) (first | go_keep | exact ⟨HS1.out.1, HS1.out.2.1, HS1.out.2.2.1, HS1.out.2.2.2⟩)
    (first | (go_at_call 50; refine (do_any d.names c m _ (by first | exact (HH.out.1.drewN _).n | exact HH.out.1.n)).mono ?_; rintro e w1 ⟨rfl, H1⟩
              have HS1 := Aside0.mk (And.intro (kept_cell H1.out.2 ⟨p, 3, none⟩ hpm hc3) (And.intro (kept_cell H1.out.2 ⟨w.heap.size, 0, none⟩ hmB hb0) (And.intro (kept_cell H1.out.2 ⟨w.heap.size, 1, none⟩ hmB hb1) (kept_cell H1.out.2 ⟨w.heap.size, 2, none⟩ hmB hb2))))))
  have D1 := HH.out.1.drew.turnedK H1.out.2 H1.out.1
  have K1 := Aside0.mk (show Kept w w1 (mutS p m) from HH.out.2.drew.then_ H1.out.2 (fun k hk => .inl (.inr hk)))
  have hB1 : w1.heap[w.heap.size]? = some (.cells #[.string c.1, .string c.2.1, .int .i64 c.2.2] 81 (0, 0)) := blk_kept (blk_drew HB.out) H1.out.2 hmB
  obtain ⟨Ac, cc, rfl, hcc, hFc⟩ := D1.c
  have hcl := clipC_any Ac d.changes.length cc hcc
  have hc5 : w1.cell? ⟨p, 5, none⟩ = some (.slice Ac d.changes.length cc) := D1.c5
  have D1 := Aside0.mk D1
  have HB1 := Aside0.mk hB1
  clear hb0 hb1 hb2 hc3
  have hb0 := HS1.out.2.1
  have hb1 := HS1.out.2.2.1
  have hb2 := HS1.out.2.2.2
  clear hB1 hFc H1 HS1 HB HH
  go_wp2_with fail
  have ha5 : ∀ ob, (w1.alloc ob).cell? ⟨p, 5, none⟩ = some (.slice Ac d.changes.length cc) := fun ob => (D1.out.alloc ob).c5
  go_region_law_o
    (first
      | (refine goes_ Try.func66 (by kernel_rfl) rfl #[.slice Ac d.changes.length cc] (by rfl) rfl rfl (by simp only [List.map_toArray, List.map_cons, List.map_nil]; rfl) ?_; with_reducible refine (hcl _).mono ?_; rintro e w9 ⟨rfl, rfl⟩; refine ⟨_, rfl, ?_⟩)
      | (refine step_appD (dd := kC) (e := 81) (p := p) (d := { d with names := do1 d.names c }) (vf := vf) (vc := .slice Ac d.changes.length cc) (vx := vx) (k := k) (m := m) (xs := d.changes) (y := c) (news := [.string c.1, .string c.2.1, .int .i64 c.2.2]) rfl _ _ _ (by rfl) Try.underlying69 infoC rfl (by decide) (by rfl) (by rfl) (by repeat (first | exact D1.out | refine DW.alloc ?_ _ | refine DW.drewN ?_ _ | refine DW.drew ?_)) (by repeat (first | exact ⟨_, _, rfl, Nat.le_refl _, (Kd.V_at D1.out.c).2.2⟩ | refine Kd.V_alloc ?_ _ | refine Kd.V_drewN ?_ _ | refine Kd.V_drew ?_)) (World.news_of_block (heap_alloc_new _ _)) (kC_mk c) (by have := HL.out; simp only [maxLen]; omega) (by have := HL.out; omega) ?_
         intro A5 c5 w5 hd5 hb5 hv5
         have HB5 := Aside0.mk (blk_below (by repeat (first | exact HB1.out | apply blk_alloc | apply blk_drewN | apply blk_drew)) hb5)
         have HK5 := Aside0.mk (K1.out.below (below_step (by repeat (first | exact Below.refl _ _ | apply below_alloc | apply pw_below_drewN | apply below_drew1)) hb5))
         have HD5 := Aside0.mk hd5
         have HV5 := Aside0.mk hv5
         have hf5 := HD5.out.fz 5
         have hc5' := HD5.out.c5
         clear hb5 hd5 hv5))
  all_goals
    go_wp2
    go_ret
    refine ⟨rfl, ⟨_, HD5.out.put 5 (.slice A5 (d.changes.length + 1) c5) (d' := d.turn c) (vf' := vf) (vc' := .slice A5 (d.changes.length + 1) c5) (vx' := vx) (k' := k) ?_ rfl HD5.out.kp HD5.out.okk HD5.out.f HV5.out HD5.out.x⟩, HK5.out.setCell (.inl (.inl rfl)) _⟩
    simp [cellsD, DS.turn]
end
end Go.Proofs.Ytfbpplgpmgnmjaa.P

