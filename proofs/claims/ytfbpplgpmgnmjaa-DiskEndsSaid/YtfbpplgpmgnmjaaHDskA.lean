/- The disk in memory: its block, the map of its names, and what lies still: what they say, and that it stays. -/
import Derived.Test.YtfbpplgpmgnmjaaHMapN
import Derived.Shelf.RegionOpenPlain
import Derived.Handy
namespace Go.Proofs.Ytfbpplgpmgnmjaa.P
open Go.RowKit Go.Proofs.YtfbpplgpmgnmjaaW.PrintWords Go.Proofs.YtfbpplgpmgnmjaaW.PrintLast Go.Proofs.YtfbpplgpmgnmjaaW.PrintMore
set_option linter.unusedVariables false
set_option linter.unusedSimpArgs false
/-- As the printer's word of this name; and what lies outside the heap. -/
structure Kept (w W : World) (S : Nat → Prop) : Prop where
  size : w.heap.size ≤ W.heap.size
  blk : ∀ i, i < w.heap.size → ¬ S i → W.heap[i]? = w.heap[i]?
  out : W.os = w.os ∧ W.tape = w.tape ∧ W.output = w.output
section
variable {w W W2 : World} {S S2 S' : Nat → Prop}
theorem Kept.refl (w : World) (S : Nat → Prop) : Kept w w S := ⟨Nat.le_refl _, fun _ _ _ => rfl, rfl, rfl, rfl⟩
theorem Kept.of_below (h : Below w.heap.size w W) (S : Nat → Prop) : Kept w W S := ⟨h.size, fun i hi _ => h.block i hi, h.os, h.tape, h.output⟩
theorem Kept.mono (h : Kept w W S) (hs : ∀ k, S k → S' k) : Kept w W S' := ⟨h.1, fun i hi hn => h.2 i hi (fun hk => hn (hs i hk)), h.3⟩
theorem Kept.then_ (h : Kept w W S) (k : Kept W W2 S2) (hs : ∀ k, S2 k → S k ∨ w.heap.size ≤ k) : Kept w W2 S :=
  ⟨Nat.le_trans h.1 k.1, fun i hi hn => (k.2 i (Nat.lt_of_lt_of_le hi h.1) (fun h2 => (hs i h2).elim hn (fun h3 => by omega))).trans (h.2 i hi hn), k.3.1.trans h.3.1, k.3.2.1.trans h.3.2.1, k.3.2.2.trans h.3.2.2⟩
theorem Kept.below (h : Kept w W S) (hb : Below W.heap.size W W2) : Kept w W2 S := h.then_ (Kept.of_below hb (fun _ => False)) (fun _ hk => hk.elim)
theorem Kept.alloc (h : Kept w W S) (o : Obj) : Kept w (W.alloc o) S := h.below (below_alloc (Below.refl _ _) o)
theorem Kept.drew (h : Kept w W S) : Kept w W.drew S := h.below (below_drew1 (Below.refl _ _))
theorem Kept.drewN (h : Kept w W S) (m : Nat) : Kept w (W.drewN m) S := h.below (pw_below_drewN (Below.refl _ _) m)
theorem Kept.put1 (w : World) (r : Nat) (o : Obj) : Kept w (w.putObj r o) (fun k => k = r) := ⟨by simp, fun i _ hi => World.putObj_heap_other hi, rfl, rfl, rfl⟩
theorem Kept.setCell (h : Kept w W S) {p : Addr} (hp : S p.block ∨ w.heap.size ≤ p.block) (u : Value) : Kept w (W.setCell p u) S :=
  h.then_ (S2 := fun k => k = p.block) ⟨by simp [World.setCell], fun i _ hn => Below.heap_setCell W p u i hn, rfl, rfl, rfl⟩ (fun k hk => by rw [hk]; exact hp)
theorem blk_kept {g : Nat} {o : Obj} (hb : W.heap[g]? = some o) (hk : Kept W W2 S) (hne : ¬ S g) : W2.heap[g]? = some o := (hk.2 g (blk_lt hb) hne).trans hb
/-- What was written is new since. -/
theorem Kept.to_below (h : Kept w W S) (hs : ∀ k, S k → w.heap.size ≤ k) : Below w.heap.size w W := ⟨h.3.1, h.3.2.1, h.3.2.2, h.1, fun i hi => h.2 i hi (fun hk => by have := hs i hk; omega)⟩
end
abbrev DF := List Int × Int
abbrev DC := ByteArray × (ByteArray × Int)
def kF : Kd DF := Kd.pair (Kd.slice 5 (Kd.int .u8)) (Kd.int .i64)
def kC : Kd DC := Kd.pair Kd.string (Kd.pair Kd.string (Kd.int .i64))
structure DS where
  quota : Int
  steps : Int
  files : List DF
  names : List NE
  kept : List NE
  changes : List DC
  fails : List Int
  limit : Int
  dead : Bool
def cellsD (d : DS) (vf vc vx : Value) (m k : Nat) : Array Value := #[.int .i64 d.quota, .int .i64 d.steps, vf, .map (some m), .map (some k), vc, vx, .int .i64 d.limit, .bool d.dead]
/-- Disk p, its names in block m; what it leads to lies in blocks that are ok. -/
structure DW (w : World) (p m : Nat) (ok : Nat → Prop) (d : DS) (vf vc vx : Value) (k : Nat) : Prop where
  b : w.heap[p]? = some (.cells (cellsD d vf vc vx m k) 71 (0, 0))
  n : NMap w m d.names
  kp : NMap w k d.kept
  okk : ok k
  f : Kd.V kF 78 w 0 ok vf d.files
  c : Kd.V kC 81 w 0 ok vc d.changes
  x : Kd.V (Kd.int .i64) 3 w 0 ok vx d.fails
  ne : ∀ k, ok k → k ≠ p ∧ k ≠ m
/-- The blocks that a disk's steps write. -/
def mutS (p m : Nat) : Nat → Prop := fun k => k = p ∨ k = m
def far (p m : Nat) : Nat → Prop := fun k => k ≠ p ∧ k ≠ m
section
variable {w w' : World} {p m k : Nat} {ok ok' : Nat → Prop} {d : DS} {vf vc vx : Value}
theorem NMap.not_cells {B : Nat} {es : List NE} (h : NMap w B es) {cs : Array Value} {t : Nat} (hb : w.heap[p]? = some (.cells cs t (0, 0))) : p ≠ B := by
  rintro rfl
  obtain ⟨e, c, h1, _⟩ := h.ex
  rw [hb] at h1
  cases h1
theorem DW.pm (h : DW w p m ok d vf vc vx k) : p ≠ m := h.n.not_cells h.b
theorem DW.pk (h : DW w p m ok d vf vc vx k) : p ≠ k := h.kp.not_cells h.b
theorem DW.lt (h : DW w p m ok d vf vc vx k) : p < w.heap.size := blk_lt h.b
theorem DW.mono (h : DW w p m ok d vf vc vx k) (ho : ∀ k, ok k → ok' k) (hn : ∀ k, ok' k → k ≠ p ∧ k ≠ m) : DW w p m ok' d vf vc vx k :=
  ⟨h.b, h.n, h.kp, ho _ h.okk, Kd.V_mono h.f ho, Kd.V_mono h.c ho, Kd.V_mono h.x ho, hn⟩
theorem DW.wide (h : DW w p m ok d vf vc vx k) : DW w p m (far p m) d vf vc vx k := h.mono h.ne (fun _ h => h)
theorem DW.step (h : DW w p m ok d vf vc vx k) (hp : w'.heap[p]? = w.heap[p]?) (hm : w'.heap[m]? = w.heap[m]?) (hs : ∀ i, ok i → i < w.heap.size → w'.heap[i]? = w.heap[i]?) : DW w' p m ok d vf vc vx k :=
  ⟨hp.trans h.b, h.n.same hm, h.kp.same (hs _ h.okk h.kp.lt), h.okk, Kd.V_step h.f hs, Kd.V_step h.c hs, Kd.V_step h.x hs, h.ne⟩
theorem DW.below (h : DW w p m ok d vf vc vx k) (hb : Below w.heap.size w w') : DW w' p m ok d vf vc vx k :=
  h.step (hb.block p h.lt) (hb.block m h.n.lt) (fun i _ hi => hb.block i hi)
theorem DW.drew (h : DW w p m ok d vf vc vx k) : DW w.drew p m ok d vf vc vx k := h.below (below_drew1 (Below.refl _ _))
theorem DW.drewN (h : DW w p m ok d vf vc vx k) (n : Nat) : DW (w.drewN n) p m ok d vf vc vx k := h.below (pw_below_drewN (Below.refl _ _) n)
theorem DW.alloc (h : DW w p m ok d vf vc vx k) (o : Obj) : DW (w.alloc o) p m ok d vf vc vx k := h.below (below_alloc (Below.refl _ _) o)
theorem DW.kept (h : DW w p m ok d vf vc vx k) {S : Nat → Prop} (hk : Kept w w' S) (hp : ¬ S p) (hm : ¬ S m) (hs : ∀ i, ok i → ¬ S i) : DW w' p m ok d vf vc vx k :=
  h.step (hk.2 p h.lt hp) (hk.2 m h.n.lt hm) (fun i hi hl => hk.2 i hl (hs i hi))
/-- The disk's own block stored to: one cell. -/
theorem DW.put (h : DW w p m ok d vf vc vx k) (j : Nat) (u : Value) {d' : DS} {vf' vc' vx' : Value} {k' : Nat} (he : (cellsD d vf vc vx m k).setIfInBounds j u = cellsD d' vf' vc' vx' m k')
    (hn : d'.names = d.names) (hk : NMap w k' d'.kept) (hok : ok k') (hf : Kd.V kF 78 w 0 ok vf' d'.files) (hc : Kd.V kC 81 w 0 ok vc' d'.changes) (hx : Kd.V (Kd.int .i64) 3 w 0 ok vx' d'.fails) :
    DW (w.setCell ⟨p, j, none⟩ u) p m ok d' vf' vc' vx' k' := by
  have hs : ∀ i, ok i → i ≠ p := fun i hi => (h.ne i hi).1
  refine ⟨blk_put h.b j u he, ?_, ?_, hok, Kd.V_far hf hs _, Kd.V_far hc hs _, Kd.V_far hx hs _, h.ne⟩
  · rw [hn]; exact h.n.same (Below.heap_setCell w ⟨p, j, none⟩ u m h.pm.symm)
  · exact hk.same (Below.heap_setCell w ⟨p, j, none⟩ u k' (hs _ hok))
/-- One cell of the disk's block, all else as it was. -/
theorem DW.putv (h : DW w p m ok d vf vc vx k) (j : Nat) (u : Value) {d' : DS} (he : (cellsD d vf vc vx m k).setIfInBounds j u = cellsD d' vf vc vx m k)
    (hn : d'.names = d.names) (hk : d'.kept = d.kept) (hf : d'.files = d.files) (hc : d'.changes = d.changes) (hx : d'.fails = d.fails) :
    DW (w.setCell ⟨p, j, none⟩ u) p m ok d' vf vc vx k :=
  h.put j u he hn (by rw [hk]; exact h.kp) h.okk (by rw [hf]; exact h.f) (by rw [hc]; exact h.c) (by rw [hx]; exact h.x)
theorem DW.kept_put (h : DW w p m ok d vf vc vx k) (j : Nat) (u : Value) : Kept w (w.setCell ⟨p, j, none⟩ u) (mutS p m) := (Kept.refl w _).setCell (.inl (.inl rfl)) u
/-- The names' block turned. -/
theorem DW.turned (h : DW w p m ok d vf vc vx k) {es : List NE} {o : Obj} (hm : NMap (w.putObj m o) m es) : DW (w.putObj m o) p m ok { d with names := es } vf vc vx k := by
  have hs : ∀ i, ok i → i < w.heap.size → (w.putObj m o).heap[i]? = w.heap[i]? := fun i hi _ => World.putObj_heap_other (h.ne i hi).2
  exact ⟨(World.putObj_heap_other h.pm).trans h.b, hm, h.kp.same (hs _ h.okk h.kp.lt), h.okk, Kd.V_step h.f hs, Kd.V_step h.c hs, Kd.V_step h.x hs, h.ne⟩
theorem kept_putObj (p m : Nat) (o : Obj) : Kept w (w.putObj m o) (mutS p m) := (Kept.put1 w m o).mono (fun _ h => .inr h)
theorem DW.c0 (h : DW w p m ok d vf vc vx k) : w.cell? ⟨p, 0, none⟩ = some (.int .i64 d.quota) := (blk_cell h.b 0).trans rfl
theorem DW.c1 (h : DW w p m ok d vf vc vx k) : w.cell? ⟨p, 1, none⟩ = some (.int .i64 d.steps) := (blk_cell h.b 1).trans rfl
theorem DW.c2 (h : DW w p m ok d vf vc vx k) : w.cell? ⟨p, 2, none⟩ = some vf := (blk_cell h.b 2).trans rfl
theorem DW.c3 (h : DW w p m ok d vf vc vx k) : w.cell? ⟨p, 3, none⟩ = some (.map (some m)) := (blk_cell h.b 3).trans rfl
theorem DW.c4 (h : DW w p m ok d vf vc vx k) : w.cell? ⟨p, 4, none⟩ = some (.map (some k)) := (blk_cell h.b 4).trans rfl
theorem DW.c5 (h : DW w p m ok d vf vc vx k) : w.cell? ⟨p, 5, none⟩ = some vc := (blk_cell h.b 5).trans rfl
theorem DW.c6 (h : DW w p m ok d vf vc vx k) : w.cell? ⟨p, 6, none⟩ = some vx := (blk_cell h.b 6).trans rfl
theorem DW.c7 (h : DW w p m ok d vf vc vx k) : w.cell? ⟨p, 7, none⟩ = some (.int .i64 d.limit) := (blk_cell h.b 7).trans rfl
theorem DW.c8 (h : DW w p m ok d vf vc vx k) : w.cell? ⟨p, 8, none⟩ = some (.bool d.dead) := (blk_cell h.b 8).trans rfl
theorem DW.fz (h : DW w p m ok d vf vc vx k) (j : Nat) : w.frozen? ⟨p, j, none⟩ = false := blk_frozen h.b j
end
/-- A disk, whatever its values are. -/
structure Dk (w : World) (p m : Nat) (ok : Nat → Prop) (d : DS) : Prop where
  ex : ∃ vf vc vx k, DW w p m ok d vf vc vx k
section
variable {w w' : World} {p m k : Nat} {ok ok' : Nat → Prop} {d : DS} {vf vc vx : Value}
theorem DW.dk (h : DW w p m ok d vf vc vx k) : Dk w p m ok d := ⟨_, _, _, _, h⟩
theorem Dk.below (h : Dk w p m ok d) (hb : Below w.heap.size w w') : Dk w' p m ok d := by obtain ⟨_, _, _, _, h⟩ := h.ex; exact (h.below hb).dk
theorem Dk.mono (h : Dk w p m ok d) (ho : ∀ k, ok k → ok' k) (hn : ∀ k, ok' k → k ≠ p ∧ k ≠ m) : Dk w p m ok' d := by obtain ⟨_, _, _, _, h⟩ := h.ex; exact (h.mono ho hn).dk
theorem Dk.wide (h : Dk w p m ok d) : Dk w p m (far p m) d := by obtain ⟨_, _, _, _, h⟩ := h.ex; exact h.wide.dk
theorem Dk.kept (h : Dk w p m ok d) {S : Nat → Prop} (hk : Kept w w' S) (hp : ¬ S p) (hm : ¬ S m) (hs : ∀ i, ok i → ¬ S i) : Dk w' p m ok d := by obtain ⟨_, _, _, _, h⟩ := h.ex; exact (h.kept hk hp hm hs).dk
theorem Dk.lt (h : Dk w p m ok d) : p < w.heap.size := by obtain ⟨_, _, _, _, h⟩ := h.ex; exact h.lt
theorem Dk.ltm (h : Dk w p m ok d) : m < w.heap.size := by obtain ⟨_, _, _, _, h⟩ := h.ex; exact h.n.lt
end
/-- What a call hands back that lays a disk anew. -/
structure Born (w : World) (d : DS) (e : Ending) (w' : World) : Prop where
  ex : ∃ p m, e = .returned (.pointer (some ⟨p, 0, none⟩)) ∧ w.heap.size ≤ p ∧ w.heap.size ≤ m ∧ Below w.heap.size w w' ∧ Dk w' p m (fun i => w.heap.size ≤ i ∧ i ≠ p ∧ i ≠ m) d
/-- What a step hands back: a number. -/
structure Stepped (w : World) (p m : Nat) (d' : DS) (r : Int) (e : Ending) (w' : World) : Prop where
  e : e = .returned (.int .i64 r)
  d : Dk w' p m (far p m) d'
  k : Kept w w' (mutS p m)
def DS.new (q : Int) : DS := ⟨max q 0, 0, [], [], [], [], [], -1, false⟩
theorem born_new (q q' : Int) (w : World) (hq : q' = max q 0) : Dk (((w.alloc (.map #[] 0)).alloc (.map #[] 0)).alloc (.cells #[.int .i64 q', .int .i64 0, .slice none 0 0, .map (some w.heap.size), .map (some (w.heap.size + 1)), .slice none 0 0, .slice none 0 0, .int .i64 (-1), .bool false] 71)) (w.heap.size + 1 + 1) w.heap.size (fun i => w.heap.size ≤ i ∧ i ≠ w.heap.size + 1 + 1 ∧ i ≠ w.heap.size) (DS.new q) := by
  subst hq
  have e1 : (w.alloc (.map #[] 0)).heap.size = w.heap.size + 1 := by simp
  have e2 : ((w.alloc (.map #[] 0)).alloc (.map #[] 0)).heap.size = w.heap.size + 1 + 1 := by simp
  have h1 := NMap.new w
  have h2 := NMap.new (w.alloc (.map #[] 0))
  rw [e1] at h2
  have h3 := blk_new ((w.alloc (.map #[] 0)).alloc (.map #[] 0)) (.cells #[.int .i64 (max q 0), .int .i64 0, .slice none 0 0, .map (some w.heap.size), .map (some (w.heap.size + 1)), .slice none 0 0, .slice none 0 0, .int .i64 (-1), .bool false] 71)
  rw [e2] at h3
  exact ⟨_, _, _, w.heap.size + 1, h3, (h1.below (below_alloc (Below.refl _ _) _)).below (below_alloc (Below.refl _ _) _), h2.below (below_alloc (Below.refl _ _) _), by omega, Kd.V_nil _ _ _ _ _, Kd.V_nil _ _ _ _ _, Kd.V_nil _ _ _ _ _, fun _ h => h.2⟩
set_option maxHeartbeats 4000000 in
set_option maxRecDepth 100000 in
theorem new_any (q : Int) (w : World) : Calls Try.prog 10 #[.int .i64 q] w (Born w (DS.new q)) := by
  have hmm := @run_makeMap Try.prog
  go_enter Try.func10, Try.ntmps10
  go_wp2
  all_goals go_ret
  · exact ⟨w.heap.size + 1 + 1, w.heap.size, rfl, by omega, Nat.le_refl _, below_alloc (below_alloc (below_alloc (Below.refl _ _) _) _) _, born_new q 0 w (by omega)⟩
  · exact ⟨w.heap.size + 1 + 1, w.heap.size, rfl, by omega, Nat.le_refl _, below_alloc (below_alloc (below_alloc (Below.refl _ _) _) _) _, born_new q q w (by omega)⟩
section
variable {w w' : World} {p m k : Nat} {ok ok' : Nat → Prop} {d : DS} {vf vc vx : Value}
set_option maxHeartbeats 4000000 in
set_option maxRecDepth 100000 in
theorem steps_any (h : Dk w p m ok d) :
    Calls Try.prog 19 #[.pointer (some ⟨p, 0, none⟩)] w fun e w' => e = .returned (.int .i64 d.steps) ∧ w' = w := by
  obtain ⟨vf, vc, vx, k, h⟩ := h.ex
  have hc := h.c1
  clear h
  go_enter Try.func19, Try.ntmps19
  go_wp2
  go_ret
  exact ⟨rfl, rfl⟩
set_option maxHeartbeats 4000000 in
set_option maxRecDepth 100000 in
theorem limit_any (h : Dk w p m ok d) (n : Int) :
    Calls Try.prog 21 #[.pointer (some ⟨p, 0, none⟩), .int .i64 n] w fun e w' => e = .returned (.tuple #[]) ∧ Dk w' p m ok { d with limit := max n 0 } ∧ Kept w w' (mutS p m) := by
  obtain ⟨vf, vc, vx, k, h⟩ := h.ex
  have hc := h.c7
  have hf := h.fz 7
  have H : ∀ q, q = max n 0 → Aside0 (Dk (w.setCell ⟨p, 7, none⟩ (.int .i64 q)) p m ok { d with limit := max n 0 } ∧ Kept w (w.setCell ⟨p, 7, none⟩ (.int .i64 q)) (mutS p m)) := fun q hq => by
    subst hq
    exact ⟨(h.putv 7 (.int .i64 (max n 0)) (d' := { d with limit := max n 0 }) (by simp [cellsD]) rfl rfl rfl rfl rfl).dk, h.kept_put 7 _⟩
  clear h
  go_enter Try.func21, Try.ntmps21
  go_wp2
  · refine bodyPost_end (results_none rfl _ _ _) rfl ?_
    exact ⟨rfl, (H 0 (by omega)).out⟩
  · refine bodyPost_end (results_none rfl _ _ _) rfl ?_
    exact ⟨rfl, (H n (by omega)).out⟩
end
end Go.Proofs.Ytfbpplgpmgnmjaa.P
