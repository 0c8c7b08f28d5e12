/- Texts of DiskFails. Merged: HDskO. -/
import Derived.Test.YtfbpplgpmgnmjaaMDiskFails3
import Derived.Test.YtfbpplgpmgnmjaaPx2
/- Fail, Read, Clone. -/
namespace Go.Proofs.Ytfbpplgpmgnmjaa.P
open Go.RowKit Go.Proofs.YtfbpplgpmgnmjaaW.PrintWords Go.Proofs.YtfbpplgpmgnmjaaW.PrintLast Go.Proofs.YtfbpplgpmgnmjaaW.PrintMore
set_option linter.unusedVariables false
set_option linter.unusedSimpArgs false
theorem all_one {l : List Value} (h : l.all (·.oneCell') = true) : ∀ q ∈ l, q.oneCell' = true := fun q hq => List.all_eq_true.mp h q hq
/-- A whole block stored anew, as an event. -/
theorem store_box {P : Program} {ops : Array Oper} {rest : List Oper} {o : Oper} {a : Act} {Q : Exit → Act → World → Prop} {W : World} {t : TypeId} {p x : Operand} {g : Nat} {vs cs : Array Value}
    (hN : o.dst = none) (hgd : o.guard = none) (ho : o.op = .store t p x) (haddr : a.eval p = .pointer (some ⟨g, 0, none⟩)) (hx : a.eval x = .agg vs) (hh : W.heap[g]? = some (.cells cs t (0, 0))) (ht : (P.info? t).map (·.size) = some vs.toList.length) (hsz : vs.toList.length = cs.size) (h1 : ∀ q ∈ vs.toList, q.oneCell' = true)
    (h : ∀ w1 : World, w1.heap[g]? = some (.cells vs t (0, 0)) → (∀ k, k ≠ g → w1.heap[k]? = W.heap[k]?) → w1.heap.size = W.heap.size → (∀ (base : Nat) (w0 : World), base ≤ g → Below base w0 W → Below base w0 w1) → wpList P ops Q rest a w1) : wpList P ops Q (o :: rest) a W := by
  have hrun : (Instr.storeAt t (.pointer (some ⟨g, 0, none⟩)) (.agg vs)).run P W = .ok () (W.setCells g 0 vs.toList) := run_store_run t (.agg vs) vs.toList hh rfl ht (by rw [hsz]; omega) h1
  obtain ⟨cur', h3, h4, h5⟩ := setCells_row vs.toList 0 W cs hh (by omega)
  have e : cur' = vs := by
    apply Array.toList_inj.mp
    rw [h5, List.take_zero, List.nil_append, List.drop_of_length_le (by rw [Array.length_toList]; omega), List.append_nil]
  rw [e] at h3
  obtain ⟨s1, s2, s3, s4⟩ := setCells_same g vs.toList 0 W
  have hfar := fun k (hk : k ≠ g) => setCells_far (g := g) vs.toList 0 (w := W) k hk
  refine wpList_plain hgd fun K hK => ?_
  unfold Oper.wp execOp
  simp only [ho, haddr, hx, Sem.run_bind, Sem.run_pure, Result.andThen_ok, hrun]
  show K (a.put o.dst undef) _
  rw [hN]
  exact hK a _ (h _ h3 hfar s4 (fun base w0 hb hB => hB.trans ⟨s1, s2, s3, by omega, fun k hk => hfar k (by omega)⟩))
def read1 (d : DS) (s : ByteArray) : List Int × Int := if d.dead = true then ([], 34) else match tget d.names s with
  | none => ([], 30)
  | some x => ((d.files.getD x.toNat zF).1, 0)
section
variable {w w' : World} {p m k : Nat} {ok ok' : Nat → Prop} {d : DS} {vf vc vx : Value}
set_option maxHeartbeats 4000000 in
set_option maxRecDepth 100000 in
theorem fail_any (h : Dk w p m (far p m) d) (l : List Int) (A : Option Addr) (c : Nat) (hl : Kd.C (Kd.int .i64) w A l.length l) (hc : l.length ≤ c) (hlen : l.length ≤ 1000000) :
    Calls Try.prog 12 #[.pointer (some ⟨p, 0, none⟩), .slice A l.length c] w fun e w' => e = .returned (.tuple #[]) ∧ Dk w' p m (far p m) { d with fails := l } ∧ Kept w w' (mutS p m) := by
  obtain ⟨vf, vc, vx, k, h⟩ := h.ex
  have hcl : Calls Try.prog 36 #[.slice A l.length c] w fun e w' => ∃ v0_ : Value, e = .returned (v0_) ∧ Kd.R (Kd.int .i64) 3 w' w.heap.size (fun _ => True) v0_ l ∧ Below w.heap.size w w' :=
    slices_Clone_int_int.calls A c l l w hl hc (by simp [slices_Clone_int_int.f]; omega)
  have HCL := Aside0.mk hcl
  have HD := Aside0.mk h
  clear hcl hl h
  go_enter Try.func12, Try.ntmps12
  go_wp2_with (go_at_call 36; refine HCL.out.mono ?_; rintro e w9 ⟨v, rfl, hR, hb⟩
               have hd9 := HD.out.below hb
               have hc6 := hd9.c6
               have hf6 := hd9.fz 6
               have HH := Aside0.mk (And.intro hR hb)
               obtain ⟨A1, c1, rfl⟩ := Kd.R_slice hR
               clear hR hb hd9)
  refine bodyPost_end (results_none rfl _ _ _) rfl ?_
  have hR := HH.out.1
  have hd9 := HD.out.below HH.out.2
  have hv : Kd.V (Kd.int .i64) 3 w9 0 (far p m) (.slice A1 l.length c1) l := Kd.V_mono (Kd.R_V (ok := fun q => w.heap.size ≤ q) ⟨fun q hq => by obtain ⟨inner, ho⟩ := Kd.R_own hR; exact (ho.lt q hq).1, hR.2⟩) (fun q hq => by have := HD.out.lt; have := HD.out.n.lt; exact ⟨by omega, by omega⟩)
  exact ⟨rfl, (hd9.put 6 (.slice A1 l.length c1) (d' := { d with fails := l }) (vf' := vf) (vc' := vc) (vx' := .slice A1 l.length c1) (k' := k) (by simp [cellsD]) rfl hd9.kp hd9.okk hd9.f hd9.c hv).dk, (Kept.of_below HH.out.2 _).setCell (.inl (.inl rfl)) _⟩
set_option maxHeartbeats 4000000 in
set_option maxRecDepth 100000 in
theorem read_any (h : Dk w p m ok d) (s : ByteArray) (hn : NamesOk d.files d.names) (hu : used d ≤ 100000000000) :
    Calls Try.prog 18 #[.pointer (some ⟨p, 0, none⟩), .string s] w fun e w' => ∃ A c, e = .returned (.tuple #[.slice A (read1 d s).1.length c, .int .i64 (read1 d s).2]) ∧ Kd.R (Kd.int .u8) 5 w' w.heap.size (fun _ => True) (.slice A (read1 d s).1.length c) (read1 d s).1 ∧ Below w.heap.size w w' := by
  obtain ⟨vf, vc, vx, k, h⟩ := h.ex
  have hc8 := h.c8
  have hc3 := h.c3
  have hc2 := h.c2
  have hlk : (Instr.lookup 67 (.map (some m)) (.agg #[.string s]) true).run Try.prog w = .ok (.tuple #[.int .i64 ((tget d.names s).getD 0), .bool (tget d.names s).isSome]) w := h.n.look2 s
  have HD := Aside0.mk h
  obtain ⟨r, hr⟩ : ∃ r, r = read1 d s := ⟨_, rfl⟩
  rw [← hr]
  unfold read1 at hr
  clear h
  by_cases hdd : d.dead = true
  · rw [if_pos hdd] at hr
    rw [hdd] at hc8
    subst hr
    clear hlk
    go_enter Try.func18, Try.ntmps18
    go_wp2_with fail
    go_ret2
    exact ⟨none, 0, rfl, Kd.R_nil _ _ _ _ _, Below.refl _ _⟩
  · rw [if_neg hdd] at hr
    have hdd' : d.dead = false := by simpa using hdd
    rw [hdd'] at hc8
    clear hdd
    cases ht : tget d.names s with
    | none =>
      rw [ht] at hlk hr
      simp only [Option.getD_none, Option.isSome_none] at hlk
      simp only at hr
      subst hr
      clear ht
      go_enter Try.func18, Try.ntmps18
      go_wp2_with fail
      go_ret2
      exact ⟨none, 0, rfl, Kd.R_nil _ _ _ _ _, Below.refl _ _⟩
    | some x =>
      obtain ⟨i, rfl, hi⟩ := hn.at ht
      have hus : lenAt d.files (i : Int) ≤ used d := usedOf_ge d.files d.names _ (tget_mem _ _ _ ht)
      rw [ht] at hlk hr
      simp only [Option.getD_some, Option.isSome_some] at hlk
      simp only [Int.toNat_natCast] at hr
      obtain ⟨ad, cap, A, c, rfl, hcap, e0, _, hcc, hF⟩ := file_at HD.out.f i hi
      unfold lenAt at hus
      simp only [Int.toNat_natCast] at hus
      obtain ⟨fb, hfb⟩ : ∃ fb, fb = (d.files.getD i zF).1 := ⟨_, rfl⟩
      rw [← hfb] at e0 hcc hF hr hus
      subst hr
      have hcl : Calls Try.prog 52 #[.slice A fb.length c] w fun e w' => ∃ v0_ : Value, e = .returned (v0_) ∧ Kd.R (Kd.int .u8) 5 w' w.heap.size (fun _ => True) v0_ fb ∧ Below w.heap.size w w' :=
        slices_Clone_byte_byte.calls A c fb fb w (Kd.F_now hF) hcc (by simp [slices_Clone_byte_byte.f]; omega)
      have HCL := Aside0.mk hcl
      clear hcl hF hus hfb ht
      go_enter Try.func18, Try.ntmps18
      go_wp2_with (go_at_call 52; refine HCL.out.mono ?_; rintro e w9 ⟨v, rfl, hR, hb⟩; obtain ⟨A1, c1, rfl⟩ := Kd.R_slice hR; have HH := Aside0.mk (And.intro hR hb); clear hR hb)
      go_ret2
      exact ⟨A1, c1, rfl, HH.out.1, HH.out.2⟩
/-- The blocks of a disk that is as another one but for its names, which are its own. -/
theorem DW.twin {w3 : World} {p' m' : Nat} (h : DW w p m (far p m) d vf vc vx k) (hb : Below w.heap.size w w3) (hp : w.heap.size ≤ p') (hm : w.heap.size ≤ m') (hblk : w3.heap[p']? = some (.cells (cellsD d vf vc vx m' k) 71 (0, 0))) (hn : NMap w3 m' d.names) : DW w3 p' m' (fun q => far p m q ∧ far p' m' q) d vf vc vx k := by
  have h1 := h.narrow.below hb
  have ho : ∀ q, (far p m q ∧ q < w.heap.size) → (far p m q ∧ far p' m' q) := fun q hq => ⟨hq.1, by omega, by omega⟩
  exact ⟨hblk, hn, h1.kp, ho _ h1.okk, Kd.V_mono h1.f ho, Kd.V_mono h1.c ho, Kd.V_mono h1.x ho, fun q hq => hq.2⟩
set_option maxHeartbeats 4000000 in
set_option maxRecDepth 100000 in
/-- Clone: a disk of its own, whose names are its own; what else it leads to lies still. -/
theorem clone_any (h : Dk w p m (far p m) d) :
    Calls Try.prog 31 #[.pointer (some ⟨p, 0, none⟩)] w fun e w' => ∃ p' m', e = .returned (.pointer (some ⟨p', 0, none⟩)) ∧ w.heap.size ≤ p' ∧ w.heap.size ≤ m' ∧ Below w.heap.size w w' ∧ Dk w' p' m' (fun q => far p m q ∧ far p' m' q) d := by
  obtain ⟨vf, vc, vx, k, h⟩ := h.ex
  obtain ⟨A1, n1, rfl⟩ := Kd.V_slice h.f
  obtain ⟨A2, n2, rfl⟩ := Kd.V_slice h.c
  obtain ⟨A3, n3, rfl⟩ := Kd.V_slice h.x
  have c0 := h.c0
  have c1 := h.c1
  have c2 := h.c2
  have c3 := h.c3
  have c4 := h.c4
  have c5 := h.c5
  have c6 := h.c6
  have c7 := h.c7
  have c8 := h.c8
  have HD := Aside0.mk h
  clear h
  go_enter Try.func31, Try.ntmps31
  go_wp2_with (first
    | ((with_reducible refine gate_ (.store 71 (.tmp 3) (.tmp 6)) rfl ?_); refine store_box (g := w.heap.size) (vs := cellsD d (.slice A1 d.files.length n1) (.slice A2 d.changes.length n2) (.slice A3 d.fails.length n3) m k) rfl rfl rfl ?ha ?hx (blk_new w _) ?ht ?hsz ?h1 ?_; (case ha => rfl); (case hx => rfl); (case ht => kernel_rfl); (case hsz => rfl); (case h1 => (apply all_one; rfl)); intro w1 hs_ hf_ hz_ hb_
       have hb1 := hb_ w.heap.size w (Nat.le_refl _) (below_alloc (Below.refl _ _) _)
       have hs1 : w1.heap.size = w.heap.size + 1 := by rw [hz_]; simp
       have hd1 := HD.out.below hb1
       have c31 := hd1.c3
       have H1 := Aside0.mk (And.intro hs_ (And.intro hb1 (And.intro hs1 hd1)))
       clear hs_ hf_ hz_ hb_ hb1 hs1 hd1 c0 c1 c2 c3 c4 c5 c6 c7 c8)
    | (go_at_call 49; refine (mclone_any H1.out.2.2.2.n).mono ?_; rintro e w2 ⟨rfl, hn2, o, hw2⟩
       have hb2 : w2.heap[w.heap.size]? = some (.cells (cellsD d (.slice A1 d.files.length n1) (.slice A2 d.changes.length n2) (.slice A3 d.fails.length n3) m k) 71 (0, 0)) := by rw [hw2]; exact blk_alloc H1.out.1 o
       have hbb : Below w.heap.size w w2 := by rw [hw2]; exact below_alloc H1.out.2.1 o
       have c32 : w2.cell? ⟨w.heap.size, 3, none⟩ = some (.map (some m)) := (blk_cell hb2 3).trans rfl
       have f32 : w2.frozen? ⟨w.heap.size, 3, none⟩ = false := blk_frozen hb2 3
       have H2 := Aside0.mk (And.intro hn2 (And.intro hb2 hbb))
       clear hn2 hw2 hb2 hbb))
  go_ret
  have h1 := H1.out.2.2.1
  have hp := blk_put H2.out.2.1 3 (.map (some w1.heap.size)) (cs' := cellsD d (.slice A1 d.files.length n1) (.slice A2 d.changes.length n2) (.slice A3 d.fails.length n3) w1.heap.size k) (by simp [cellsD])
  have hbw : Below w.heap.size w (w2.setCell ⟨w.heap.size, 3, none⟩ (.map (some w1.heap.size))) := ((Kept.of_below H2.out.2.2 (fun _ => False)).setCell (.inr (Nat.le_refl _)) _).to_below (fun _ h => h.elim)
  have hn : NMap (w2.setCell ⟨w.heap.size, 3, none⟩ (.map (some w1.heap.size))) w1.heap.size d.names := H2.out.1.same (Below.heap_setCell w2 _ _ w1.heap.size (by simp only; omega))
  exact ⟨w.heap.size, w1.heap.size, rfl, Nat.le_refl _, by omega, hbw, (HD.out.twin hbw (Nat.le_refl _) (by omega) hp hn).dk⟩
end
end Go.Proofs.Ytfbpplgpmgnmjaa.P

