/- Texts of DiskFails. Merged: HDskV. -/
import Derived.Test.YtfbpplgpmgnmjaaQDiskFailsHDskU
import Derived.Test.YtfbpplgpmgnmjaaMDiskFails2
/- Used: the bytes of the files that have names. -/
namespace Go.Proofs.Ytfbpplgpmgnmjaa.P
open Go.RowKit Go.Proofs.YtfbpplgpmgnmjaaW.PrintWords Go.Proofs.YtfbpplgpmgnmjaaW.PrintLast Go.Proofs.YtfbpplgpmgnmjaaW.PrintMore
set_option linter.unusedVariables false
set_option linter.unusedSimpArgs false
section
variable {ops : Array Oper} {rest : List Oper} {o : Oper} {a : Act} {Q : Exit → Act → World → Prop} (w : World)
theorem wpList_range_N (hg : o.guard = none) (m : Operand) (hop : o.op = Op.range 67 m) (B : Nat) (es : List NE) (hm : a.eval m = .map (some B)) (hn : NMap w B es)
    (hK : ∀ ob, NIter (w.alloc ob) w.heap.size B es es → wpList Try.prog ops Q rest (a.put o.dst (.pointer (some ⟨w.heap.size, 0, none⟩))) (w.alloc ob)) :
    wpList Try.prog ops Q (o :: rest) a w := by
  refine wpList_plain hg fun K' hK' => ?_
  obtain ⟨ob, hrun, r1⟩ := hn.range
  unfold Oper.wp
  simp [execOp, hop, hm, hrun, Result.andThen]
  exact hK' _ _ (hK ob r1)
theorem wpList_next_N (hg : o.guard = none) (it : Operand) (hop : o.op = Op.next it false) (r B : Nat) (es left : List NE) (hit : a.eval it = .pointer (some ⟨r, 0, none⟩)) (h : NIter w r B es left)
    (hDone : left = [] → wpList Try.prog ops Q rest (a.put o.dst (.tuple #[.bool false])) w)
    (hMore : ∀ (x : NE) (left' : List NE) (w' : World), left.Perm (x :: left') → NIter w' r B es left' → (Instr.entry (.pointer (some ⟨r, 0, none⟩))).run Try.prog w' = .ok (.tuple #[.agg #[.string x.1], .int .i64 x.2]) w' → Kept w w' (fun i => i = r) → w'.heap.size = w.heap.size →
      wpList Try.prog ops Q rest (a.put o.dst (.tuple #[.bool true, .agg #[.string x.1], .int .i64 x.2])) w') :
    wpList Try.prog ops Q (o :: rest) a w := by
  refine wpList_plain hg fun K' hK' => ?_
  unfold Oper.wp
  rcases h.next o.type with ⟨h0, hrun⟩ | ⟨e, left', w', h1, hrun, h2, h3, h4, h5⟩
  · simp [execOp, hop, hit, hrun, Result.andThen]
    exact hK' _ _ (hDone h0)
  · simp [execOp, hop, hit, hrun, Result.andThen]
    exact hK' _ _ (hMore e left' w' h1 h2 h3 h4 h5)
end
def lenAt (fs : List DF) (i : Int) : Int := ((fs.getD i.toNat zF).1.length : Int)
def usedOf (fs : List DF) (es : List NE) : Int := (es.map (fun e => lenAt fs e.2)).sum
def used (d : DS) : Int := usedOf d.files d.names
theorem usedOf_nonneg (fs : List DF) : ∀ es : List NE, 0 ≤ usedOf fs es
  | [] => by simp [usedOf]
  | e :: es => by
    have := usedOf_nonneg fs es
    simp only [usedOf, List.map_cons, List.sum_cons] at this ⊢
    have : 0 ≤ lenAt fs e.2 := by unfold lenAt; omega
    omega
theorem usedOf_cons (fs : List DF) (e : NE) (es : List NE) : usedOf fs (e :: es) = lenAt fs e.2 + usedOf fs es := by simp [usedOf]
theorem usedOf_perm {fs : List DF} {l l' : List NE} (h : l.Perm l') : usedOf fs l = usedOf fs l' := by
  induction h with
  | nil => rfl
  | cons x _ ih => rw [usedOf_cons, usedOf_cons, ih]
  | swap x y l => rw [usedOf_cons, usedOf_cons, usedOf_cons, usedOf_cons]; omega
  | trans _ _ ih1 ih2 => exact ih1.trans ih2
section
variable {w w' : World} {p m k : Nat} {ok ok' : Nat → Prop} {d : DS} {vf vc vx : Value}
set_option maxHeartbeats 4000000 in
set_option maxRecDepth 100000 in
theorem used_any (h : DW w p m ok d vf vc vx k) (hn : NamesOk d.files d.names) (hu : used d ≤ 1000000000000) :
    Calls Try.prog 22 #[.pointer (some ⟨p, 0, none⟩)] w fun e w' => e = .returned (.int .i64 (used d)) ∧ Below w.heap.size w w' := by
  have hc3 := h.c3
  have HD := Aside0.mk h
  have HN := Aside0.mk hn
  have HU := Aside0.mk hu
  obtain ⟨u, hue⟩ : ∃ u, u = used d := ⟨_, rfl⟩
  rw [← hue] at HU ⊢
  have HUE := Aside0.mk hue
  clear h hn hu hue
  go_enter Try.func22, Try.ntmps22
  go_wp2_with (first | (at_range; refine wpList_range_N _ rfl _ rfl m d.names rfl HD.out.n ?_; intro ob hit; have HI := Aside0.mk hit; clear hit) | fail)
  go_frame
  go_loopg [3] d.names.length (fun gk v wr => ∃ (acc : Int) (left : List NE), v = .int .i64 acc ∧ Aside0 (left.length = gk) ∧ Aside0 (NIter wr w.heap.size m d.names left) ∧ Aside0 (0 ≤ acc ∧ acc + usedOf d.files left = u) ∧ Aside0 (Below w.heap.size w wr) ∧ Aside0 (∀ e ∈ left, e ∈ d.names))
  case atStart => exact ⟨0, d.names, rfl, ⟨rfl⟩, HI, ⟨by omega, by rw [HUE.out]; unfold used; omega⟩, ⟨below_alloc (Below.refl _ _) _⟩, ⟨fun _ h => h⟩⟩
  case round =>
    obtain ⟨acc, left, rfl, HL, HI, HA, HB, HM⟩ := hrel
    obtain ⟨wo, hwo⟩ : ∃ wo : World, wo = wr := ⟨_, rfl⟩
    go_wp2_with (first | (at_next; refine wpList_next_N _ rfl _ rfl w.heap.size m d.names left rfl HI.out ?_ ?_) | fail)
    · intro h0
      have HL0 := Aside0.mk h0
      clear h0
      go_wp2
      go_ret
      have h1 := HA.out.2
      rw [HL0.out] at h1
      exact ⟨by rw [← h1]; simp [usedOf], HB.out⟩
    · intro x1 x2 left' w2 hp hit hen hk hsz
      have hx : (x1, x2) ∈ d.names := HM.out (x1, x2) (hp.mem_iff.2 (List.mem_cons_self ..))
      obtain ⟨i, hxi, hi⟩ : ∃ i : Nat, x2 = (i : Int) ∧ i < d.files.length := by
        have := HN.out (x1, x2) hx
        simp only at this
        exact ⟨x2.toNat, by omega, by omega⟩
      have hd2 := (HD.out.narrow.below HB.out).kept hk (S := fun i => i = w.heap.size) (Nat.ne_of_lt HD.out.lt) (Nat.ne_of_lt HD.out.n.lt) (fun i hi => Nat.ne_of_lt hi.2)
      have hc2 := hd2.c2
      obtain ⟨ad, cap, A, c, hvf, hcap, e0, _, hc, _⟩ := file_at hd2.f i hi
      have hu : usedOf d.files left = ((d.files.getD i zF).1.length : Nat) + usedOf d.files left' := by rw [usedOf_perm hp, usedOf_cons, hxi]; rfl
      have hb2 : Below w.heap.size w w2 := ((Kept.of_below HB.out (fun _ => False)).then_ hk (fun q hq => .inr (Nat.le_of_eq hq.symm))).to_below (fun q hq => hq.elim)
      have hl2 : left.length = left'.length + 1 := by simpa using hp.length_eq
      have hnn := usedOf_nonneg d.files left'
      obtain ⟨L, hL⟩ : ∃ L, L = (d.files.getD i zF).1.length := ⟨_, rfl⟩
      rw [← hL] at e0 hc hu
      have HA2 := Aside0.mk (show 0 ≤ acc + (L : Int) ∧ acc + L + usedOf d.files left' = u by have := HA.out; omega)
      have hlo : 0 ≤ acc + (L : Int) := HA2.out.1
      have hhi : acc + (L : Int) ≤ 1000000000000 := by have := HA2.out; have := HU.out; omega
      have HP := Aside0.mk (And.intro hit (And.intro hb2 (show ∀ e ∈ left', e ∈ d.names from fun e he => HM.out e (hp.mem_iff.2 (List.mem_cons_of_mem _ he)))))
      have HL2 := Aside0.mk (show left'.length = gk - 1 ∧ 0 < gk by have := HL.out; omega)
      subst hxi
      subst hvf
      have hc3 : True := trivial
      clear hp hit hk hsz hx hd2 hu hb2 hl2 hnn hL
      go_wp2
      go_roundg (gk - 1)
      case rel => exact ⟨acc + L, left', rfl, ⟨HL2.out.1⟩, ⟨HP.out.1⟩, HA2, ⟨HP.out.2.1⟩, ⟨HP.out.2.2⟩⟩
      case measure => have := HL2.out.2; omega
end
end Go.Proofs.Ytfbpplgpmgnmjaa.P

