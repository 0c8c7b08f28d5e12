/- How what comes in is read, kind by kind: a reading of any value of a type gives the Lean value that the walks speak of. -/
import Derived.OpenShut
import Derived.ProofKit
import Derived.ChangeOld
import Derived.Test.YtfbpplgpmgnmjaaWWords
namespace Go.Proofs.YtfbpplgpmgnmjaaW.PrintWords
open Go.RowKit Go.ChangeShapes Go.WideShapes

def Opens {α : Type} (P : Program) (t : TypeId) (d : Kd α) (G : α → Prop) : Prop :=
  ∀ (H : Type) (enc : TypeId × Value → H) (w : World) (fuel : Nat) (cs : List Value) (x : DataW H × List MemPlace), DataW.trod enc P w 0 (fun _ => true) true fuel t cs = some x → ∃ a, d.K w a cs ∧ G a

theorem opens_int {P : Program} {t : TypeId} {k : IntKind} (h : P.underlying t = some (.int k)) : Opens P t (Kd.int k) (fun n => (Lit.int k n).wf = true) := by
  intro H enc w fuel cs x hx
  obtain ⟨n, rfl, _, hw⟩ := DataW.trod_int h hx
  exact ⟨n, rfl, hw⟩
theorem opens_bool {P : Program} {t : TypeId} (h : P.underlying t = some .bool) : Opens P t Kd.bool (fun _ => True) := by
  intro H enc w fuel cs x hx
  obtain ⟨n, rfl, _⟩ := DataW.trod_bool h hx
  exact ⟨n, rfl, trivial⟩
theorem opens_string {P : Program} {t : TypeId} (h : P.underlying t = some .string) : Opens P t Kd.string (fun s => s.size ≤ maxLen) := by
  intro H enc w fuel cs x hx
  obtain ⟨n, rfl, _, hs⟩ := DataW.trod_string h hx
  exact ⟨n, rfl, hs⟩
theorem Opens.imp {α : Type} {P : Program} {t : TypeId} {d : Kd α} {G G' : α → Prop} (h : Opens P t d G) (hi : ∀ a, G a → G' a) : Opens P t d G' := by
  intro H enc w fuel cs x hx
  obtain ⟨a, h1, h2⟩ := h H enc w fuel cs x hx
  exact ⟨a, h1, hi a h2⟩

theorem list_of {α : Type} {Q : Nat → α → Prop} : ∀ n, (∀ i, i < n → ∃ a, Q i a) → ∃ xs : List α, xs.length = n ∧ ∀ i a, xs[i]? = some a → Q i a
  | 0, _ => ⟨[], rfl, fun i a h => by simp at h⟩
  | n + 1, h => by
    obtain ⟨xs, hl, hq⟩ := list_of n (fun i hi => h i (by omega))
    obtain ⟨a, ha⟩ := h n (by omega)
    refine ⟨xs ++ [a], by simp [hl], fun i b hb => ?_⟩
    by_cases hi : i < n
    · rw [List.getElem?_append_left (by omega)] at hb
      exact hq i b hb
    · rw [List.getElem?_append_right (by omega)] at hb
      have hlt := (List.getElem?_eq_some_iff.1 hb).1
      simp at hlt
      have e : i - xs.length = 0 := by omega
      rw [e] at hb
      simp at hb
      subst hb
      have : i = n := by omega
      subst this
      exact ha

theorem opens_slice {α : Type} {P : Program} {t e : TypeId} {d : Kd α} {G : α → Prop} (h : P.underlying t = some (.slice e)) (hc : P.cellsOf e = d.sz) (o : Opens P e d G) :
    Opens P t (Kd.slice e d) (fun l => l.length ≤ maxLen ∧ ∀ a ∈ l, G a) := by
  intro H enc w fuel cs x hx
  rcases DataW.trod_slice h hx with ⟨rfl, _⟩ | ⟨a, len, cap, elems, rest, n, _, rfl, _, hb, hl, hm, hlen, hel, hsp, hns⟩
  · exact ⟨[], ⟨none, 0, rfl, Nat.le_refl _, Kd.C_nil d w⟩, by simp [maxLen], fun a ha => by cases ha⟩
  · have hm2 : cap ≤ 9223372036854775807 := by unfold maxLen at hm; exact hm
    have each : ∀ i, i < len → ∃ y : α, (∃ c : List Value, c.length = d.sz ∧ d.K w y c ∧ ∀ j u, c[j]? = some u → w.cell? (a.add (i * d.sz + j)) = some u) ∧ G y := by
      intro i hi
      have h1 := hel i hi
      rw [List.getElem?_eq_getElem (by omega)] at h1
      rw [Option.bind_eq_some_iff] at h1
      obtain ⟨c, hcs, hy⟩ := h1
      obtain ⟨y, hk, hg⟩ := o H enc w n c _ hy
      obtain ⟨_, hcl, hcell⟩ := World.cells?_some hcs
      rw [hc] at hcl hcell
      refine ⟨y, ⟨c, hcl, hk, fun j u hu => ?_⟩, hg⟩
      have hj : j < d.sz := by
        have := (List.getElem?_eq_some_iff.1 hu).1
        omega
      have h2 := hcell j hj
      rw [hu, add_add] at h2
      exact h2
    obtain ⟨xs, hxl, hxs⟩ := list_of len each
    refine ⟨xs, ⟨some a, cap, by rw [hxl], by omega, rfl, by omega, fun _ => ⟨a, rfl, fun j p hp => (hxs j p hp).1⟩⟩, by omega, fun y hy => ?_⟩
    obtain ⟨i, hi⟩ := List.getElem?_of_mem hy
    exact (hxs i y hi).2

/-- Values in line: types and places. -/
def OpensF {α : Type} (P : Program) (fs : List (TypeId × Nat)) (off : Nat) (d : Kd α) (G : α → Prop) : Prop :=
  ∀ (H : Type) (enc : TypeId × Value → H) (w : World) (n : Nat) (cs : List Value) (xs : List (DataW H × List MemPlace)), cs.length = off + d.sz → xs.length = fs.length →
    (∀ (i : Nat) (f : TypeId × Nat), fs[i]? = some f → DataW.trod enc P w 0 (fun _ => true) true n f.1 ((cs.drop f.2).take (P.cellsOf f.1)) = xs[i]?) → ∃ a, d.K w a (cs.drop off) ∧ G a

theorem opensF_one {α : Type} {P : Program} {t off : Nat} {d : Kd α} {G : α → Prop} (hc : P.cellsOf t = d.sz) (o : Opens P t d G) : OpensF P [(t, off)] off d G := by
  intro H enc w n cs xs hl hx h
  have h0 := h 0 _ rfl
  rw [List.getElem?_eq_getElem (by simp at hx; omega)] at h0
  simp only [hc] at h0
  rw [List.take_of_length_le (by rw [List.length_drop]; omega)] at h0
  exact o H enc w n _ _ h0

theorem opensF_cons {α β : Type} {P : Program} {t off : Nat} {r : List (TypeId × Nat)} {d : Kd α} {d2 : Kd β} {G : α → Prop} {G2 : β → Prop} (hc : P.cellsOf t = d.sz) (o : Opens P t d G)
    (o2 : OpensF P r (off + d.sz) d2 G2) : OpensF P ((t, off) :: r) off (Kd.pair d d2) (fun x => G x.1 ∧ G2 x.2) := by
  intro H enc w n cs xs hl hx h
  have hsz : (Kd.pair d d2).sz = d.sz + d2.sz := rfl
  rw [hsz] at hl
  cases xs with
  | nil => simp at hx
  | cons y ys =>
    have h0 := h 0 _ rfl
    rw [List.getElem?_cons_zero] at h0
    simp only [hc] at h0
    obtain ⟨a, ha, ga⟩ := o H enc w n _ _ h0
    obtain ⟨b, hb, gb⟩ := o2 H enc w n cs ys (by omega) (by simpa using hx) (fun i f hf => by
      have := h (i + 1) f (by simpa using hf)
      simpa using this)
    refine ⟨(a, b), ⟨_, _, ?_, ha, hb⟩, ga, gb⟩
    rw [← List.drop_drop, List.take_append_drop]

theorem opens_struct {α β : Type} {P : Program} {t : TypeId} {fs : Array Field} {l : List (TypeId × Nat)} {d : Kd α} {G : α → Prop} {f : β → α} (h : P.underlying t = some (.struct fs)) (hl : fs.toList.map (fun f => (f.type, f.offset)) = l) (hc : P.cellsOf t = d.sz)
    (o : OpensF P l 0 d G) (hs : ∀ a, ∃ b, f b = a) : Opens P t (Kd.iso d f) (fun b => G (f b)) := by
  intro H enc w fuel cs x hx
  obtain ⟨xs, n, _, _, hlen, hxl, hall⟩ := DataW.trod_struct h hx
  subst hl
  obtain ⟨a, ha, ga⟩ := o H enc w n cs xs (by omega) (by simp [hxl]) (fun i g hg => by
    rw [List.getElem?_map] at hg
    cases hfi : fs.toList[i]? with
    | none => rw [hfi] at hg; simp at hg
    | some q =>
      rw [hfi] at hg
      simp at hg
      subst hg
      exact hall i q (by simpa using hfi))
  obtain ⟨b, rfl⟩ := hs a
  exact ⟨b, show d.K w (f b) cs by simpa using ha, ga⟩

theorem opens_array {α β : Type} {P : Program} {t e : TypeId} {m : Nat} {l : List (TypeId × Nat)} {d : Kd α} {G : α → Prop} {f : β → α} (h : P.underlying t = some (.array m e)) (hl : (List.range m).map (fun i => (e, i * P.cellsOf e)) = l) (hc : P.cellsOf t = d.sz)
    (o : OpensF P l 0 d G) (hs : ∀ a, ∃ b, f b = a) : Opens P t (Kd.iso d f) (fun b => G (f b)) := by
  intro H enc w fuel cs x hx
  obtain ⟨xs, n, _, _, hlen, hxl, hall⟩ := DataW.trod_array h hx
  subst hl
  obtain ⟨a, ha, ga⟩ := o H enc w n cs xs (by omega) (by simp [hxl]) (fun i g hg => by
    rw [List.getElem?_map] at hg
    cases hfi : (List.range m)[i]? with
    | none => rw [hfi] at hg; simp at hg
    | some q =>
      rw [hfi] at hg
      simp at hg
      subst hg
      obtain ⟨hq, hq2⟩ := List.getElem?_eq_some_iff.1 hfi
      simp at hq hq2
      subst hq2
      exact hall i hq)
  obtain ⟨b, rfl⟩ := hs a
  exact ⟨b, show d.K w (f b) cs by simpa using ha, ga⟩

theorem Opens.arg {H : Type} {enc : TypeId × Value → H} {α : Type} {P : Program} {t : TypeId} {d : Kd α} {G : α → Prop} (o : Opens P t d G) {W : World} {v : Value} {y : DataW H} {p : List MemPlace}
    (h : DataW.Trod enc P W 0 (fun _ => true) true t v y p) : ∃ a, d.K W a v.cells.toList ∧ G a := by
  obtain ⟨fuel, hf⟩ := h
  exact o H enc W fuel _ _ hf

theorem okWide_agg {P : Program} {w : World} {r : Reach} {base : Nat} {t : TypeId} {v : Value} {fs : Array Field} (ht : P.underlying t = some (.struct fs)) (h : Value.okWide P w r base t v) : ∃ cs : Array Value, v = .agg cs := by
  simp only [Value.okWide, ht] at h
  obtain ⟨cs, h1, _⟩ := h
  exact ⟨cs, h1⟩
theorem okWide_aggA {P : Program} {w : World} {r : Reach} {base : Nat} {t e : TypeId} {n : Nat} {v : Value} (ht : P.underlying t = some (.array n e)) (h : Value.okWide P w r base t v) : ∃ cs : Array Value, v = .agg cs := by
  simp only [Value.okWide, ht] at h
  obtain ⟨cs, h1, _⟩ := h
  exact ⟨cs, h1⟩
theorem agg_of {cs : Array Value} {l : List Value} (h : (Value.agg cs).cells.toList = l) : Value.agg cs = .agg l.toArray := by
  subst h
  simp [Value.cells]

theorem wf_i64 {n : Int} (h : (Lit.int .i64 n).wf = true) : -9223372036854775808 ≤ n ∧ n ≤ 9223372036854775807 := by
  simp [Lit.wf, IntKind.min, IntKind.max, IntKind.signed, IntKind.bits] at h
  omega
theorem wf_u64 {n : Int} (h : (Lit.int .u64 n).wf = true) : 0 ≤ n ∧ n ≤ 18446744073709551615 := by
  simp [Lit.wf, IntKind.min, IntKind.max, IntKind.signed, IntKind.bits] at h
  omega
theorem wf_u8 {n : Int} (h : (Lit.int .u8 n).wf = true) : 0 ≤ n ∧ n ≤ 255 := by
  simp [Lit.wf, IntKind.min, IntKind.max, IntKind.signed, IntKind.bits] at h
  omega
theorem wf_u16 {n : Int} (h : (Lit.int .u16 n).wf = true) : 0 ≤ n ∧ n ≤ 65535 := by
  simp [Lit.wf, IntKind.min, IntKind.max, IntKind.signed, IntKind.bits] at h
  omega
end Go.Proofs.YtfbpplgpmgnmjaaW.PrintWords
