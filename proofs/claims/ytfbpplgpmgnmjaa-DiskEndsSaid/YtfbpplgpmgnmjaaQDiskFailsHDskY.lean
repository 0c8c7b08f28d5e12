/- Texts of DiskFails. Merged: HDskY. -/
import Derived.Test.YtfbpplgpmgnmjaaMDiskFails5
import Derived.Test.YtfbpplgpmgnmjaaMDiskFails3
/- What stays of a disk through its steps: bounds, names that lead to files, each name once. -/
namespace Go.Proofs.Ytfbpplgpmgnmjaa.P
open Go.RowKit Go.Proofs.YtfbpplgpmgnmjaaW.PrintWords Go.Proofs.YtfbpplgpmgnmjaaW.PrintLast Go.Proofs.YtfbpplgpmgnmjaaW.PrintMore
set_option linter.unusedVariables false
set_option linter.unusedSimpArgs false
/-! ### names -/
def keysOf (es : List NE) : List ByteArray := es.map Prod.fst
theorem tix_some : ∀ (es : List NE) (a : ByteArray), a ∈ keysOf es → ∃ i, tix es a = some i
  | [], _, h => by simp [keysOf] at h
  | e :: es, a, h => by
    unfold tix
    split
    · exact ⟨_, rfl⟩
    · rename_i hc
      simp only [keysOf, List.map_cons, List.mem_cons] at h
      obtain ⟨i, hi⟩ := tix_some es a (h.resolve_left hc)
      exact ⟨i + 1, by rw [hi]; rfl⟩
theorem tix_mem (es : List NE) (a : ByteArray) (i : Nat) (h : tix es a = some i) : a ∈ keysOf es ∧ i < es.length ∧ (keysOf es)[i]? = some a := by
  obtain ⟨h1, h2⟩ := tix_lt es a i h
  have h3 : (keysOf es)[i]? = some a := by
    unfold keysOf
    rw [List.getElem?_map, List.getElem?_eq_getElem h1]
    simpa [List.getD, h1] using h2
  exact ⟨List.mem_of_getElem? h3, h1, h3⟩
theorem tdel_sub (es : List NE) (a : ByteArray) : (tdel es a).Sublist es := by
  unfold tdel
  split
  · exact List.eraseIdx_sublist _ _
  · exact List.Sublist.refl _
theorem tdel_len (es : List NE) (a : ByteArray) : (tdel es a).length ≤ es.length ∧ (a ∈ keysOf es → (tdel es a).length + 1 = es.length) := by
  refine ⟨(tdel_sub es a).length_le, fun h => ?_⟩
  obtain ⟨i, hi⟩ := tix_some es a h
  have := (tix_mem es a i hi).2.1
  unfold tdel
  rw [hi]
  simp only
  rw [List.length_eraseIdx, if_pos this]
  omega
theorem nodup_erase_not : ∀ (l : List ByteArray) (i : Nat) (a : ByteArray), l.Nodup → l[i]? = some a → a ∉ l.eraseIdx i
  | [], i, a, _, h => by simp at h
  | x :: l, 0, a, hn, h => by
    simp only [List.getElem?_cons_zero, Option.some.injEq] at h
    subst h
    exact (List.nodup_cons.1 hn).1
  | x :: l, i + 1, a, hn, h => by
    simp only [List.getElem?_cons_succ] at h
    rw [List.eraseIdx_cons_succ, List.mem_cons]
    intro hh
    rcases hh with rfl | hh
    · exact (List.nodup_cons.1 hn).1 (List.mem_of_getElem? h)
    · exact nodup_erase_not l i a (List.nodup_cons.1 hn).2 h hh
theorem tdel_not (es : List NE) (a : ByteArray) (hn : (keysOf es).Nodup) : a ∉ keysOf (tdel es a) := by
  unfold tdel
  cases h : tix es a with
  | none =>
    intro hm
    obtain ⟨i, hi⟩ := tix_some es a hm
    rw [h] at hi; cases hi
  | some i =>
    have h3 := (tix_mem es a i h).2.2
    simp only
    show a ∉ (es.eraseIdx i).map Prod.fst
    rw [map_erase]
    exact nodup_erase_not _ _ _ hn h3
theorem tput_in (es : List NE) (a : ByteArray) (v : Int) (h : a ∈ keysOf es) : keysOf (tput es a v) = keysOf es := by
  obtain ⟨i, hi⟩ := tix_some es a h
  have h3 := (tix_mem es a i hi).2.2
  unfold tput
  rw [hi]
  unfold keysOf at h3 ⊢
  simp only
  rw [List.map_set]
  apply List.ext_getElem?
  intro j
  rw [List.getElem?_set]
  split
  · rename_i hij
    subst hij
    rw [h3]
    have := (List.getElem?_eq_some_iff.1 h3).1
    rw [if_pos this]
  · rfl
theorem tput_out (es : List NE) (a : ByteArray) (v : Int) (h : a ∉ keysOf es) : keysOf (tput es a v) = keysOf es ++ [a] := by
  rw [tput_new es a v h]
  simp [keysOf]
theorem tput_len (es : List NE) (a : ByteArray) (v : Int) : (tput es a v).length ≤ es.length + 1 := by
  by_cases h : a ∈ keysOf es
  · have := congrArg List.length (tput_in es a v h)
    unfold keysOf at this
    rw [List.length_map, List.length_map] at this
    omega
  · have := congrArg List.length (tput_out es a v h)
    unfold keysOf at this
    simp at this
    omega
theorem tput_mem (es : List NE) (a : ByteArray) (v : Int) (e : NE) (h : e ∈ tput es a v) : e ∈ es ∨ e = (a, v) := by
  unfold tput at h
  split at h
  · exact List.mem_or_eq_of_mem_set h
  · simp only [List.mem_append, List.mem_singleton] at h
    exact h
/-- Names that are well: not too many, each once, of files that there are. -/
structure NOk (n : Nat) (es : List NE) : Prop where
  l : es.length ≤ 200
  u : (keysOf es).Nodup
  f : ∀ e ∈ es, 0 ≤ e.2 ∧ e.2 < n
theorem NOk.mono {n n' : Nat} {es : List NE} (h : NOk n es) (hn : n ≤ n') : NOk n' es := ⟨h.l, h.u, fun e he => ⟨(h.f e he).1, by have := (h.f e he).2; omega⟩⟩
theorem NOk.del {n : Nat} {es : List NE} (h : NOk n es) (a : ByteArray) : NOk n (tdel es a) :=
  ⟨Nat.le_trans (tdel_len es a).1 h.l, h.u.sublist ((tdel_sub es a).map _), fun e he => h.f e ((tdel_sub es a).subset he)⟩
theorem NOk.put {n : Nat} {es : List NE} (h : NOk n es) (a : ByteArray) (v : Int) (hl : es.length < 200) (h0 : 0 ≤ v) (h1 : v < n) : NOk n (tput es a v) := by
  refine ⟨Nat.le_trans (tput_len es a v) (by omega), ?_, fun e he => ?_⟩
  · by_cases hc : a ∈ keysOf es
    · rw [tput_in es a v hc]; exact h.u
    · rw [tput_out es a v hc]
      exact List.nodup_append.2 ⟨h.u, by simp, fun x hx y hy => by simp only [List.mem_singleton] at hy; subst hy; exact fun e => hc (e ▸ hx)⟩
  · rcases tput_mem es a v e he with he | rfl
    · exact h.f e he
    · exact ⟨h0, h1⟩
/-- A change that may be. -/
def COk (n : Nat) (es : List NE) (c : DC) : Prop := c.2.1 = ⟨#[]⟩ ∨ ((es.length < 200 ∨ c.1 ∈ keysOf es) ∧ 0 ≤ c.2.2 ∧ c.2.2 < n)
theorem NOk.do {n : Nat} {es : List NE} (h : NOk n es) {c : DC} (hc : COk n es c) : NOk n (do1 es c) := by
  unfold do1
  split
  · exact h.del _
  · rename_i hne
    rcases hc with hc | ⟨hc, h0, h1⟩
    · exact absurd hc hne
    · refine (h.del _).put _ _ ?_ h0 h1
      rcases hc with hc | hc
      · have := (tdel_len es c.1).1; omega
      · have := (tdel_len es c.1).2 hc
        have := h.l; omega
/-- What stays through the steps, N of them at most behind each other. -/
structure Good (d : DS) (N : Nat) : Prop where
  s0 : 0 ≤ d.steps
  s1 : d.steps ≤ N
  x : d.fails.length ≤ 100
  c : d.changes.length ≤ N
  f : d.files.length ≤ 200 + N
  sf : ∀ f ∈ d.files, 0 ≤ f.2 ∧ f.2 ≤ f.1.length ∧ f.1.length ≤ 1000 * N
  h : ∀ q, q ≤ d.changes.length → NOk d.files.length (leftNames d q)
  n : d.names = leftNames d d.changes.length
theorem usedOf_le (fs : List DF) (M : Nat) (hM : ∀ f ∈ fs, f.1.length ≤ M) : ∀ es : List NE, usedOf fs es ≤ ((es.length * M : Nat) : Int)
  | [] => by simp [usedOf]
  | e :: es => by
    have ih := usedOf_le fs M hM es
    have h1 : lenAt fs e.2 ≤ M := by
      unfold lenAt
      by_cases h : e.2.toNat < fs.length
      · have := hM fs[e.2.toNat] (by simp)
        simp [List.getD, h]
        omega
      · simp [List.getD, show fs[e.2.toNat]? = none from by simp; omega, zF]
    rw [usedOf_cons, List.length_cons, Nat.add_mul, Nat.one_mul]
    generalize es.length * M = z at ih ⊢
    omega
theorem Good.nok {d : DS} {N : Nat} (g : Good d N) : NOk d.files.length d.names := by rw [g.n]; exact g.h _ (Nat.le_refl _)
theorem Good.namesOk {d : DS} {N : Nat} (g : Good d N) : NamesOk d.files d.names := g.nok.f
theorem Good.used {d : DS} {N : Nat} (g : Good d N) (hN : N ≤ 10000) : used d ≤ 100000000000 := by
  have h1 := usedOf_le d.files (1000 * N) (fun f hf => (g.sf f hf).2.2) d.names
  have h2 := g.nok.l
  have h3 : d.names.length * (1000 * N) ≤ 200 * (1000 * 10000) := Nat.mul_le_mul h2 (by omega)
  unfold P.used
  generalize d.names.length * (1000 * N) = z at h1 h3
  omega
theorem Good.bd {d : DS} {N : Nat} (g : Good d N) (hN : N ≤ 10000) : Bd2 d where
  s0 := g.s0
  s1 := by have := g.s1; omega
  x := by have := g.x; omega
  c := by have := g.c; omega
  f := by have := g.f; omega
  n := g.namesOk
  u := g.used hN
theorem Good.mono {d : DS} {N N' : Nat} (g : Good d N) (hN : N ≤ N') : Good d N' :=
  ⟨g.s0, by have := g.s1; omega, g.x, by have := g.c; omega, by have := g.f; omega, fun f hf => ⟨(g.sf f hf).1, (g.sf f hf).2.1, by have := (g.sf f hf).2.2; omega⟩, g.h, g.n⟩
theorem Good.new (q : Int) (N : Nat) : Good (DS.new q) N := by
  refine ⟨by simp [DS.new], by simp [DS.new], by simp [DS.new], by simp [DS.new], by simp [DS.new], by simp [DS.new], fun q _ => ?_, rfl⟩
  have : leftNames (DS.new q) q = [] := by simp [leftNames, DS.new]
  simp only [leftNames, DS.new, List.take_nil, List.foldl_nil]
  exact ⟨by simp, by simp [keysOf], by simp⟩
/-- Nothing but steps, fails, limit and dead turned. -/
theorem Good.same {d d' : DS} {N N' : Nat} (g : Good d N) (hN : N ≤ N') (hf : d'.files = d.files) (hn : d'.names = d.names) (hk : d'.kept = d.kept) (hc : d'.changes = d.changes) (h0 : 0 ≤ d'.steps) (h1 : d'.steps ≤ N') (hx : d'.fails.length ≤ 100) : Good d' N' := by
  have hl : ∀ q, leftNames d' q = leftNames d q := fun q => by unfold leftNames; rw [hk, hc]
  have g' := g.mono hN
  exact ⟨h0, h1, hx, by rw [hc]; exact g'.c, by rw [hf]; exact g'.f, by rw [hf]; exact g'.sf, fun q hq => by rw [hf, hl]; exact g.h q (hc ▸ hq), by rw [hn, hl, hc]; exact g.n⟩
/-- Files turned, none taken away. -/
theorem Good.files {d : DS} {N N' : Nat} (g : Good d N) (hN : N ≤ N') {fs : List DF} (h1 : d.files.length ≤ fs.length) (h2 : fs.length ≤ 200 + N') (h3 : ∀ f ∈ fs, 0 ≤ f.2 ∧ f.2 ≤ f.1.length ∧ f.1.length ≤ 1000 * N') : Good { d with files := fs } N' := by
  have g' := g.mono hN
  exact ⟨g'.s0, g'.s1, g'.x, g'.c, h2, h3, fun q hq => (g.h q hq).mono h1, g.n⟩
theorem Good.turn {d : DS} {N N' : Nat} (g : Good d N) (hN : N + 1 ≤ N') {c : DC} (hc : COk d.files.length d.names c) : Good (d.turn c) N' := by
  have g' := g.mono (show N ≤ N' by omega)
  have hl : ∀ q, q ≤ d.changes.length → leftNames (d.turn c) q = leftNames d q := fun q hq => by
    unfold leftNames DS.turn
    simp only
    rw [List.take_append_of_le_length hq]
  have hl2 : leftNames (d.turn c) (d.changes.length + 1) = do1 d.names c := by
    unfold leftNames DS.turn
    simp only
    rw [List.take_of_length_le (by simp), List.foldl_append]
    rw [g.n]
    unfold leftNames
    rw [List.take_length]
    rfl
  refine ⟨g'.s0, g'.s1, g'.x, ?_, g'.f, g'.sf, fun q hq => ?_, ?_⟩
  · have := g.c
    simp only [DS.turn, List.length_append, List.length_singleton]
    omega
  · by_cases h : q ≤ d.changes.length
    · rw [hl q h]; exact g.h q h
    · have : q = d.changes.length + 1 := by
        simp only [DS.turn, List.length_append, List.length_singleton] at hq
        omega
      rw [this, hl2]
      exact g.nok.do hc
  · show do1 d.names c = leftNames (d.turn c) (d.changes ++ [c]).length
    rw [List.length_append, List.length_singleton, hl2]
theorem Good.one {d : DS} {N : Nat} (g : Good d N) : Good (one d) (N + 1) := g.same (by omega) rfl rfl rfl rfl (by have := g.s0; simp only [P.one]; omega) (by have := g.s1; simp only [P.one]; push_cast; omega) g.x
theorem mem_set_or {α : Type} {l : List α} {i : Nat} {a x : α} (h : x ∈ l.set i a) : x ∈ l ∨ x = a := List.mem_or_eq_of_mem_set h
theorem getD_mem {fs : List DF} {i : Nat} (h : i < fs.length) : fs.getD i zF ∈ fs := by simp [List.getD, h]
theorem Good.sync {d : DS} {N N' : Nat} (g : Good d N) (hN : N ≤ N') (s : ByteArray) : Good (sync1 d s).1 N' := by
  unfold sync1
  cases ht : tget d.names s with
  | none => exact g.mono hN
  | some x =>
    obtain ⟨i, rfl, hi⟩ := g.namesOk.at ht
    have g' := g.mono hN
    refine g.files hN (by simp [syncF]) (by simpa [syncF] using g'.f) (fun f hf => ?_)
    rcases mem_set_or hf with hf | rfl
    · exact g'.sf f hf
    · have := g'.sf _ (getD_mem hi)
      simp only [Int.toNat_natCast]
      exact ⟨by omega, by omega, by omega⟩
theorem Good.grow {d : DS} {N N' : Nat} (g : Good d N) (hN : N + 1 ≤ N') (s : ByteArray) (b : List Int) (many : Nat) (hb : b.length ≤ 1000) : Good (grow1 d s b many).1 N' := by
  unfold grow1
  cases ht : tget d.names s with
  | none => exact g.mono (by omega)
  | some x =>
    simp only
    split
    · exact g.mono (by omega)
    · obtain ⟨i, rfl, hi⟩ := g.namesOk.at ht
      have g' := g.mono (show N ≤ N' by omega)
      refine g.files (by omega) (by simp [growF]) (by simpa [growF] using g'.f) (fun f hf => ?_)
      rcases mem_set_or hf with hf | rfl
      · exact g'.sf f hf
      · have := g.sf _ (getD_mem hi)
        simp only [Int.toNat_natCast, List.length_append, List.length_take]
        exact ⟨by omega, by omega, by omega⟩
theorem Good.create {d : DS} {N N' : Nat} (g : Good d N) (hN : N + 2 ≤ N') (s : ByteArray) : Good (create1 d s).1 N' := by
  unfold create1
  split
  · exact g.mono (by omega)
  · split
    · exact g.mono (by omega)
    · split
      · exact g.mono (by omega)
      · rename_i h1 h2 h3
        have hmem : ∀ f ∈ d.files ++ [zF], 0 ≤ f.2 ∧ f.2 ≤ f.1.length ∧ f.1.length ≤ 1000 * (N + 1) := fun f hf => by
          rcases List.mem_append.1 hf with hf | hf
          · have := g.sf f hf; exact ⟨by omega, by omega, by omega⟩
          · simp only [List.mem_singleton] at hf
            subst hf
            simp [zF]
        have g1 : Good ({ d with files := d.files ++ [zF] } : DS) (N + 1) := g.files (by omega) (by simp) (by have := g.f; simp; omega) hmem
        have g2 := g1.turn (N' := N') (by omega) (c := (noName, s, (d.files.length : Nat))) (.inr ⟨.inl (by show d.names.length < 200; omega), by simp only; omega, by simp; omega⟩)
        exact g2
theorem Good.remove {d : DS} {N N' : Nat} (g : Good d N) (hN : N + 1 ≤ N') (s : ByteArray) : Good (remove1 d s).1 N' := by
  unfold remove1
  cases ht : tget d.names s with
  | none => exact g.mono (by omega)
  | some x => exact g.turn hN (.inl rfl)
theorem Good.rename {d : DS} {N N' : Nat} (g : Good d N) (hN : N + 1 ≤ N') (s t : ByteArray) : Good (rename1 d s t).1 N' := by
  unfold rename1
  split
  · exact g.mono (by omega)
  · cases ht : tget d.names s with
    | none => exact g.mono (by omega)
    | some x =>
      obtain ⟨i, rfl, hi⟩ := g.namesOk.at ht
      exact g.turn hN (.inr ⟨.inr (List.mem_map.2 ⟨_, tget_mem _ _ _ ht, rfl⟩), by simp only; omega, by simp only; omega⟩)
theorem Good.syncdir {d : DS} {N : Nat} (g : Good d N) : Good (syncdir1 d).1 N := by
  unfold syncdir1
  refine ⟨g.s0, g.s1, g.x, by simp, g.f, g.sf, fun q _ => ?_, rfl⟩
  simp only [leftNames, List.take_nil, List.foldl_nil]
  exact g.nok
theorem Good.step {d : DS} {N : Nat} (g : Good d N) (f : DS → DS × Int) (h : ∀ d', Good d' (N + 1) → Good (f d').1 (N + 3)) : Good (stepF d f).1 (N + 3) := by
  unfold stepF
  split
  · exact g.same (by omega) rfl rfl rfl rfl g.s0 (by have := g.s1; push_cast; omega) g.x
  · split
    · exact g.one.mono (by omega)
    · exact h _ g.one
theorem Good.append {d : DS} {N : Nat} (g : Good d N) (s : ByteArray) (b : List Int) (hb : b.length ≤ 1000) : Good (append1 d s b).1 (N + 3) := by
  unfold append1
  split
  · exact g.same (by omega) rfl rfl rfl rfl g.s0 (by have := g.s1; push_cast; omega) g.x
  · split
    · exact g.one.grow (by omega) s b _ hb
    · exact g.one.grow (by omega) s b _ hb
theorem Good.fail {d : DS} {N : Nat} (g : Good d N) (l : List Int) (hl : l.length ≤ 100) : Good { d with fails := l } N := g.same (Nat.le_refl _) rfl rfl rfl rfl g.s0 g.s1 hl
theorem Good.limit {d : DS} {N : Nat} (g : Good d N) (n : Int) : Good { d with limit := n } N := g.same (Nat.le_refl _) rfl rfl rfl rfl g.s0 g.s1 g.x
theorem leftN_le (d : DS) (n : Int) : leftN d n ≤ d.changes.length := by unfold leftN; omega
theorem namesOf_nodup {es : List NE} (h : (keysOf es).Nodup) : (namesOf es).Nodup := (sortN_perm' (es.map Prod.fst)).nodup_iff.2 h
theorem Good.crash {d : DS} {N : Nat} (g : Good d N) (n : Int) (tails : List Int) : Good (crash d n tails) N := by
  have hq := g.h (leftN d n) (leftN_le d n)
  have hfl : (crashFiles d.files (leftNames d (leftN d n)) tails).length = (leftNames d (leftN d n)).length := crashFiles_len _ _ _
  have hk : NOk (crashFiles d.files (leftNames d (leftN d n)) tails).length (crashNames (leftNames d (leftN d n))) := by
    refine ⟨by rw [crashNames_len]; exact hq.l, ?_, fun e he => ?_⟩
    · unfold keysOf
      rw [crashNames_keys]
      exact namesOf_nodup hq.u
    · obtain ⟨i, hi⟩ := List.mem_iff_getElem?.1 he
      have hil := (List.getElem?_eq_some_iff.1 hi).1
      rw [crashNames_len] at hil
      unfold crashNames at hi
      rw [List.getElem?_mapIdx] at hi
      cases hx : (namesOf (leftNames d (leftN d n)))[i]? with
      | none => rw [hx] at hi; simp at hi
      | some x =>
        rw [hx] at hi
        simp only [Option.map_some, Option.some.injEq] at hi
        subst hi
        rw [hfl]
        exact ⟨by simp only; omega, by simp only; omega⟩
  refine ⟨by simp [P.crash, DS.new], by simp [P.crash, DS.new], by simp [P.crash, DS.new], by simp [P.crash, DS.new], ?_, fun f hf => ?_, fun q _ => ?_, rfl⟩
  · show (crashFiles d.files (leftNames d (leftN d n)) tails).length ≤ 200 + N
    have := hq.l; omega
  · obtain ⟨i, hi⟩ := List.mem_iff_getElem?.1 (show f ∈ crashFiles d.files (leftNames d (leftN d n)) tails from hf)
    unfold crashFiles at hi
    rw [List.getElem?_mapIdx] at hi
    cases hx : (namesOf (leftNames d (leftN d n)))[i]? with
    | none => rw [hx] at hi; simp at hi
    | some x =>
      rw [hx] at hi
      simp only [Option.map_some, Option.some.injEq] at hi
      have hxm : x ∈ (leftNames d (leftN d n)).map Prod.fst := (sortN_perm' _).mem_iff.1 (List.mem_of_getElem? hx)
      obtain ⟨v, hv⟩ := tget_some _ _ hxm
      obtain ⟨j, rfl, hj⟩ := NamesOk.at (show NamesOk d.files (leftNames d (leftN d n)) from hq.f) hv
      rw [hv] at hi
      simp only [Option.getD_some, Int.toNat_natCast] at hi
      have hs := g.sf _ (getD_mem hj)
      have hr := crashEnd_range (d.files.getD j zF) tails i hs.1 hs.2.1
      subst hi
      unfold crashFile
      simp only [List.length_take]
      exact ⟨by omega, by omega, by omega⟩
  · have : leftNames (P.crash d n tails) q = crashNames (leftNames d (leftN d n)) := by
      unfold leftNames
      show (List.take q []).foldl do1 _ = _
      rw [List.take_nil]
      rfl
    rw [this]
    exact hk
/-! ### the calls, with what stays -/
section
variable {w : World} {p m : Nat} {d d' : DS} {N : Nat} {r : Int}
structure Did (w : World) (p m : Nat) (d' : DS) (N : Nat) (r : Int) (e : Ending) (w' : World) : Prop where
  e : e = .returned (.int .i64 r)
  d : Dk w' p m (far p m) d'
  k : Kept w w' (mutS p m)
  g : Good d' N
theorem create_g (h : Dk w p m (far p m) d) (g : Good d N) (hN : N ≤ 9000) (s : ByteArray) (e : stepF d (create1 · s) = (d', r)) : Calls Try.prog 13 #[.pointer (some ⟨p, 0, none⟩), .string s] w (Did w p m d' (N + 3) r) := by
  refine (create_any h (g.bd (by omega)).toBd s).mono (fun _ _ h => ?_)
  have hg := g.step (create1 · s) (fun d' g' => g'.create (by omega) s)
  rw [e] at h hg
  exact ⟨h.e, h.d, h.k, hg⟩
theorem sync_g (h : Dk w p m (far p m) d) (g : Good d N) (hN : N ≤ 9000) (s : ByteArray) (e : stepF d (sync1 · s) = (d', r)) : Calls Try.prog 15 #[.pointer (some ⟨p, 0, none⟩), .string s] w (Did w p m d' (N + 3) r) := by
  refine (sync_any h (g.bd (by omega)) s).mono (fun _ _ h => ?_)
  have hg := g.step (sync1 · s) (fun d' g' => g'.sync (by omega) s)
  rw [e] at h hg
  exact ⟨h.e, h.d, h.k, hg⟩
theorem syncdir_g (h : Dk w p m (far p m) d) (g : Good d N) (hN : N ≤ 9000) (e : stepF d syncdir1 = (d', r)) : Calls Try.prog 16 #[.pointer (some ⟨p, 0, none⟩)] w (Did w p m d' (N + 3) r) := by
  refine (syncdir_any h (g.bd (by omega)).toBd).mono (fun _ _ h => ?_)
  have hg := g.step syncdir1 (fun d' g' => g'.syncdir.mono (by omega))
  rw [e] at h hg
  exact ⟨h.e, h.d, h.k, hg⟩
theorem remove_g (h : Dk w p m (far p m) d) (g : Good d N) (hN : N ≤ 9000) (s : ByteArray) (e : stepF d (remove1 · s) = (d', r)) : Calls Try.prog 23 #[.pointer (some ⟨p, 0, none⟩), .string s] w (Did w p m d' (N + 3) r) := by
  refine (remove_any h (g.bd (by omega)).toBd s).mono (fun _ _ h => ?_)
  have hg := g.step (remove1 · s) (fun d' g' => g'.remove (by omega) s)
  rw [e] at h hg
  exact ⟨h.e, h.d, h.k, hg⟩
theorem rename_g (h : Dk w p m (far p m) d) (g : Good d N) (hN : N ≤ 9000) (s t : ByteArray) (e : stepF d (rename1 · s t) = (d', r)) : Calls Try.prog 24 #[.pointer (some ⟨p, 0, none⟩), .string s, .string t] w (Did w p m d' (N + 3) r) := by
  refine (rename_any h (g.bd (by omega)).toBd s t).mono (fun _ _ h => ?_)
  have hg := g.step (rename1 · s t) (fun d' g' => g'.rename (by omega) s t)
  rw [e] at h hg
  exact ⟨h.e, h.d, h.k, hg⟩
theorem append_g (h : Dk w p m (far p m) d) (g : Good d N) (hN : N ≤ 9000) (s : ByteArray) (b : List Int) (Ab : Option Addr) (cb : Nat) (okb : Nat → Prop) (hb : Kd.F (Kd.int .u8) w okb Ab b.length b) (hokb : ∀ q, okb q → q ≠ p ∧ q ≠ m) (hcb : b.length ≤ cb) (hbl : b.length ≤ 1000) (e : append1 d s b = (d', r)) :
    Calls Try.prog 14 #[.pointer (some ⟨p, 0, none⟩), .string s, .slice Ab b.length cb] w (Did w p m d' (N + 3) r) := by
  refine (append_any h (g.bd (by omega)) s b Ab cb okb hb hokb hcb (by omega)).mono (fun _ _ h => ?_)
  have hg := g.append s b hbl
  rw [e] at h hg
  exact ⟨h.e, h.d, h.k, hg⟩
end
end Go.Proofs.Ytfbpplgpmgnmjaa.P

