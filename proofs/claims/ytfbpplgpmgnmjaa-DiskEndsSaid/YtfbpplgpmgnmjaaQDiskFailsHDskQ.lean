/- Texts of DiskFails. Merged: HDskQ. -/
import Derived.Test.YtfbpplgpmgnmjaaQDiskFailsHDskP
import Derived.Test.YtfbpplgpmgnmjaaQDiskFailsHDskL
import Derived.Shelf.SlIter.Collect
import Derived.RangeFuncBox
/- slices.AppendSeq and slices.Collect of names, against whatever iterator gives them. -/
namespace Go.Proofs.Ytfbpplgpmgnmjaa.P
open Go.RowKit Go.Proofs.YtfbpplgpmgnmjaaW.PrintWords Go.Proofs.YtfbpplgpmgnmjaaW.PrintLast Go.Proofs.YtfbpplgpmgnmjaaW.PrintMore
set_option linter.unusedVariables false
set_option linter.unusedSimpArgs false
theorem infoNm : (Try.prog.info? 73).map (fun i => (i.zero, i.size, i.bytes)) = some (some (.agg #[.string ⟨#[]⟩]), 1, 16) := by kernel_rfl
def apAssign : Code := Code.region 2 #[{ dst := some 5, op := Op.alloc 73, type := 0, pos := "iter.go:51", after := #[], guard := none },
  { dst := none, op := Op.store 73 (Operand.tmp 5) (Operand.tmp 7), type := 0, pos := "iter.go:51", after := #[{ on := 0, ground := Ground.data }, { on := 0, ground := Ground.phase }], guard := none }] false
def apBody : Code := Code.block 1 (Code.region 3 #[{ dst := some 8, op := Op.load 85 (Operand.tmp 2), type := 85, pos := "iter.go:52", after := #[], guard := none },
  { dst := some 9, op := Op.load 73 (Operand.tmp 5), type := 73, pos := "iter.go:52", after := #[], guard := none },
  { dst := some 10, op := Op.buildSlice 85 1 #[(0, Operand.tmp 9)], type := 85, pos := "iter.go:52", after := #[{ on := 1, ground := Ground.data }], guard := none },
  { dst := some 11, op := Op.call { callee := Callee.builtin Builtin.append, args := #[Operand.tmp 8, Operand.tmp 10], argTypes := #[85, 85] }, type := 85, pos := "iter.go:52", after := #[{ on := 0, ground := Ground.data }, { on := 2, ground := Ground.data }], guard := none },
  { dst := none, op := Op.store 85 (Operand.tmp 2) (Operand.tmp 11), type := 0, pos := "iter.go:52", after := #[{ on := 3, ground := Ground.data }, { on := 3, ground := Ground.chain }, { on := 0, ground := Ground.phase }, { on := 1, ground := Ground.phase }, { on := 2, ground := Ground.phase }, { on := 3, ground := Ground.phase }], guard := none }] false)
/-- The loop's record: the call's slots as they stood when it began. -/
def apLoop (fn : FuncId) (sv : Value) (Bs D : Nat) (st : LoopState) (pe : Option Code) : Loop :=
  { state := st, pending := pe, fn, tmps := #[.slice none 0 0, sv, .pointer (some ⟨Bs, 0, none⟩), undef, .slice none 0 0, undef, sv, undef, undef, undef, undef, undef, undef], params := #[7], assign := apAssign, body := apBody, defers := D }
/-- Between two rounds. -/
structure Gather (w0 : World) (fn : FuncId) (sv : Value) (Bs l D : Nat) (xs : List ByteArray) (W : World) : Prop where
  box : ∃ v, W.heap[Bs]? = some (.cells #[v] 85 (0, 0)) ∧ W.ownsRow w0.heap.size 73 1 v xs.length (xs.map Value.string)
  loop : W.heap[l]? = some (.loop (apLoop fn sv Bs D .ready none))
  dfr : W.heap[D]? = some (.deferred (some []))
  below : Below w0.heap.size w0 W
theorem row_walk {W W' : World} {row : Option Nat} {base : Nat} {e : TypeId} {size : Nat} {v : Value} {k : Nat} {xs : List Value} (h : W.ownsRow base e size v k xs) (hg : W.grownBy W' row)
    (hrow : ∀ r, row = some r → ∃ o : Obj, W.heap[r]? = some o ∧ o.isWalk = true) : W'.ownsRow base e size v k xs := ownsRow_abides_a h hg hrow
theorem gather_abides (w0 : World) (fn : FuncId) (sv : Value) (Bs l D B : Nat) (hB : w0.heap.size ≤ B) : AbidesFrom B (Gather w0 fn sv Bs l D) := fun s W W' row h hg hrow => by
  have hr : ∀ r, row = some r → ∃ o : Obj, W.heap[r]? = some o ∧ o.isWalk = true := fun r e => (hrow r e).2
  obtain ⟨v, hv, ho⟩ := h.box
  exact ⟨⟨v, (grownBy_keeps hg hr hv rfl).trans hv, row_walk ho hg hr⟩, (grownBy_keeps hg hr h.loop rfl).trans h.loop, (grownBy_keeps hg hr h.dfr rfl).trans h.dfr, h.below.grown hg h.below.size (fun k e => Nat.le_trans hB (hrow k e).1)⟩
/-- A block that holds no cells of names is not the row's. -/
theorem row_ne {W : World} {base size : Nat} {v : Value} {k : Nat} {xs : List Value} (h : W.ownsRow base 73 size v k xs) {j : Nat} {o : Obj} (hj : W.heap[j]? = some o) (hno : ∀ cur, o ≠ .cells cur 73 (0, 0)) : v.ownBlock ≠ some j := by
  rcases ownsRow_ne_a h hj hno with e | e
  · rw [e]; simp
  · exact e
theorem nm_ne : (85 : Nat) ≠ 73 := by decide
set_option maxRecDepth 100000 in
set_option maxHeartbeats 4000000 in
/-- One round. -/
theorem gather_yield (n : Nat) (w0 : World) (fn : FuncId) (sv : Value) (Bs l D : Nat) (hBl : Bs ≠ l) (hDl : D ≠ l) (hDB : D ≠ Bs) (h0B : w0.heap.size ≤ Bs) (h0l : w0.heap.size ≤ l)
    (xs : List ByteArray) (x : ByteArray) (W : World) (h : Gather w0 fn sv Bs l D xs W) (hlen : xs.length < 1000000) :
    YieldAt Fence.wide n Try.prog l #[kN x] W fun e W' => e = .returned (.bool true) ∧ Gather w0 fn sv Bs l D (xs ++ [x]) W' ∧ KeepsWalks W W' := by
  obtain ⟨i0, hi, hz0, hz1, hz2⟩ := info_parts infoNm
  obtain ⟨v, hv, hrow⟩ := h.box
  refine ⟨fn, #[.slice none 0 0, sv, .pointer (some ⟨Bs, 0, none⟩), undef, .slice none 0 0, undef, sv, .agg #[.string x], undef, undef, undef, undef, undef], apAssign, apBody, by simpa [apLoop, kN] using run_yield (P := Try.prog) (args := #[kN x]) h.loop rfl, roundIn_of_wpIn trivial ?_⟩
  obtain ⟨W1, hW1⟩ : ∃ W1, W1 = W.alloc (.cells #[.string x] 73) := ⟨_, rfl⟩
  have hL1 : W1.heap[l]? = some (.loop (apLoop fn sv Bs D .ready none)) := by rw [hW1]; exact blk_alloc h.loop _
  have hv1 : W1.heap[Bs]? = some (.cells #[v] 85 (0, 0)) := by rw [hW1]; exact blk_alloc hv _
  have hK1 : W1.heap[D]? = some (.deferred (some [])) := by rw [hW1]; exact blk_alloc h.dfr _
  have hx1 : W1.heap[W.heap.size]? = some (.cells #[.string x] 73 (0, 0)) := by rw [hW1]; exact blk_new _ _
  have hrow1 : W1.ownsRow w0.heap.size 73 1 v xs.length (xs.map Value.string) := by rw [hW1]; exact hrow.alloc _
  have hb1 : Below w0.heap.size w0 W1 := by rw [hW1]; exact below_alloc h.below _
  have hk1 : KeepsWalks W W1 := by rw [hW1]; exact KeepsWalks.alloc _ _
  have hbr := run_beginRound (P := Try.prog) hL1 rfl
  obtain ⟨W2, hW2⟩ : ∃ W2, W2 = W1.putObj l (.loop { apLoop fn sv Bs D .ready none with state := .busy }) := ⟨_, rfl⟩
  rw [← hW2, hW1] at hbr
  have hxl : W.heap.size ≠ l := (Nat.ne_of_lt (blk_lt h.loop)).symm
  have hg2 : W1.grownBy W2 (some l) := by rw [hW2]; exact grownBy_putObj_a _ _ _
  have hv2 : W2.heap[Bs]? = some (.cells #[v] 85 (0, 0)) := by rw [hW2]; exact (World.putObj_heap_other hBl).trans hv1
  have hK2 : W2.heap[D]? = some (.deferred (some [])) := by rw [hW2]; exact (World.putObj_heap_other hDl).trans hK1
  have hL2 : W2.heap[l]? = some (.loop { apLoop fn sv Bs D .ready none with state := .busy }) := by rw [hW2]; exact World.putObj_heap_same (blk_lt hL1)
  have hx2 : W2.cell? ⟨W.heap.size, 0, none⟩ = some (.string x) := (blk_cell (show W2.heap[W.heap.size]? = _ by rw [hW2]; exact (World.putObj_heap_other hxl).trans hx1) 0).trans rfl
  have hk2 : KeepsWalks W W2 := by rw [hW2]; exact hk1.trans (KeepsWalks.putObj _ hL1 rfl)
  have hrow2 := hrow1.kept hg2 (.inr (row_ne hrow1 hL1 (fun cur e => by cases e)))
  have hb2 : Below w0.heap.size w0 W2 := hb1.grown hg2 hb1.size (fun k e => by cases e; exact h0l)
  have hc2 : W2.cell? ⟨Bs, 0, none⟩ = some v := (blk_cell hv2 0).trans rfl
  have HH := Aside0.mk (And.intro hrow2 (And.intro hb2 hk2))
  have HB := Aside0.mk (And.intro hv2 (And.intro hL2 hK2))
  clear hW2 hW1 hL1 hv1 hK1 hx1 hrow1 hb1 hk1 hg2 hv2 hK2 hL2 hk2 hrow2 hb2 hrow hv
  unfold apAssign
  gi_wp2_with gi_round_op_a
  unfold apBody
  gi_wp2_with (first
    | (gi_at_builtin; refine wpListIn_append_own _ rfl _ _ 85 rfl w0.heap.size 73 i0 (.agg #[.string ⟨#[]⟩]) 1 16 Try.underlying85 hi hz0 hz1 hz2 rfl (by decide) _ _ _ rfl (HH.out.1.alloc _) ⟨W2.heap.size, 0, none⟩ 1 1 [.string x] rfl rfl (cell_one_new _ _ _) (by simp [Value.oneCell']) (by unfold maxLen; omega) (by omega) (by have := HH.out.2.1.size; simp; omega) ?_; intro v' w3 hown' hg3 hnil3
       obtain ⟨g', cap', rfl⟩ := ownsRow_succ hown'
       have HA := Aside0.mk (Boxed.appended HB.out.1 nm_ne HH.out.1 HH.out.2.1.size h0B hown' hg3)
       have hc3 := HA.out.1.cell
       have hf3 := HA.out.1.frozen
       clear hown' hg3 hnil3)
    | gi_round_op_a)
  have hA := HA.out
  obtain ⟨W4, hW4⟩ : ∃ W4, W4 = w3.setCell ⟨Bs, 0, none⟩ (.slice (some ⟨g', 0, none⟩) (xs.length + 1) cap') := ⟨_, rfl⟩
  rw [← hW4] at hA ⊢
  obtain ⟨_, hv4, hrow4, hk4, hb4⟩ := hA
  have hL4 := hk4.same _ _ HB.out.2.1 rfl
  have hD4 := hk4.same _ _ HB.out.2.2 rfl
  have hw4 : KeepsWalks W W4 := HH.out.2.2.trans hk4.walks
  have hbw4 : Below w0.heap.size w0 W4 := HH.out.2.1.trans hb4
  clear hW4 HA
  refine ⟨_, _, run_endRound none hL4, rfl, ⟨⟨_, (World.putObj_heap_other hBl).trans hv4, ?_⟩, World.putObj_heap_same (blk_lt hL4), (World.putObj_heap_other hDl).trans hD4, hbw4.grown (grownBy_putObj_a _ _ _) hbw4.size (fun k e => by cases e; exact h0l)⟩, hw4.trans (KeepsWalks.putObj _ hL4 rfl)⟩
  have := ownsRow_putObj hrow4 (.loop { { apLoop fn sv Bs D .ready none with state := .busy } with state := if (none : Option Code).isNone then .ready else .done, pending := none }) hL4 rfl
  simpa using this
set_option maxRecDepth 100000 in
set_option maxHeartbeats 4000000 in
theorem gather_any (n : Nat) (hn : 2 ≤ n) (g : Nat) (lb : Array Value) (eg : ∀ args w, (callFunc g args).run Try.prog w = .ok (.enter g args) w) (S : List ByteArray → Prop) (N : Nat) (hN : N ≤ 1000000) (w : World) (hseq : SeqGives Fence.wide (n - 1) Try.prog g lb kN S N w) :
    CallsIn Fence.wide n Try.prog 85 #[.slice none 0 0, .func (.func g) #[] lb] w fun e w' => ∃ (v : Value) (xs : List ByteArray), e = .returned v ∧ S xs ∧ w'.ownsRow w.heap.size 73 1 v xs.length (xs.map Value.string) ∧ Below w.heap.size w w' := by
  refine callsIn_of_wp_marks Try.func85 rfl trivial ?_ rfl
  simp only [Try.ntmps85, List.size_toArray, List.length_cons, List.length_nil, Nat.reduceAdd, Nat.reduceSub, Array.replicate_succ, Array.replicate_zero, List.push_toArray, List.append_toArray, List.nil_append, List.cons_append]
  gi_wp2
  refine wpIn_rangeFunc ?_
  intro fn hfn
  show ∃ l, _
  obtain ⟨W0, hW0⟩ : ∃ W0, W0 = w.alloc (.cells #[.slice none 0 0] 85) := ⟨_, rfl⟩
  have hs0 : W0.heap.size = w.heap.size + 1 := by rw [hW0]; simp
  have hv0 : W0.heap[w.heap.size]? = some (.cells #[.slice none 0 0] 85 (0, 0)) := by rw [hW0]; exact blk_new w _
  have hb0 : Below w.heap.size w W0 := by rw [hW0]; exact below_alloc (Below.refl _ _) _
  rw [← hW0]
  obtain ⟨W1, hW1⟩ : ∃ W1, W1 = (W0.alloc (.deferred (some []))).alloc (.loop (apLoop fn (.func (.func g) #[] lb) w.heap.size W0.heap.size .ready none)) := ⟨_, rfl⟩
  have hs1 : W1.heap.size = W0.heap.size + 2 := by rw [hW1]; simp
  have hb1 : Below w.heap.size w W1 := by rw [hW1]; exact below_alloc (below_alloc hb0 _) _
  have hG : Gather w fn (.func (.func g) #[] lb) w.heap.size (W0.heap.size + 1) W0.heap.size [] W1 := by
    refine ⟨⟨_, by rw [hW1]; exact blk_alloc (blk_alloc hv0 _) _, ⟨rfl, .inl ⟨rfl, rfl⟩⟩⟩, ?_, ?_, hb1⟩
    · rw [hW1]
      have := World.alloc_heap_new (W0.alloc (.deferred (some []))) (.loop (apLoop fn (.func (.func g) #[] lb) w.heap.size W0.heap.size .ready none))
      rwa [World.size_alloc] at this
    · rw [hW1]; exact (Below.heap_alloc _ _ _ (by simp)).trans (World.alloc_heap_new W0 _)
  refine ⟨W0.heap.size + 1, [{ target := .collected W0.heap.size, args := #[] }], W1, { target := .fn (.func g) lb, args := #[.func (.yield (W0.heap.size + 1)) #[] #[]] }, W1, g, #[.func (.yield (W0.heap.size + 1)) #[] #[]] ++ lb, W1, ?_, ?_, ?_, ?_, fun _ => by omega, ?_⟩
  · rw [hW1]; exact run_enterLoop_outer _ _ _ _ _
  · simp [resolve, go_sem]
  · intro f' _; trivial
  · simp [invoke, go_sem, eg]
  · refine (hseq (W0.heap.size + 1) (Gather w fn (.func (.func g) #[] lb) w.heap.size (W0.heap.size + 1) W0.heap.size) W1 hb1 (gather_abides w fn _ _ _ _ _ hb1.size)
      (fun pre x W hJ hl => gather_yield _ w fn _ w.heap.size (W0.heap.size + 1) W0.heap.size (by omega) (by omega) (by omega) (Nat.le_refl _) (by omega) pre x W hJ (by omega)) hG).mono ?_
    rintro e W2 ⟨⟨v0, rfl⟩, xs, hS, h2⟩
    obtain ⟨v, hv, hrow⟩ := h2.box
    have hend := run_endLoop (P := Try.prog) h2.loop (by simp [apLoop])
    have hrow3 := ownsRow_putObj hrow (.loop { apLoop fn (.func (.func g) #[] lb) w.heap.size W0.heap.size .ready none with state := .exhausted }) h2.loop rfl
    have hb3 := h2.below.grown (grownBy_putObj_a W2 (W0.heap.size + 1) (.loop { apLoop fn (.func (.func g) #[] lb) w.heap.size W0.heap.size .ready none with state := .exhausted })) h2.below.size (fun k e => by cases e; omega)
    have hv3 := (World.putObj_heap_other (w := W2) (o := .loop { apLoop fn (.func (.func g) #[] lb) w.heap.size W0.heap.size .ready none with state := .exhausted }) (show w.heap.size ≠ W0.heap.size + 1 by omega)).trans hv
    have hD3 := (World.putObj_heap_other (w := W2) (o := .loop { apLoop fn (.func (.func g) #[] lb) w.heap.size W0.heap.size .ready none with state := .exhausted }) (show W0.heap.size ≠ W0.heap.size + 1 by omega)).trans h2.dfr
    obtain ⟨W3, hW3⟩ : ∃ W3, W3 = W2.putObj (W0.heap.size + 1) (.loop { apLoop fn (.func (.func g) #[] lb) w.heap.size W0.heap.size .ready none with state := .exhausted }) := ⟨_, rfl⟩
    rw [← hW3] at hend hrow3 hb3 hv3 hD3
    have hc3 : W3.cell? ⟨w.heap.size, 0, none⟩ = some v := (blk_cell hv3 0).trans rfl
    have HH := Aside0.mk (And.intro hrow3 (And.intro hb3 hD3))
    clear hW3 hrow3 hb3 hv3 hD3 h2 hv hrow
    refine ⟨none, W3, hend, ?_⟩
    gi_wp2
    rw [← hs0]
    refine ⟨by simp, .inl ⟨_, _, rfl, run_takeDeferred HH.out.2.2, ?_⟩⟩
    exact ⟨_, results_tmp rfl _ _ _, v, xs, rfl, hS, ownsRow_putObj HH.out.1 _ HH.out.2.2 rfl, HH.out.2.1.grown (grownBy_putObj_a _ _ _) HH.out.2.1.size (fun k e => by cases e; omega)⟩
set_option maxHeartbeats 4000000 in
/-- slices.Collect. -/
theorem collect_any (g : Nat) (lb : Array Value) (eg : ∀ args w, (callFunc g args).run Try.prog w = .ok (.enter g args) w) (S : List ByteArray → Prop) (N : Nat) (hN : N ≤ 1000000) (w : World) (hseq : SeqGives Fence.wide 1 Try.prog g lb kN S N w) :
    Calls Try.prog 81 #[.func (.func g) #[] lb] w fun e w' => ∃ (v : Value) (xs : List ByteArray), e = .returned v ∧ S xs ∧ w'.ownsRow w.heap.size 73 1 v xs.length (xs.map Value.string) ∧ Below w.heap.size w w' := by
  have hc := callsIn_wide.1 (gather_any 2 (Nat.le_refl _) g lb eg S N hN w hseq)
  have HC := Aside0.mk hc
  clear hc hseq
  go_enter Try.func81, Try.ntmps81
  go_wp2_with (go_at_call 85; refine HC.out.mono ?_; rintro e w9 ⟨v, xs, rfl, hS, ho, hb⟩)
  go_ret
  exact ⟨v, xs, rfl, hS, ho, hb⟩
end Go.Proofs.Ytfbpplgpmgnmjaa.P

