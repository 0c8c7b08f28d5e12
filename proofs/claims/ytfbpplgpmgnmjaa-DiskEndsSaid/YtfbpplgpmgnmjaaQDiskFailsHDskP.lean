/- Texts of DiskFails. Merged: HDskP. -/
import Derived.Test.YtfbpplgpmgnmjaaQDiskFailsHDskU
import Derived.RangeFuncGives
import Derived.RangeFuncBound
import Derived.Shelf.AbstractIn
import Derived.Sort.MapsRangeIn
import Derived.Sort.LoopGhostIn
import Derived.OwnWalkIn
import Derived.TacticsInMore
import Derived.RegionIn
import Derived.LoopNIn
import Derived.LoopIn
/- maps.Keys' iterator over the names, inside a fence: the names come, each once, in some order. -/
namespace Go.Proofs.Ytfbpplgpmgnmjaa.P
open Go.RowKit Go.Proofs.YtfbpplgpmgnmjaaW.PrintWords Go.Proofs.YtfbpplgpmgnmjaaW.PrintLast Go.Proofs.YtfbpplgpmgnmjaaW.PrintMore
set_option linter.unusedVariables false
set_option linter.unusedSimpArgs false
theorem Kept.grown {w W : World} {r : Nat} (h : Kept w W (fun i => i = r)) : w.grownBy W (some r) := ⟨h.3.1, h.3.2.1, h.3.2.2, h.1, fun k hk hn => h.2 k hk (fun e => hn (by rw [e]))⟩
theorem grownBy_alloc_n (W : World) (o : Obj) : W.grownBy (W.alloc o) none := ⟨rfl, rfl, rfl, by simp, fun k hk _ => Below.heap_alloc W o k hk⟩
section
variable {F : Fence} {n : Nat} {ops : Array Oper} {rest : List Oper} {o : Oper} {a : Act} {Q : Exit → Act → World → Prop} (w : World)
theorem wpListIn_range_N (hg : o.guard = none) (m : Operand) (hop : o.op = Op.range 67 m) (B : Nat) (es : List NE) (hm : a.eval m = .map (some B)) (hn : NMap w B es)
    (hK : ∀ ob, NIter (w.alloc ob) w.heap.size B es es → wpListIn F n Try.prog ops Q rest (a.put o.dst (.pointer (some ⟨w.heap.size, 0, none⟩))) (w.alloc ob)) :
    wpListIn F n Try.prog ops Q (o :: rest) a w := by
  refine wpListIn_plain hg fun K' hK' => ?_
  obtain ⟨ob, hrun, r1⟩ := hn.range
  unfold Oper.wpIn
  refine ⟨?_, ?_⟩
  · simp [Oper.about, hop]
  · rw [Oper.semAt_plain F _ _ (by rw [hop]; intro c hc'; cases hc')]
    simp [execOp, hop, hm, hrun, Result.andThen]
    exact hK' _ _ (hK ob r1)
theorem wpListIn_next_N (hg : o.guard = none) (it : Operand) (hop : o.op = Op.next it false) (r B : Nat) (es left : List NE) (hit : a.eval it = .pointer (some ⟨r, 0, none⟩)) (h : NIter w r B es left)
    (hDone : left = [] → wpListIn F n Try.prog ops Q rest (a.put o.dst (.tuple #[.bool false])) w)
    (hMore : ∀ (x1 : ByteArray) (x2 : Int) (left' : List NE) (w' : World), left.Perm ((x1, x2) :: left') → NIter w' r B es left' → (Instr.entry (.pointer (some ⟨r, 0, none⟩))).run Try.prog w' = .ok (.tuple #[.agg #[.string x1], .int .i64 x2]) w' → Kept w w' (fun i => i = r) → w'.heap.size = w.heap.size →
      wpListIn F n Try.prog ops Q rest (a.put o.dst (.tuple #[.bool true, .agg #[.string x1], .int .i64 x2])) w') :
    wpListIn F n Try.prog ops Q (o :: rest) a w := by
  refine wpListIn_plain hg fun K' hK' => ?_
  unfold Oper.wpIn
  refine ⟨by simp [Oper.about, hop], ?_⟩
  rw [Oper.semAt_plain F _ _ (by rw [hop]; intro c hc'; cases hc')]
  rcases h.next o.type with ⟨h0, hrun⟩ | ⟨e, left', w', h1, hrun, h2, h3, h4, h5⟩
  · simp [execOp, hop, hit, hrun, Result.andThen]
    exact hK' _ _ (hDone h0)
  · simp [execOp, hop, hit, hrun, Result.andThen]
    exact hK' _ _ (hMore e.1 e.2 left' w' h1 h2 h3 h4 h5)
end
theorem NIter.walk {W : World} {r B : Nat} {es left : List NE} (h : NIter W r B es left) : ∃ o : Obj, W.heap[r]? = some o ∧ o.isWalk = true := by
  obtain ⟨ents, clock, seen, h1, h2, h3, h4, h5, h6⟩ := h.ex
  exact ⟨_, h5, rfl⟩
theorem NIter.keep {W W' : World} {r B : Nat} {es left : List NE} (h : NIter W r B es left) (hk : KeepsWalks W W') : NIter W' r B es left := by
  obtain ⟨ents, clock, seen, h1, h2, h3, h4, h5, h6⟩ := h.ex
  exact ⟨ents, clock, seen, hk.same _ _ h1 rfl, h2, h3, h4, hk.same _ _ h5 rfl, h6⟩
set_option maxRecDepth 100000 in
set_option maxHeartbeats 4000000 in
theorem keys_in (n : Nat) (hn1 : 1 ≤ n) (l Bm B : Nat) (es : List NE) (J : List ByteArray → World → Prop)
    (hY : ∀ pre x W, J pre W → pre.length < es.length → YieldAt Fence.wide (n - 1) Try.prog l #[kN x] W fun e W' => e = .returned (.bool true) ∧ J (pre ++ [x]) W' ∧ KeepsWalks W W')
    (W : World) (hJ : AbidesFrom W.heap.size J) (hm : W.cell? ⟨Bm, 0, none⟩ = some (.map (some B))) (hN : NMap W B es) (h0 : J [] W) :
    CallsIn Fence.wide n Try.prog 83 #[.func (.yield l) #[] #[], .pointer (some ⟨Bm, 0, none⟩)] W fun e W' => (∃ v, e = .returned v) ∧ ∃ xs : List ByteArray, xs.Perm (es.map Prod.fst) ∧ J xs W' := by
  refine callsIn_of_wp Try.func83 rfl trivial ?_ rfl
  simp only [Try.ntmps83, List.size_toArray, List.length_cons, List.length_nil, Nat.reduceAdd, Nat.reduceSub, Array.replicate_succ, Array.replicate_zero, List.push_toArray, List.append_toArray, List.nil_append, List.cons_append]
  gi_wp2_with (first
    | (gi_at_range; refine wpListIn_range_N _ rfl _ rfl B es rfl hN ?_; intro ob hit)
    | gi_in)
  have hJ1 : J [] (W.alloc ob) := hJ [] W _ none h0 (grownBy_alloc_n _ _) (fun r e => by cases e)
  go_frame
  gi_loopg [3] es.length (fun gk _ wr => ∃ (left : List NE) (xs : List ByteArray), Aside0 (left.length = gk) ∧ Aside0 (NIter wr W.heap.size B es left) ∧ Aside0 ((xs ++ left.map Prod.fst).Perm (es.map Prod.fst)) ∧ Aside0 (J xs wr))
  case atStart => exact ⟨es, [], ⟨rfl⟩, ⟨hit⟩, ⟨by simp⟩, ⟨hJ1⟩⟩
  case round =>
    obtain ⟨left, xs, HL, HI, HP, HJ⟩ := hrel
    gi_wp2_with (first | (gi_at_next; refine wpListIn_next_N _ rfl _ rfl W.heap.size B es left rfl HI.out ?_ ?_) | gi_in)
    · intro hl0
      have HL0 := Aside0.mk hl0
      clear hl0
      gi_wp2
      go_end0
      refine ⟨⟨_, rfl⟩, xs, ?_, HJ.out⟩
      have := HP.out
      rw [HL0.out] at this
      simpa using this
    · intro x1 x2 left' w2 hp hit2 hen hk hsz
      have hJ2 : J xs w2 := hJ xs wr w2 (some W.heap.size) HJ.out hk.grown (fun r e => by cases e; exact ⟨Nat.le_refl _, HI.out.walk⟩)
      have hJ3 : J xs (w2.alloc (.cells #[.string x1] 73)) := hJ xs w2 _ none hJ2 (grownBy_alloc_n _ _) (fun r e => by cases e)
      have hpl : left.length = left'.length + 1 := by simpa using hp.length_eq
      have hPl := HP.out.length_eq
      have hit3 := hit2.below (below_alloc (Below.refl _ _) (.cells #[.string x1] 73))
      obtain ⟨fn, tmps, assign, body, hy, hR⟩ := hY xs x1 _ hJ3 (by simp at hPl; omega)
      unfold kN at hy
      have HQ := Aside0.mk (show ((xs ++ [x1]) ++ left'.map Prod.fst).Perm (es.map Prod.fst) by
        have h1 := hp.map Prod.fst
        simp only [List.map_cons] at h1
        have h2 : (xs ++ left.map Prod.fst).Perm (xs ++ (x1 :: left'.map Prod.fst)) := h1.append_left xs
        rw [List.append_assoc]
        exact h2.symm.trans HP.out)
      have HL2 := Aside0.mk (show left'.length = gk - 1 ∧ 0 < gk by have := HL.out; omega)
      have HI3 := Aside0.mk hit3
      clear hp hit2 hit3 hk hsz hJ2 hJ3 hpl hPl
      gi_wp2
      refine hR.mono ?_
      rintro e W3 ⟨rfl, hJ4, hk4⟩
      have HI4 := Aside0.mk (HI3.out.keep hk4)
      have HJ4 := Aside0.mk hJ4
      clear hk4 hJ4
      gi_wp2
      gi_roundg (gk - 1)
      case rel => exact ⟨left', xs ++ [x1], ⟨HL2.out.1⟩, HI4, HQ, HJ4⟩
      case measure => have := HL2.out.2; omega
set_option maxHeartbeats 4000000 in
set_option maxRecDepth 100000 in
/-- maps.Keys. -/
theorem mkeys_any {w : World} {B : Nat} {es : List NE} (h : NMap w B es) (n : Nat) (hn1 : 1 ≤ n) :
    Calls Try.prog 70 #[.map (some B)] w fun e w' => e = .returned (.func (.func 83) #[] #[.pointer (some ⟨w.heap.size, 0, none⟩)]) ∧ Below w.heap.size w w' ∧
      SeqGives Fence.wide n Try.prog 83 #[.pointer (some ⟨w.heap.size, 0, none⟩)] kN (fun xs => xs.Perm (es.map Prod.fst)) es.length w' := by
  have hG : SeqGives Fence.wide n Try.prog 83 #[.pointer (some ⟨w.heap.size, 0, none⟩)] kN (fun xs => xs.Perm (es.map Prod.fst)) es.length (w.alloc (.cells #[.map (some B)] 67)) := fun l J W hW hJ hY h0 => by
    have hb := blk_below (blk_new w (.cells #[.map (some B)] 67)) hW
    exact keys_in n hn1 l w.heap.size B es J hY W hJ ((blk_cell hb 0).trans rfl) ((h.below (below_alloc (Below.refl _ _) _)).below hW) h0
  have HG := Aside0.mk hG
  clear hG h
  go_enter Try.func70, Try.ntmps70
  go_wp2
  go_ret
  exact ⟨rfl, below_alloc (Below.refl _ _) _, HG.out⟩
end Go.Proofs.Ytfbpplgpmgnmjaa.P

