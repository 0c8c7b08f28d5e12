/- A map from names (a struct of one string) to whole numbers, in memory: what its operations do. -/
import Derived.Test.YtfbpplgpmgnmjaaHBase
import Derived.Test.YtfbpplgpmgnmjaaHKit
import Derived.MapKept
import Derived.WideKeyRuns
import Derived.KernelRfl
import Derived.RangeFuncRecord
import Derived.Laws.StructEq
import Derived.Maps.RangeRun
namespace Go.Proofs.Ytfbpplgpmgnmjaa.P
open Go.RowKit Go.Proofs.YtfbpplgpmgnmjaaW.PrintWords Go.Proofs.YtfbpplgpmgnmjaaW.PrintLast Go.Proofs.YtfbpplgpmgnmjaaW.PrintMore
set_option linter.unusedVariables false
set_option linter.unusedSimpArgs false
abbrev NE := ByteArray × Int
def kN (b : ByteArray) : Value := .agg #[.string b]
def nkv (e : NE) : Value × Value := (kN e.1, .int .i64 e.2)
theorem beqD (a b : ByteArray) : (a == b) = decide (a = b) := by
  rw [Bool.eq_iff_iff, decide_eq_true_iff]
  show (a.data == b.data) = true ↔ _
  rw [beq_iff_eq]
  exact ⟨fun h => by cases a; cases b; exact congrArg _ h, fun h => by rw [h]⟩
theorem neqs (w : World) (d : Nat) (a b : ByteArray) : (Op.equalIn (d + 1) 9 (.string a) (.string b)).run Try.prog w = .ok (a == b) w := by
  simp only [Op.equalIn, Sem.run_bind, run_underlying Try.underlying9, Result.andThen_ok, Sem.run_pure]
theorem nstood : (Program.stoodInHeld Try.prog 73) = false := by kernel_rfl
theorem npart (w : World) (a : ByteArray) : (part 9 #[.string a] 0).run Try.prog w = .ok (.string a) w := by kernel_rfl
theorem neq (w : World) (a b : ByteArray) : (Op.equal 73 (kN a) (kN b)).run Try.prog w = .ok (a == b) w := by
  have e : Op.equal 73 (kN a) (kN b) = Op.equalIn (9998 + 1 + 1) 73 (.agg #[.string a]) (.agg #[.string b]) := rfl
  rw [e]
  have hs := neqs w 9998 a b
  generalize 9998 = d at hs
  unfold Op.equalIn
  have hn : ("s" : String) ≠ "_" := by decide
  simp only [Sem.run_bind, run_underlying Try.underlying73, Result.andThen_ok, nstood, Bool.false_eq_true, if_false, List.forIn_cons, List.forIn_nil, hn, ne_eq, not_false_eq_true, if_true, npart, hs]
  cases hc : (a == b)
  · rw [hc] at hs
    simp [Sem.run_bind, Sem.run_pure, Result.andThen_ok, npart, hs, nstood]
  · rw [hc] at hs
    simp [Sem.run_bind, Sem.run_pure, Result.andThen_ok, npart, hs, nstood]
theorem ncheck (e : Bool) (w : World) (a : ByteArray) : (Instr.checkKey e 10000 73 (kN a)).run Try.prog w = .ok () w := by
  kernel_rfl
/-! ### names and places, in plain lists -/
def tget : List NE → ByteArray → Option Int
  | [], _ => none
  | e :: es, a => if a = e.1 then some e.2 else tget es a
def tix : List NE → ByteArray → Option Nat
  | [], _ => none
  | e :: es, a => if a = e.1 then some 0 else (tix es a).map (· + 1)
def tdel (es : List NE) (a : ByteArray) : List NE := match tix es a with
  | some i => es.eraseIdx i
  | none => es
def tput (es : List NE) (a : ByteArray) (v : Int) : List NE := match tix es a with
  | some i => es.set i (a, v)
  | none => es ++ [(a, v)]
theorem nfind (w : World) (a : ByteArray) : ∀ (ents : List MapEntry) (es : List NE) (n : Nat), ents.map (fun e => (e.key, e.val)) = es.map nkv →
    (Instr.findAsking 73 (kN a) ents n).run Try.prog w = .ok (match tix es a with | some i => some (n + i, .int .i64 ((tget es a).getD 0)) | none => none) w
  | [], es, n, he => by
    obtain rfl : es = [] := by cases es with | nil => rfl | cons x xs => simp at he
    simp only [Instr.findAsking, Sem.run_pure, tix]
  | e :: ents, es, n, he => by
    cases es with
    | nil => simp at he
    | cons x xs =>
      simp only [List.map_cons, List.cons.injEq] at he
      obtain ⟨h1, h2⟩ := he
      have hk : e.key = kN x.1 := congrArg Prod.fst h1
      have hv : e.val = .int .i64 x.2 := congrArg Prod.snd h1
      have ih := nfind w a ents xs (n + 1) h2
      simp only [Instr.findAsking, Sem.run_bind, hk, neq, Result.andThen_ok]
      rw [beqD]
      by_cases c : a = x.1
      · rw [if_pos (by simpa using c)]
        simp only [Sem.run_pure, tix, tget, if_pos c, hv, Option.getD_some, Nat.add_zero]
      · rw [if_neg (by simpa using c), ih]
        simp only [tix, tget, if_neg c]
        cases tix xs a with
        | none => rfl
        | some i =>
          simp only [Option.map_some]
          rw [show n + 1 + i = n + (i + 1) by omega]
/-- Block B is a map that holds just es, in this order. -/
structure NMap (W : World) (B : Nat) (es : List NE) : Prop where
  ex : ∃ (ents : Array MapEntry) (clock : Nat), W.heap[B]? = some (.map ents clock) ∧ ents.toList.map (fun e => (e.key, e.val)) = es.map nkv ∧ (ents.toList.map (·.born)).Nodup ∧ ∀ e ∈ ents.toList, e.born < clock
theorem NMap.same {W W' : World} {B : Nat} {es : List NE} (h : NMap W B es) (he : W'.heap[B]? = W.heap[B]?) : NMap W' B es := by
  obtain ⟨ents, c, h1, h2⟩ := h.ex
  exact ⟨ents, c, he.trans h1, h2⟩
theorem NMap.lt {W : World} {B : Nat} {es : List NE} (h : NMap W B es) : B < W.heap.size := by
  obtain ⟨ents, c, h1, h2⟩ := h.ex
  exact (Array.getElem?_eq_some_iff.1 h1).1
theorem NMap.below {W W' : World} {B : Nat} {es : List NE} (h : NMap W B es) (hb : Below W.heap.size W W') : NMap W' B es := h.same (hb.block B h.lt)
theorem NMap.new (W : World) : NMap (W.alloc (.map #[] 0)) W.heap.size [] := ⟨#[], 0, blk_new W _, rfl, by simp, by simp⟩
theorem nfindKey (w : World) (es : List MapEntry) (k : Value) : (Instr.findKey 73 k es).run Try.prog w = (Instr.findAsking 73 k es).run Try.prog w :=
  run_findKey_eq w (by rw [Try.underlying73]) k es
theorem nzero (w : World) : (zeroValue 3).run Try.prog w = .ok (.int .i64 0) w := by kernel_rfl
theorem map_erase {α β : Type} (f : α → β) : ∀ (l : List α) (i : Nat), (l.eraseIdx i).map f = (l.map f).eraseIdx i
  | [], _ => rfl
  | _ :: _, 0 => rfl
  | x :: l, i + 1 => by simp [map_erase f l i]
theorem tix_get : ∀ (es : List NE) (a : ByteArray), (tix es a).isSome = (tget es a).isSome
  | [], _ => rfl
  | e :: es, a => by
    unfold tix tget
    split
    · rfl
    · rw [Option.isSome_map]; exact tix_get es a
theorem tix_lt : ∀ (es : List NE) (a : ByteArray) (i : Nat), tix es a = some i → i < es.length ∧ (es.getD i (a, 0)).1 = a
  | [], _, _, h => by simp [tix] at h
  | e :: es, a, i, h => by
    unfold tix at h
    split at h
    · rename_i hc
      obtain rfl : 0 = i := by simpa using h
      exact ⟨by simp, by simpa using hc.symm⟩
    · cases hx : tix es a with
      | none => rw [hx] at h; simp at h
      | some j =>
        rw [hx] at h
        obtain rfl : j + 1 = i := by simpa using h
        obtain ⟨h1, h2⟩ := tix_lt es a j hx
        exact ⟨by simpa using h1, by simpa using h2⟩
theorem nund : Try.prog.underlying 67 = some (.map 73 3) := Try.underlying67
theorem NMap.find {W : World} {B : Nat} {es : List NE} (h : NMap W B es) (a : ByteArray) : ∃ (ents : Array MapEntry) (clock : Nat), W.heap[B]? = some (.map ents clock) ∧ ents.toList.map (fun e => (e.key, e.val)) = es.map nkv ∧ (ents.toList.map (·.born)).Nodup ∧ (∀ e ∈ ents.toList, e.born < clock) ∧
    (Instr.findKey 73 (kN a) ents.toList).run Try.prog W = .ok (match tix es a with | some i => some (i, .int .i64 ((tget es a).getD 0)) | none => none) W := by
  obtain ⟨ents, clock, h1, h2, h3⟩ := h.ex
  refine ⟨ents, clock, h1, h2, h3.1, h3.2, ?_⟩
  have hf := nfind W a ents.toList es 0 h2
  rw [← nfindKey] at hf
  rw [hf]
  cases tix es a with
  | none => rfl
  | some i => simp
/-- v, ok := m[k]. -/
theorem NMap.look2 {W : World} {B : Nat} {es : List NE} (h : NMap W B es) (a : ByteArray) :
    (Instr.lookup 67 (.map (some B)) (kN a) true).run Try.prog W = .ok (.tuple #[.int .i64 ((tget es a).getD 0), .bool (tget es a).isSome]) W := by
  obtain ⟨ents, clock, h1, h2, _, _, hf⟩ := h.find a
  have ht := tix_get es a
  simp only [Instr.lookup, Sem.run_bind, run_underlying nund, Result.andThen_ok, MapKept.run_getObj_map h1, Sem.run_pure, ncheck, hf]
  cases hx : tix es a with
  | some i =>
    rw [hx] at ht
    rw [← ht]
    simp [Sem.run_pure, Result.andThen_ok, Sem.run_bind]
  | none =>
    rw [hx] at ht
    have hg : tget es a = none := by simpa using ht.symm
    simp [Sem.run_pure, Result.andThen_ok, Sem.run_bind, nzero, hg]
/-- m[k]. -/
theorem NMap.look1 {W : World} {B : Nat} {es : List NE} (h : NMap W B es) (a : ByteArray) :
    (Instr.lookup 67 (.map (some B)) (kN a) false).run Try.prog W = .ok (.int .i64 ((tget es a).getD 0)) W := by
  obtain ⟨ents, clock, h1, h2, _, _, hf⟩ := h.find a
  have ht := tix_get es a
  simp only [Instr.lookup, Sem.run_bind, run_underlying nund, Result.andThen_ok, MapKept.run_getObj_map h1, Sem.run_pure, ncheck, hf]
  cases hx : tix es a with
  | some i => simp [Sem.run_pure, Result.andThen_ok, Sem.run_bind]
  | none =>
    rw [hx] at ht
    have hg : tget es a = none := by simpa using ht.symm
    simp [Sem.run_pure, Result.andThen_ok, Sem.run_bind, nzero, hg]
theorem NMap.len {W : World} {B : Nat} {es : List NE} (h : NMap W B es) (ty : TypeId) : (Builtin.len_ #[67] ty #[.map (some B)]).run Try.prog W = .ok (.int .i64 (es.length : Nat)) W := by
  obtain ⟨ents, clock, h1, h2, _⟩ := h.ex
  have hl : ents.size = es.length := by have := congrArg List.length h2; simpa using this
  simp [Builtin.len_, run_underlying nund, MapKept.run_getObj_map h1, hl, goInt]
theorem nsame (a : ByteArray) : Instr.sameBits 10000 (kN a) (kN a) = true := by
  simp [kN, Instr.sameBits, beqD]
/-- m[k] = v. -/
theorem NMap.put {W : World} {B : Nat} {es : List NE} (h : NMap W B es) (a : ByteArray) (v : Int) :
    ∃ W', (Instr.mapUpdate 67 (.map (some B)) (kN a) (.int .i64 v)).run Try.prog W = .ok () W' ∧ NMap W' B (tput es a v) ∧ ∃ o, W' = W.putObj B o := by
  obtain ⟨ents, clock, h1, h2, h3, h4, hf⟩ := h.find a
  have hlt := h.lt
  simp only [Instr.mapUpdate, Sem.run_bind, run_underlying nund, Result.andThen_ok, MapKept.run_getObj_map h1, ncheck, hf]
  cases hx : tix es a with
  | none =>
    simp only [MapKept.run_setObj_map _ h1]
    refine ⟨_, rfl, ⟨_, _, World.putObj_heap_same hlt, ?_, ?_, ?_⟩, _, rfl⟩
    · simp [tput, hx, h2, nkv]
    · simp only [Array.toList_push, List.map_append, List.map_cons, List.map_nil]
      refine List.nodup_append.2 ⟨h3, by simp, ?_⟩
      intro x hx y hy
      obtain ⟨e, he, rfl⟩ := List.mem_map.1 hx
      have := h4 e he
      simp only [List.mem_singleton] at hy
      omega
    · intro e he
      simp only [Array.toList_push, List.mem_append, List.mem_singleton] at he
      rcases he with he | rfl
      · exact Nat.lt_succ_of_lt (h4 e he)
      · exact Nat.lt_succ_self _
  | some i =>
    obtain ⟨hi, hn⟩ := tix_lt es a i hx
    have hl : ents.size = es.length := by have := congrArg List.length h2; simpa using this
    have hie : i < ents.size := by omega
    have hk : ents[i].key = kN a := by
      have e1 : (ents.toList.map (fun e => (e.key, e.val)))[i]? = (es.map nkv)[i]? := by rw [h2]
      have e2 : es[i]? = some (es.getD i (a, 0)) := by simp [List.getD, hi]
      simp only [List.getElem?_map, Array.getElem?_toList, Array.getElem?_eq_getElem hie, Option.map_some, e2, Option.some.injEq] at e1
      have := congrArg Prod.fst e1
      simp only [nkv] at this
      rw [hn] at this
      exact this
    simp only [Array.getElem?_eq_getElem hie, Option.map_some, Option.getD_some, hk, Instr.keyThatStays, nsame, if_true, Sem.run_bind, Sem.run_pure, Result.andThen_ok, MapKept.run_setObj_map _ h1]
    refine ⟨_, rfl, ⟨_, _, World.putObj_heap_same hlt, ?_, ?_, ?_⟩, _, rfl⟩
    · simp only [tput, hx]
      apply List.ext_getElem?
      intro j
      have e1 := congrArg (fun l => l[j]?) h2
      simp only [List.getElem?_map, Array.getElem?_toList] at e1
      simp only [List.getElem?_map, Array.getElem?_toList, Array.getElem?_modify, List.getElem?_set]
      by_cases hj : i = j
      · subst hj
        rw [if_pos rfl, if_pos rfl]
        have : es[i]? = some es[i] := List.getElem?_eq_getElem hi
        simp [Array.getElem?_eq_getElem hie, nkv, hi]
      · rw [if_neg hj, if_neg hj]
        exact e1
    · have : (ents.modify i fun e => { e with key := kN a, val := .int .i64 v }).toList.map (·.born) = ents.toList.map (·.born) := by
        apply List.ext_getElem?
        intro j
        simp only [List.getElem?_map, Array.getElem?_toList, Array.getElem?_modify]
        split
        · subst i; cases ents[j]? <;> rfl
        · rfl
      rw [this]; exact h3
    · intro e he
      obtain ⟨j, hj⟩ := List.mem_iff_getElem?.1 he
      rw [Array.getElem?_toList, Array.getElem?_modify] at hj
      split at hj
      · subst i
        rw [Array.getElem?_eq_getElem hie] at hj
        obtain rfl := by simpa using hj
        exact h4 ents[j] (by simp)
      · exact h4 e (by rw [← Array.getElem?_toList] at hj; exact List.mem_of_getElem? hj)
/-- delete(m, k). -/
theorem NMap.del {W : World} {B : Nat} {es : List NE} (h : NMap W B es) (a : ByteArray) (ty : TypeId) :
    ∃ W', (Builtin.delete_ #[67, 73] ty #[.map (some B), kN a]).run Try.prog W = .ok (.tuple #[]) W' ∧ NMap W' B (tdel es a) ∧ ∃ o, W' = W.putObj B o := by
  obtain ⟨ents, clock, h1, h2, h3, h4, hf⟩ := h.find a
  have hlt := h.lt
  have hl : ents.size = es.length := by have := congrArg List.length h2; simpa using this
  simp [Builtin.delete_, run_underlying nund, MapKept.run_getObj_map h1, ncheck, hf]
  cases hx : tix es a with
  | none =>
    refine ⟨_, (?_ : _ = Result.ok _ (W.putObj B (.map ents clock))), ⟨_, _, World.putObj_heap_same hlt, ?_, h3, h4⟩, _, rfl⟩
    · simp [MapKept.run_setObj_map _ h1, World.putObj]
    simp only [tdel, hx]; exact h2
  | some i =>
    obtain ⟨hi, hn⟩ := tix_lt es a i hx
    have hie : i < ents.size := by omega
    have he : (ents.eraseIdxIfInBounds i).toList = ents.toList.eraseIdx i := by simp [Array.eraseIdxIfInBounds, hie]
    refine ⟨_, (?_ : _ = Result.ok _ (W.putObj B (.map (ents.eraseIdxIfInBounds i) clock))), ⟨_, _, World.putObj_heap_same hlt, ?_, ?_, ?_⟩, _, rfl⟩
    · simp [MapKept.run_setObj_map _ h1, World.putObj]
    · simp only [tdel, hx, he, map_erase, h2]
    · rw [he, map_erase]
      exact h3.sublist (List.eraseIdx_sublist _ _)
    · intro e hm
      rw [he] at hm
      exact h4 e (List.mem_of_mem_eraseIdx hm)
/-- maps.clone. -/
theorem NMap.clone {W : World} {B : Nat} {es : List NE} (h : NMap W B es) (t : TypeId) :
    ∃ o, (Extern.MapsClone.clone #[.iface t (.map (some B))]).run Try.prog W = .ok (.iface t (.map (some W.heap.size))) (W.alloc o) ∧ NMap (W.alloc o) W.heap.size es := by
  obtain ⟨ents, clock, h1, h2, h3⟩ := h.ex
  exact ⟨.map ents clock, by
    show (getObj B >>= fun x => _).run Try.prog W = _
    simp only [Sem.run_bind, MapKept.run_getObj_map h1, Result.andThen_ok]
    rfl, ents, clock, blk_new W _, h2, h3⟩
end Go.Proofs.Ytfbpplgpmgnmjaa.P
