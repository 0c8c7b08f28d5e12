/- Texts of DiskFails. Merged: HDskU. -/
import Derived.Test.YtfbpplgpmgnmjaaMDiskFails0
import Derived.Maps.RangeRun
import Derived.Maps.RangeWalk
/- A range over the names; Used. -/
namespace Go.Proofs.Ytfbpplgpmgnmjaa.P
open Go.RowKit Go.Proofs.YtfbpplgpmgnmjaaW.PrintWords Go.Proofs.YtfbpplgpmgnmjaaW.PrintLast Go.Proofs.YtfbpplgpmgnmjaaW.PrintMore
set_option linter.unusedVariables false
set_option linter.unusedSimpArgs false
def dk1 (v : Value) : ByteArray := match v with
  | .agg cs => (match (cs.getD 0 undef : Value) with | .string b => b | _ => ⟨#[]⟩)
  | _ => ⟨#[]⟩
def dk2 (v : Value) : Int := match v with
  | .int _ n => n
  | _ => 0
def dkv (p : Value × Value) : NE := (dk1 p.1, dk2 p.2)
theorem dkv_nkv (e : NE) : dkv (nkv e) = e := rfl
theorem map_dkv (l : List NE) : (l.map nkv).map dkv = l := by
  rw [List.map_map]
  exact (List.map_congr_left (fun e _ => dkv_nkv e)).trans (List.map_id l)
def ekv (e : MapEntry) : Value × Value := (e.key, e.val)
theorem filter_perm : ∀ (l : List MapEntry) (e : MapEntry), (l.map (·.born)).Nodup → e ∈ l → l.Perm (e :: l.filter (fun x => x.born != e.born))
  | [], _, _, h => by cases h
  | x :: l, e, hn, he => by
    have hn' : x.born ∉ l.map (·.born) ∧ (l.map (·.born)).Nodup := List.nodup_cons.1 hn
    rcases List.mem_cons.1 he with rfl | h
    · have h1 : l.filter (fun x => x.born != e.born) = l := List.filter_eq_self.2 (fun y hy => by
        have : y.born ≠ e.born := fun hc => hn'.1 (by rw [← hc]; exact List.mem_map.2 ⟨y, hy, rfl⟩)
        simpa using this)
      have h2 : (e :: l).filter (fun x => x.born != e.born) = l := by rw [List.filter_cons, if_neg (by simp), h1]
      rw [h2]
    · have hx : (x.born != e.born) = true := by
        have : x.born ≠ e.born := fun hc => hn'.1 (by rw [hc]; exact List.mem_map.2 ⟨e, h, rfl⟩)
        simpa using this
      rw [List.filter_cons, if_pos hx]
      exact ((filter_perm l e hn'.2 h).cons x).trans (List.Perm.swap e x _)
theorem left_push (ents : Array MapEntry) (seen : Array Nat) (b : Nat) : (leftOf ents (seen.push b)).toList = (leftOf ents seen).toList.filter (fun x => x.born != b) := by
  simp only [leftOf, Array.toList_filter, List.filter_filter]
  congr 1
  funext x
  rw [Array.contains_push, Bool.not_or, Bool.and_comm]
  rfl
/-- An iterator in block r over the map in block B that holds es: left are still to come. -/
structure NIter (W : World) (r B : Nat) (es left : List NE) : Prop where
  ex : ∃ (ents : Array MapEntry) (clock : Nat) (seen : Array Nat), W.heap[B]? = some (.map ents clock) ∧ ents.toList.map ekv = es.map nkv ∧ (ents.toList.map (·.born)).Nodup ∧ (∀ e ∈ ents.toList, e.born < clock) ∧
    W.heap[r]? = some (.mapIter (some B) clock seen clock) ∧ (leftOf ents seen).toList.map ekv = left.map nkv
theorem NIter.map {W : World} {r B : Nat} {es left : List NE} (h : NIter W r B es left) : NMap W B es := by
  obtain ⟨ents, clock, seen, h1, h2, h3, h4, _⟩ := h.ex
  exact ⟨ents, clock, h1, h2, h3, h4⟩
theorem NIter.same {W W' : World} {r B : Nat} {es left : List NE} (h : NIter W r B es left) (hB : W'.heap[B]? = W.heap[B]?) (hr : W'.heap[r]? = W.heap[r]?) : NIter W' r B es left := by
  obtain ⟨ents, clock, seen, h1, h2, h3, h4, h5, h6⟩ := h.ex
  exact ⟨ents, clock, seen, hB.trans h1, h2, h3, h4, hr.trans h5, h6⟩
theorem NIter.lt {W : World} {r B : Nat} {es left : List NE} (h : NIter W r B es left) : r < W.heap.size ∧ B < W.heap.size := by
  obtain ⟨ents, clock, seen, h1, h2, h3, h4, h5, h6⟩ := h.ex
  exact ⟨blk_lt h5, blk_lt h1⟩
theorem NIter.below {W W' : World} {r B : Nat} {es left : List NE} (h : NIter W r B es left) (hb : Below W.heap.size W W') : NIter W' r B es left := h.same (hb.block _ h.lt.2) (hb.block _ h.lt.1)
theorem NMap.range {W : World} {B : Nat} {es : List NE} (h : NMap W B es) :
    ∃ o, (Instr.range 67 (.map (some B))).run Try.prog W = .ok (.pointer (some ⟨W.heap.size, 0, none⟩)) (W.alloc o) ∧ NIter (W.alloc o) W.heap.size B es es := by
  obtain ⟨ents, clock, h1, h2, h3, h4⟩ := h.ex
  refine ⟨_, run_range_map W _ _ _ B ents clock nund h1, ents, clock, #[], blk_alloc h1 _, h2, h3, h4, blk_new W _, ?_⟩
  have : leftOf ents #[] = ents := by simp [leftOf]
  rw [this]; exact h2
theorem NIter.next {W : World} {r B : Nat} {es left : List NE} (h : NIter W r B es left) (ty : TypeId) :
    (left = [] ∧ (Instr.next (.pointer (some ⟨r, 0, none⟩)) false ty).run Try.prog W = .ok (.tuple #[.bool false]) W) ∨
    ∃ e left' W', left.Perm (e :: left') ∧ (Instr.next (.pointer (some ⟨r, 0, none⟩)) false ty).run Try.prog W = .ok (.tuple #[.bool true, kN e.1, .int .i64 e.2]) W' ∧ NIter W' r B es left' ∧ (Instr.entry (.pointer (some ⟨r, 0, none⟩))).run Try.prog W' = .ok (.tuple #[kN e.1, .int .i64 e.2]) W' ∧ Kept W W' (fun i => i = r) ∧ W'.heap.size = W.heap.size := by
  obtain ⟨ents, clock, seen, h1, h2, h3, h4, h5, h6⟩ := h.ex
  rcases run_next_at (P := Try.prog) W ty r B clock clock seen ents clock h5 h1 h4 (Nat.le_refl _) with ⟨h0, hrun⟩ | ⟨e, he, w1, hw1, hrun⟩
  · left
    have hl : (leftOf ents seen).toList = [] := by
      apply List.eq_nil_of_length_eq_zero; simpa using h0
    rw [hl] at h6
    exact ⟨by cases left with | nil => rfl | cons x xs => simp at h6, hrun⟩
  · right
    have hee : e ∈ ents.toList := by
      simp only [leftOf, Array.toList_filter] at he
      exact (List.mem_filter.1 he).1
    have hnl : ((leftOf ents seen).toList.map (·.born)).Nodup := by
      simp only [leftOf, Array.toList_filter]
      exact (List.Nodup.sublist ((List.filter_sublist).map _) h3)
    have hp := filter_perm _ e hnl he
    rw [← left_push] at hp
    have hmem : ∀ x ∈ ents.toList, ∃ q : NE, ekv x = nkv q := fun x hx => by
      have : ekv x ∈ ents.toList.map ekv := List.mem_map.2 ⟨x, hx, rfl⟩
      rw [h2] at this
      obtain ⟨q, _, hq⟩ := List.mem_map.1 this
      exact ⟨q, hq.symm⟩
    obtain ⟨q, hq⟩ := hmem e hee
    have hsub : ∀ l : List MapEntry, (∀ x ∈ l, x ∈ ents.toList) → ∃ qs : List NE, l.map ekv = qs.map nkv := by
      intro l
      induction l with
      | nil => exact fun _ => ⟨[], rfl⟩
      | cons x l ih =>
        intro hl
        obtain ⟨q, hq⟩ := hmem x (hl x (by simp))
        obtain ⟨qs, hqs⟩ := ih (fun y hy => hl y (by simp [hy]))
        exact ⟨q :: qs, by simp [hq, hqs]⟩
    obtain ⟨left', hl'⟩ := hsub (leftOf ents (seen.push e.born)).toList (fun x hx => by
      simp only [leftOf, Array.toList_filter] at hx
      exact (List.mem_filter.1 hx).1)
    have hpl : left.Perm (q :: left') := by
      have h7 := (hp.map ekv).map dkv
      rw [h6, map_dkv, List.map_cons, List.map_cons, hq, hl', map_dkv, dkv_nkv] at h7
      exact h7
    have hk : e.key = kN q.1 := congrArg Prod.fst hq
    have hv : e.val = .int .i64 q.2 := congrArg Prod.snd hq
    have hw : ∀ i : Nat, w1.heap[i]? = W.heap[i]? := fun i => by rcases hw1 with rfl | rfl <;> rfl
    have hsz : w1.heap.size = W.heap.size := by rcases hw1 with rfl | rfl <;> rfl
    have hout : w1.os = W.os ∧ w1.tape = W.tape ∧ w1.output = W.output := by rcases hw1 with rfl | rfl <;> exact ⟨rfl, rfl, rfl⟩
    have hrl : r < w1.heap.size := by rw [hsz]; exact blk_lt h5
    have hrB : B ≠ r := by rintro rfl; rw [h1] at h5; cases h5
    have e1 : (ChangeMaps.setBlock w1 r (.mapIter (some B) clock (seen.push e.born) clock)) = w1.putObj r (.mapIter (some B) clock (seen.push e.born) clock) := rfl
    rw [e1] at hrun
    have g1 : (w1.putObj r (.mapIter (some B) clock (seen.push e.born) clock)).heap[B]? = some (.map ents clock) := (World.putObj_heap_other hrB).trans ((hw B).trans h1)
    have g2 := World.putObj_heap_same (w := w1) (o := .mapIter (some B) clock (seen.push e.born) clock) hrl
    refine ⟨q, left', _, hpl, by rw [hrun, hk, hv], ⟨ents, clock, _, g1, h2, h3, h4, g2, hl'⟩, ?_, ⟨by simp [hsz], fun i _ hi => (World.putObj_heap_other (w := w1) hi).trans (hw i), hout⟩, by simp [hsz]⟩
    rw [run_entry_at _ r B clock seen ents clock e g2 g1 hee h3, hk, hv]
end Go.Proofs.Ytfbpplgpmgnmjaa.P

