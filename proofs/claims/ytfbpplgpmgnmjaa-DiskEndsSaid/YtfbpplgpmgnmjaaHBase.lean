/- Small words for the plain proofs. -/
import Derived.Test.YtfbpplgpmgnmjaaPx0
namespace Go.Proofs.YtfbpplgpmgnmjaaW.PrintWords
open Go.RowKit
theorem Ev.succ {α : Type} {g : Nat → Option α} {r : α} (h : Ev (fun k => g (k + 1)) r) : Ev g r := Ev.step (fun _ => rfl) h
theorem Ev.eq {α : Type} {g : Nat → Option α} {r r' : α} (h : Ev g r) (e : r = r') : Ev g r' := e ▸ h
theorem Ev.const {α : Type} {x : Option α} {r : α} (h : x = some r) : Ev (fun _ => x) r := ⟨0, fun _ _ => h⟩
theorem Ev.pos {α : Type} {c : Prop} [Decidable c] {g h : Nat → Option α} {r : α} (hc : c) (H : Ev g r) : Ev (fun k => if c then g k else h k) r := by
  simp only [if_pos hc]; exact H
theorem Ev.neg {α : Type} {c : Prop} [Decidable c] {g h : Nat → Option α} {r : α} (hc : ¬ c) (H : Ev h r) : Ev (fun k => if c then g k else h k) r := by
  simp only [if_neg hc]; exact H
theorem Ev.bindc {α β : Type} {x : Option α} {a : α} {f : Nat → α → Option β} {r : β} (h : x = some a) (H : Ev (fun k => f k a) r) : Ev (fun k => x.bind (f k)) r := by
  subst h; exact H
theorem Ev.rw {α : Type} {g g' : Nat → Option α} {r : α} (H : Ev g' r) (h : g = g') : Ev g r := h ▸ H
theorem w64 {x : Int} (h0 : -9223372036854775808 ≤ x) (h1 : x ≤ 9223372036854775807) : wrap64 x = x := by unfold wrap64; omega
end Go.Proofs.YtfbpplgpmgnmjaaW.PrintWords
