/- Texts of DiskFails. Merged: HDskZ. -/
import Derived.Test.YtfbpplgpmgnmjaaMDiskFails5
import Derived.Test.YtfbpplgpmgnmjaaQDiskFailsHDskY
import Derived.Test.YtfbpplgpmgnmjaaQDiskFailsHDskO
/- Crash, Read, Names, with what stays; two disks beside each other. -/
namespace Go.Proofs.Ytfbpplgpmgnmjaa.P
open Go.RowKit Go.Proofs.YtfbpplgpmgnmjaaW.PrintWords Go.Proofs.YtfbpplgpmgnmjaaW.PrintLast Go.Proofs.YtfbpplgpmgnmjaaW.PrintMore
set_option linter.unusedVariables false
set_option linter.unusedSimpArgs false
/-- A disk that was laid since w: its blocks, and what it leads to, are new since. -/
structure Newd (w w' : World) (p m : Nat) (d : DS) (N : Nat) : Prop where
  hp : w.heap.size ≤ p
  hm : w.heap.size ≤ m
  hd : Dk w' p m (fun q => w.heap.size ≤ q ∧ q ≠ p ∧ q ≠ m) d
  g : Good d N
/-- Behind what turned older blocks alone. -/
theorem Newd.kept {w w' w2 : World} {p m : Nat} {d : DS} {N : Nat} {S : Nat → Prop} (h : Newd w w' p m d N) (hk : Kept w' w2 S) (hs : ∀ q, S q → q < w.heap.size) : Newd w w2 p m d N :=
  ⟨h.hp, h.hm, h.hd.kept hk (fun e => by have := hs _ e; have := h.hp; omega) (fun e => by have := hs _ e; have := h.hm; omega) (fun q hq e => by have := hs _ e; have := hq.1; omega), h.g⟩
theorem Newd.far {w w' : World} {p m : Nat} {d : DS} {N : Nat} (h : Newd w w' p m d N) : Dk w' p m (P.far p m) d := h.hd.wide
section
variable {w : World} {p m : Nat} {d : DS} {N : Nat}
theorem new_g (q : Int) (w : World) : Calls Try.prog 10 #[.int .i64 q] w fun e w' => ∃ p m, e = .returned (.pointer (some ⟨p, 0, none⟩)) ∧ Newd w w' p m (DS.new q) 0 ∧ Below w.heap.size w w' := by
  refine (new_any q w).mono ?_
  rintro e w' ⟨p, m, rfl, hp, hm, hb, hd⟩
  exact ⟨p, m, rfl, ⟨hp, hm, hd, Good.new q 0⟩, hb⟩
theorem crash_g (h : Dk w p m (far p m) d) (g : Good d N) (hN : N ≤ 9000) (n : Int) (tails : List Int) (At : Option Addr) (ct : Nat) (ht : Kd.C (Kd.int .i64) w At tails.length tails) (hct : tails.length ≤ ct) (htl : tails.length ≤ 1000000) {d2 : DS} (e : crash d n tails = d2) :
    Calls Try.prog 17 #[.pointer (some ⟨p, 0, none⟩), .int .i64 n, .slice At tails.length ct] w fun e w' => ∃ p2 m2, e = .returned (.pointer (some ⟨p2, 0, none⟩)) ∧ Newd w w' p2 m2 d2 N ∧ Below w.heap.size w w' := by
  have hq := g.h (leftN d n) (leftN_le d n)
  refine (crash_any h n tails At ct ht hct (by have := g.c; omega) (by have := hq.l; omega) hq.f hq.u (fun f hf => by have := g.sf f hf; exact ⟨this.1, this.2.1, by omega⟩) htl).mono ?_
  rintro e' w' ⟨p2, m2, rfl, hp, hm, hb, hd⟩
  have hg := g.crash n tails
  rw [e] at hd hg
  exact ⟨p2, m2, rfl, ⟨hp, hm, hd, hg⟩, hb⟩
theorem C_nil0 {w : World} : Kd.C (Kd.int .i64) w none ([] : List Int).length [] := Kd.F_now (Kd.F_nil (Kd.int .i64) w (fun _ => True))
theorem crash0_g (h : Dk w p m (far p m) d) (g : Good d N) (hN : N ≤ 9000) (n : Int) {d2 : DS} (e : crash d n [] = d2) :
    Calls Try.prog 17 #[.pointer (some ⟨p, 0, none⟩), .int .i64 n, .slice none 0 0] w fun e w' => ∃ p2 m2, e = .returned (.pointer (some ⟨p2, 0, none⟩)) ∧ Newd w w' p2 m2 d2 N ∧ Below w.heap.size w w' :=
  crash_g h g hN n [] none 0 C_nil0 (Nat.le_refl _) (by simp) e
variable {ok : Nat → Prop}
theorem read_g (h : Dk w p m ok d) (g : Good d N) (hN : N ≤ 9000) (s : ByteArray) {l : List Int} {r : Int} (e : read1 d s = (l, r)) :
    Calls Try.prog 18 #[.pointer (some ⟨p, 0, none⟩), .string s] w fun e w' => ∃ A c, e = .returned (.tuple #[.slice A l.length c, .int .i64 r]) ∧ l.length ≤ c ∧ Kd.F (Kd.int .u8) w' (fun q => w.heap.size ≤ q) A l.length l ∧ Below w.heap.size w w' := by
  refine (read_any h s g.namesOk (g.used (by omega))).mono ?_
  rintro e' w' ⟨A, c, rfl, hR, hb⟩
  rw [e] at hR ⊢
  refine ⟨A, c, rfl, (Kd.R_reads' hR).2.1, Kd.R_F (ok := fun q => w.heap.size ≤ q) ⟨fun q hq => ?_, hR.2⟩, hb⟩
  obtain ⟨inner, ho⟩ := Kd.R_own hR
  exact (ho.lt q hq).1
theorem names_g (h : Dk w p m ok d) (g : Good d N) {l : List ByteArray} (e : namesOf d.names = l) :
    Calls Try.prog 20 #[.pointer (some ⟨p, 0, none⟩)] w fun e w' => ∃ A c, e = .returned (.slice A l.length c) ∧ l.length ≤ c ∧ Kd.R Kd.string 9 w' w.heap.size (fun _ => True) (.slice A l.length c) l ∧ Below w.heap.size w w' := by
  refine (names_any h (by have := g.nok.l; omega)).mono ?_
  rintro e' w' ⟨A, c, rfl, hR, hb⟩
  rw [e] at hR ⊢
  exact ⟨A, c, rfl, (Kd.R_reads' hR).2.1, hR, hb⟩
end
end Go.Proofs.Ytfbpplgpmgnmjaa.P

