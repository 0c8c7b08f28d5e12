/- The row of DiskTurns. Merged: HLFailsP, HLTurnsP, HLShw, HLFails1, HLTurns, HLDiskTurns, SDiskTurns, PureDiskTurns, RDiskTurns. -/
import Derived.Test.YtfbpplgpmgnmjaaQDiskFailsHLShown
import Derived.Test.YtfbpplgpmgnmjaaQDiskFailsHDskZ
import Derived.Lib.SlBytesConst
import Derived.Test.YtfbpplgpmgnmjaaPx2
import Derived.Test.YtfbpplgpmgnmjaaO
import Derived.Test.YtfbpplgpmgnmjaaRows
import Derived.WalkKit
import Derived.ProofKit
import Derived.OpenShut
import Derived.ShutString
import Derived.ChangeOld
import Derived.Below
import Derived.SizedLaws
/- DiskFails: the states of the disk. -/
namespace Go.Proofs.Ytfbpplgpmgnmjaa.P
open Go.RowKit Go.Proofs.YtfbpplgpmgnmjaaW.PrintWords Go.Proofs.YtfbpplgpmgnmjaaW.PrintLast Go.Proofs.YtfbpplgpmgnmjaaW.PrintMore
set_option linter.unusedVariables false
set_option linter.unusedSimpArgs false
theorem append1_go {d : DS} {s : ByteArray} {b : List Int} {i : Nat} (he : ended d = false) (hf : fault d = false) (ht : tget d.names s = some (i : Int)) (hq : used d + (b.length : Int) ≤ d.quota) : append1 d s b = ({ one d with files := growF d.files i b }, 0) := by
  have hu : used (one d) = used d := rfl
  unfold append1
  rw [if_neg (by rw [he]; simp), if_neg (by rw [hf]; simp)]
  unfold grow1
  rw [show (one d).names = d.names from rfl, ht]
  simp only [Int.toNat_natCast]
  rw [if_neg (show ¬ (one d).quota < used (one d) + (b.length : Int) from by rw [hu]; show ¬ d.quota < _; omega), List.take_length]
  rfl
theorem append1_bad {d : DS} {s : ByteArray} {b : List Int} {i : Nat} (he : ended d = false) (hf : fault d = true) (ht : tget d.names s = some (i : Int)) (hq : used d + (b.length : Int) ≤ d.quota) : append1 d s b = ({ one d with files := growF d.files i (b.take (b.length / 2)) }, 33) := by
  have hu : used (one d) = used d := rfl
  unfold append1
  rw [if_neg (by rw [he]; simp), if_pos hf]
  unfold grow1
  rw [show (one d).names = d.names from rfl, ht]
  simp only [Int.toNat_natCast]
  rw [if_neg (show ¬ (one d).quota < used (one d) + (b.length : Int) from by rw [hu]; show ¬ d.quota < _; omega)]
  rfl
theorem append1_full {d : DS} {s : ByteArray} {b : List Int} {i : Nat} (he : ended d = false) (hf : fault d = false) (ht : tget d.names s = some (i : Int)) (hq : d.quota < used d + (b.length : Int)) : append1 d s b = (one d, 32) := by
  have hu : used (one d) = used d := rfl
  unfold append1
  rw [if_neg (by rw [he]; simp), if_neg (by rw [hf]; simp)]
  unfold grow1
  rw [show (one d).names = d.names from rfl, ht]
  simp only
  rw [if_pos (show (one d).quota < used (one d) + (b.length : Int) from by rw [hu]; exact hq)]
def nf : ByteArray := ⟨#[102]⟩
def kf (n : Int) : List Int := [n, 9, n]
def c0f : DC := (noName, nf, 0)
-- which step fails: the first
def f10 : DS := ⟨1000, 0, [], [], [], [], kf 1, -1, false⟩
def f11 : DS := ⟨1000, 1, [], [], [], [], kf 1, -1, false⟩
def f12 : DS := ⟨1000, 2, [], [], [], [], kf 1, -1, false⟩
def f13 : DS := ⟨1000, 3, [], [], [], [], kf 1, -1, false⟩
def f14 : DS := ⟨1000, 4, [], [], [], [], kf 1, -1, false⟩
def fX0 : DS := ⟨1000, 0, [], [], [], [], [], -1, false⟩
theorem f10_eq : ({ DS.new 1000 with fails := kf 1 } : DS) = f10 := by kernel_rfl
theorem f11_eq : stepF f10 (create1 · nf) = (f11, 33) := by kernel_rfl
theorem f12_eq (b : List Int) : append1 f11 nf b = (f12, 30) := by kernel_rfl
theorem f13_eq : stepF f12 (sync1 · nf) = (f13, 30) := by kernel_rfl
theorem f14_eq : stepF f13 syncdir1 = (f14, 0) := by kernel_rfl
theorem f1X_eq : crash f14 0 [] = fX0 := by
  have h : leftNames f14 (leftN f14 0) = [] := by kernel_rfl
  rw [crash_of h, crashFiles_nil, crashNames_nil]
  rfl
theorem f1r_eq : read1 f14 nf = ([], 30) := by kernel_rfl
theorem f1x_eq : read1 fX0 nf = ([], 30) := by kernel_rfl
-- the second
def f20 : DS := ⟨1000, 0, [], [], [], [], kf 2, -1, false⟩
def f21 : DS := ⟨1000, 1, [([], 0)], [(nf, 0)], [], [c0f], kf 2, -1, false⟩
def f22 (b : List Int) : DS := ⟨1000, 2, [(b, 0)], [(nf, 0)], [], [c0f], kf 2, -1, false⟩
def f23 (b : List Int) : DS := ⟨1000, 3, [(b, b.length)], [(nf, 0)], [], [c0f], kf 2, -1, false⟩
def f24 (b : List Int) : DS := ⟨1000, 4, [(b, b.length)], [(nf, 0)], [(nf, 0)], [], kf 2, -1, false⟩
def fX1 (b : List Int) : DS := ⟨1000, 0, [(b, b.length)], [(nf, 0)], [(nf, 0)], [], [], -1, false⟩
theorem f20_eq : ({ DS.new 1000 with fails := kf 2 } : DS) = f20 := by kernel_rfl
theorem f21_eq : stepF f20 (create1 · nf) = (f21, 0) := by kernel_rfl
theorem f22_eq (b : List Int) (hb : b.length ≤ 100) : append1 f21 nf b = (f22 (b.take (b.length / 2)), 33) := append1_bad (i := 0) (by kernel_rfl) (by kernel_rfl) (by kernel_rfl) (by rw [show used f21 = 0 by kernel_rfl]; show 0 + (b.length : Int) ≤ 1000; omega)
theorem f23_eq (b : List Int) : stepF (f22 b) (sync1 · nf) = (f23 b, 0) := by kernel_rfl
theorem f24_eq (b : List Int) : stepF (f23 b) syncdir1 = (f24 b, 0) := by kernel_rfl
theorem take_all (b : List Int) : crashFile (b, (b.length : Int)) [] 0 = (b, (b.length : Int)) := by simp [crashFile, crashEnd]
theorem f2X_eq (b : List Int) : crash (f24 b) 0 [] = fX1 b := by
  have h : leftNames (f24 b) (leftN (f24 b) 0) = [(nf, 0)] := by kernel_rfl
  rw [crash_of h, crashFiles_one, crashNames_one]
  show (⟨1000, 0, [crashFile (b, (b.length : Int)) [] 0], _, _, _, _, _, _⟩ : DS) = _
  rw [take_all]
  rfl
theorem f2r_eq (b : List Int) : read1 (f24 b) nf = (b, 0) := by kernel_rfl
theorem f2x_eq (b : List Int) : read1 (fX1 b) nf = (b, 0) := by kernel_rfl
-- the third
def f30 : DS := ⟨1000, 0, [], [], [], [], kf 3, -1, false⟩
def f31 : DS := ⟨1000, 1, [([], 0)], [(nf, 0)], [], [c0f], kf 3, -1, false⟩
def f32 (b : List Int) : DS := ⟨1000, 2, [(b, 0)], [(nf, 0)], [], [c0f], kf 3, -1, false⟩
def f33 (b : List Int) : DS := ⟨1000, 3, [(b, 0)], [(nf, 0)], [], [c0f], kf 3, -1, false⟩
def f34 (b : List Int) : DS := ⟨1000, 4, [(b, 0)], [(nf, 0)], [(nf, 0)], [], kf 3, -1, false⟩
def fX2 : DS := ⟨1000, 0, [([], 0)], [(nf, 0)], [(nf, 0)], [], [], -1, false⟩
theorem f30_eq : ({ DS.new 1000 with fails := kf 3 } : DS) = f30 := by kernel_rfl
theorem f31_eq : stepF f30 (create1 · nf) = (f31, 0) := by kernel_rfl
theorem f32_eq (b : List Int) (hb : b.length ≤ 100) : append1 f31 nf b = (f32 b, 0) := append1_go (i := 0) (by kernel_rfl) (by kernel_rfl) (by kernel_rfl) (by rw [show used f31 = 0 by kernel_rfl]; show 0 + (b.length : Int) ≤ 1000; omega)
theorem f33_eq (b : List Int) : stepF (f32 b) (sync1 · nf) = (f33 b, 33) := by kernel_rfl
theorem f34_eq (b : List Int) : stepF (f33 b) syncdir1 = (f34 b, 0) := by kernel_rfl
theorem f3X_eq (b : List Int) : crash (f34 b) 0 [] = fX2 := by
  have h : leftNames (f34 b) (leftN (f34 b) 0) = [(nf, 0)] := by kernel_rfl
  rw [crash_of h, crashFiles_one, crashNames_one]
  show (⟨1000, 0, [crashFile (b, 0) [] 0], _, _, _, _, _, _⟩ : DS) = _
  rw [show crashFile (b, 0) [] 0 = ([], 0) by simp [crashFile, crashEnd]]
  rfl
theorem f3r_eq (b : List Int) : read1 (f34 b) nf = (b, 0) := by kernel_rfl
theorem f3x_eq : read1 fX2 nf = ([], 0) := by kernel_rfl
-- the fourth
def f40 : DS := ⟨1000, 0, [], [], [], [], kf 4, -1, false⟩
def f41 : DS := ⟨1000, 1, [([], 0)], [(nf, 0)], [], [c0f], kf 4, -1, false⟩
def f42 (b : List Int) : DS := ⟨1000, 2, [(b, 0)], [(nf, 0)], [], [c0f], kf 4, -1, false⟩
def f43 (b : List Int) : DS := ⟨1000, 3, [(b, b.length)], [(nf, 0)], [], [c0f], kf 4, -1, false⟩
def f44 (b : List Int) : DS := ⟨1000, 4, [(b, b.length)], [(nf, 0)], [], [c0f], kf 4, -1, false⟩
theorem f40_eq : ({ DS.new 1000 with fails := kf 4 } : DS) = f40 := by kernel_rfl
theorem f41_eq : stepF f40 (create1 · nf) = (f41, 0) := by kernel_rfl
theorem f42_eq (b : List Int) (hb : b.length ≤ 100) : append1 f41 nf b = (f42 b, 0) := append1_go (i := 0) (by kernel_rfl) (by kernel_rfl) (by kernel_rfl) (by rw [show used f41 = 0 by kernel_rfl]; show 0 + (b.length : Int) ≤ 1000; omega)
theorem f43_eq (b : List Int) : stepF (f42 b) (sync1 · nf) = (f43 b, 0) := by kernel_rfl
theorem f44_eq (b : List Int) : stepF (f43 b) syncdir1 = (f44 b, 33) := by kernel_rfl
theorem f4X_eq (b : List Int) : crash (f44 b) 0 [] = fX0 := by
  have h : leftNames (f44 b) (leftN (f44 b) 0) = [] := by kernel_rfl
  rw [crash_of h, crashFiles_nil, crashNames_nil]
  rfl
theorem f4r_eq (b : List Int) : read1 (f44 b) nf = (b, 0) := by kernel_rfl
end Go.Proofs.Ytfbpplgpmgnmjaa.P

/- DiskTurns: the states of the disk. -/
namespace Go.Proofs.Ytfbpplgpmgnmjaa.P
open Go.RowKit Go.Proofs.YtfbpplgpmgnmjaaW.PrintWords Go.Proofs.YtfbpplgpmgnmjaaW.PrintLast Go.Proofs.YtfbpplgpmgnmjaaW.PrintMore
set_option linter.unusedVariables false
set_option linter.unusedSimpArgs false
def nn : ByteArray := ⟨#[102, 46, 110, 101, 119]⟩
def cn1 : DC := (noName, nn, 1)
def cn2 : DC := (nn, nf, 1)
def t1 : DS := ⟨1000, 1, [([], 0)], [(nf, 0)], [], [c0f], [], -1, false⟩
def t2 (a : List Int) : DS := ⟨1000, 2, [(a, 0)], [(nf, 0)], [], [c0f], [], -1, false⟩
def t3 (a : List Int) : DS := ⟨1000, 3, [(a, a.length)], [(nf, 0)], [], [c0f], [], -1, false⟩
def t4 (a : List Int) : DS := ⟨1000, 4, [(a, a.length)], [(nf, 0)], [(nf, 0)], [], [], -1, false⟩
def t5 (a : List Int) : DS := ⟨1000, 5, [(a, a.length), ([], 0)], [(nf, 0), (nn, 1)], [(nf, 0)], [cn1], [], -1, false⟩
def t6 (a b : List Int) : DS := ⟨1000, 6, [(a, a.length), (b, 0)], [(nf, 0), (nn, 1)], [(nf, 0)], [cn1], [], -1, false⟩
def t7 (a b : List Int) : DS := ⟨1000, 7, [(a, a.length), (b, b.length)], [(nf, 0), (nn, 1)], [(nf, 0)], [cn1], [], -1, false⟩
def t8 (a b : List Int) : DS := ⟨1000, 8, [(a, a.length), (b, b.length)], [(nf, 1)], [(nf, 0)], [cn1, cn2], [], -1, false⟩
theorem t1_eq : stepF (DS.new 1000) (create1 · nf) = (t1, 0) := by kernel_rfl
theorem t2_eq (a : List Int) (ha : a.length ≤ 100) : append1 t1 nf a = (t2 a, 0) := append1_go (i := 0) (by kernel_rfl) (by kernel_rfl) (by kernel_rfl) (by rw [show used t1 = 0 by kernel_rfl]; show 0 + (a.length : Int) ≤ 1000; omega)
theorem t3_eq (a : List Int) : stepF (t2 a) (sync1 · nf) = (t3 a, 0) := by kernel_rfl
theorem t4_eq (a : List Int) : stepF (t3 a) syncdir1 = (t4 a, 0) := by kernel_rfl
theorem t5_eq (a : List Int) : stepF (t4 a) (create1 · nn) = (t5 a, 0) := by kernel_rfl
theorem t5_used (a : List Int) : used (t5 a) = a.length := by
  have : used (t5 a) = (a.length : Int) + (0 + 0) := by kernel_rfl
  omega
theorem t6_eq (a b : List Int) (ha : a.length ≤ 100) (hb : b.length ≤ 100) : append1 (t5 a) nn b = (t6 a b, 0) := append1_go (i := 1) (by kernel_rfl) (by kernel_rfl) (by kernel_rfl) (by rw [t5_used]; show (a.length : Int) + (b.length : Int) ≤ 1000; omega)
theorem t7_eq (a b : List Int) : stepF (t6 a b) (sync1 · nn) = (t7 a b, 0) := by kernel_rfl
theorem t8_eq (a b : List Int) : stepF (t7 a b) (rename1 · nn nf) = (t8 a b, 0) := by kernel_rfl
theorem whole (l t : List Int) (i : Nat) : crashFile (l, (l.length : Int)) t i = (l, (l.length : Int)) := by
  have h : crashEnd (l, (l.length : Int)) t i = (l.length : Int) := by
    unfold crashEnd
    split
    · rfl
    · simp only [Int.sub_self, Int.zero_add, Int.tmod_one]
      omega
  unfold crashFile
  rw [h]
  simp
theorem namesOf_two : namesOf [(nf, 0), (nn, 1)] = [nf, nn] := by
  unfold namesOf sortN
  apply List.mergeSort_of_pairwise
  simp only [List.map_cons, List.map_nil]
  refine List.Pairwise.cons ?_ (List.Pairwise.cons (by simp) List.Pairwise.nil)
  intro y hy
  simp only [List.mem_singleton] at hy
  subst hy
  kernel_rfl
def tX0 (a : List Int) : DS := ⟨1000, 0, [(a, a.length)], [(nf, 0)], [(nf, 0)], [], [], -1, false⟩
def tX1 (a b : List Int) : DS := ⟨1000, 0, [(a, a.length), (b, b.length)], [(nf, 0), (nn, 1)], [(nf, 0), (nn, 1)], [], [], -1, false⟩
theorem tX_0 (a b t : List Int) (n : Int) (h : n ≤ 0) : crash (t8 a b) n t = tX0 a := by
  have h : leftNames (t8 a b) (leftN (t8 a b) n) = [(nf, 0)] := by
    rw [show leftN (t8 a b) n = 0 by show (min (max n 0) 2).toNat = 0; omega]
    kernel_rfl
  rw [crash_of h, crashFiles_one, crashNames_one]
  show (⟨1000, 0, [crashFile (a, (a.length : Int)) t 0], _, _, _, _, _, _⟩ : DS) = _
  rw [whole]
  rfl
theorem tX_1 (a b t : List Int) (n : Int) (h : n = 1) : crash (t8 a b) n t = tX1 a b := by
  have h : leftNames (t8 a b) (leftN (t8 a b) n) = [(nf, 0), (nn, 1)] := by
    rw [show leftN (t8 a b) n = 1 by show (min (max n 0) 2).toNat = 1; omega]
    kernel_rfl
  have hc : crashNames [(nf, 0), (nn, 1)] = [(nf, 0), (nn, 1)] := by unfold crashNames; rw [namesOf_two]; rfl
  have hf : crashFiles (t8 a b).files [(nf, 0), (nn, 1)] t = [crashFile (a, (a.length : Int)) t 0, crashFile (b, (b.length : Int)) t 1] := by
    unfold crashFiles
    rw [namesOf_two]
    kernel_rfl
  rw [crash_of h, hf, hc, whole, whole]
  rfl
theorem tX_2 (a b t : List Int) (n : Int) (h : 2 ≤ n) : crash (t8 a b) n t = tX0 b := by
  have h : leftNames (t8 a b) (leftN (t8 a b) n) = [(nf, 1)] := by
    rw [show leftN (t8 a b) n = 2 by show (min (max n 0) 2).toNat = 2; omega]
    kernel_rfl
  rw [crash_of h, crashFiles_one, crashNames_one]
  show (⟨1000, 0, [crashFile (b, (b.length : Int)) t 0], _, _, _, _, _, _⟩ : DS) = _
  rw [whole]
  rfl
theorem tr0 (a : List Int) : read1 (tX0 a) nf = (a, 0) := by kernel_rfl
theorem tr0n (a : List Int) : read1 (tX0 a) nn = ([], 30) := by kernel_rfl
theorem tr1 (a b : List Int) : read1 (tX1 a b) nf = (a, 0) := by kernel_rfl
theorem tr1n (a b : List Int) : read1 (tX1 a b) nn = (b, 0) := by kernel_rfl
/-- What is found, whatever is left. -/
theorem turns_found (a b t : List Int) (n : Int) : ∃ la lb r, read1 (crash (t8 a b) n t) nf = (la, 0) ∧ read1 (crash (t8 a b) n t) nn = (lb, r) ∧ la.length ≤ max a.length b.length ∧ lb.length ≤ b.length ∧
    (min (max n 0) 2 = 0 ∧ la = a ∧ r = 30 ∨ min (max n 0) 2 = 1 ∧ la = a ∧ lb = b ∧ r = 0 ∨ min (max n 0) 2 = 2 ∧ la = b ∧ r = 30) := by
  by_cases h0 : n ≤ 0
  · rw [tX_0 a b t n h0]
    exact ⟨a, [], 30, tr0 a, tr0n a, by omega, by simp, .inl ⟨by omega, rfl, rfl⟩⟩
  · by_cases h1 : n = 1
    · rw [tX_1 a b t n h1]
      exact ⟨a, b, 0, tr1 a b, tr1n a b, by omega, Nat.le_refl _, .inr (.inl ⟨by omega, rfl, rfl, rfl⟩)⟩
    · rw [tX_2 a b t n (by omega)]
      exact ⟨b, [], 30, tr0 b, tr0n b, by omega, by simp, .inr (.inr ⟨by omega, rfl, rfl⟩)⟩
end Go.Proofs.Ytfbpplgpmgnmjaa.P

/- shown: the walk. -/
namespace Go.Proofs.Ytfbpplgpmgnmjaa.P
open Go.RowKit Go.Proofs.YtfbpplgpmgnmjaaW.PrintWords Go.Proofs.YtfbpplgpmgnmjaaW.PrintLast Go.Proofs.YtfbpplgpmgnmjaaW.PrintMore
set_option linter.unusedVariables false
set_option linter.unusedSimpArgs false
theorem reps_bytes (W : World) : ∀ l : List Int, Reps ((Kd.int .u8).K W) 1 l (l.map (Value.int .u8))
  | [] => Reps.none _ _
  | x :: l => Reps.one rfl (reps_bytes W l)
/-- Bytes in a block, however it is marked. -/
theorem row_C {α : Type} {d : Kd α} {w : World} {g : Nat} {cs : Array Value} {l : List Value} {t : Nat} {fr : Nat × Nat} {xs : List α} (h : w.heap[g]? = some (.cells cs t fr)) (hr : Reps (d.K w) d.sz xs l) (hl : cs.toList = l) (hn : xs.length ≤ 9223372036854775807) : Kd.C d w (some ⟨g, 0, none⟩) xs.length xs := by
  subst hl
  refine ⟨rfl, hn, fun _ => ⟨_, rfl, fun j p hj => ⟨(cs.toList.drop (j * d.sz)).take d.sz, ?_, hr.2 j p hj, fun i u hu => ?_⟩⟩⟩
  · have hjl := (List.getElem?_eq_some_iff.1 hj).1
    have h1 : j * d.sz + d.sz ≤ cs.toList.length := by rw [hr.1, ← Nat.succ_mul]; exact Nat.mul_le_mul_right _ hjl
    rw [List.length_take, List.length_drop]
    omega
  · rw [List.getElem?_take] at hu
    split at hu
    · rw [List.getElem?_drop] at hu
      rw [add_plain, cell_of_row w g _ cs t fr h]
      simpa using hu
    · cases hu
theorem bytes_F {W : World} {g : Nat} {cs : Array Value} {fr : Nat × Nat} {l : List Int} (h : W.heap[g]? = some (.cells cs 5 fr)) (hcs : cs.toList = l.map (Value.int .u8)) (hl : l.length ≤ 1000000) : Kd.F (Kd.int .u8) W (fun q => q = g) (some ⟨g, 0, none⟩) l.length l :=
  fun W' hW => row_C ((hW g rfl (Array.getElem?_eq_some_iff.1 h).1).trans h) (reps_bytes W' l) hcs (by omega)
theorem str_of {w : World} {A : Option Addr} {n c : Nat} {xs : List Int} (h : Kd.C (Kd.int .u8) w A n xs) : (convert 22 9 (.slice A n c)).run Try.prog w = .ok (.string (strOfNums xs)) w :=
  Kd.C_string Try.underlying22 Try.underlying5 Try.underlying9 h
theorem ptr_nil (W : World) (a : Option Addr) : (binOp .eql 24 (.pointer a) (.pointer none)).run Try.prog W = .ok (.bool a.isNone) W := by
  cases a <;> kernel_rfl
theorem Did.take {w : World} {p m : Nat} {d' : DS} {N : Nat} {r : Int} {e : Ending} {w' : World} (h : Did w p m d' N r e w') : e = .returned (.int .i64 r) ∧ Aside0 (Dk w' p m (far p m) d' ∧ Kept w w' (mutS p m) ∧ Good d' N) := ⟨h.e, ⟨h.d, h.k, h.g⟩⟩
set_option maxHeartbeats 8000000 in
set_option maxRecDepth 100000 in
theorem shown_any (w : World) : Calls Try.prog 9 #[] w fun e w' => e = .returned (.bool true) ∧ Below w.heap.size w w' := by
  have kc := fun (w : World) (C : Array Value) (n c : Nat) => Lib.run_convert_bytes_const (P := Try.prog) w 22 5 C n c Try.underlying22 Try.underlying5
  go_enter Try.func9, Try.ntmps9
  go_wp2_with (go_at_call 10; refine (new_g 9 w).mono ?_; rintro e w1 ⟨p, m, rfl, hD, hb⟩; have H0 := Aside0.mk (And.intro hD hb); clear hD hb)
  go_wp2_with (go_at_call 13; refine (create_g H0.out.1.far H0.out.1.g (by omega) _ sh1_eq).mono ?_; rintro e w2 ⟨rfl, hd, hk, hg⟩; have H1 := Aside0.mk (And.intro hd (And.intro hk hg)); clear hd hk hg)
  go_wp2_with (go_at_call 14; fail)
  have hb2 := bytes_F (l := [120, 121]) (World.alloc_heap_new w2 (.cells #[.int .u8 120, .int .u8 121] 5 (2, 3))) rfl (by simp)
  have hd2 := H1.out.1.below (below_alloc (Below.refl _ _) (.cells #[.int .u8 120, .int .u8 121] 5 (2, 3)))
  have hc2 := append_g hd2 H1.out.2.2 (by omega) na [120, 121] _ 2 _ hb2 (fun q hq => by subst hq; exact ⟨(Nat.ne_of_lt H1.out.1.lt).symm, (Nat.ne_of_lt H1.out.1.ltm).symm⟩) (Nat.le_refl _) (by simp) sh2_eq
  have HC2 := Aside0.mk hc2
  clear hb2 hd2 hc2
  go_wp2_with (go_at_call 14; refine HC2.out.mono ?_; rintro e w3 ⟨rfl, hd, hk, hg⟩; have H2 := Aside0.mk (And.intro hd (And.intro hk hg)); clear hd hk hg)
  go_wp2_with (go_at_call 15; refine (sync_g H2.out.1 H2.out.2.2 (by omega) _ sh3_eq).mono ?_; rintro e w4 ⟨rfl, hd, hk, hg⟩; have H3 := Aside0.mk (And.intro hd (And.intro hk hg)); clear hd hk hg)
  go_wp2_with (go_at_call 17; refine (crash0_g H3.out.1 H3.out.2.2 (by omega) 0 shC_eq).mono ?_; rintro e w5 ⟨pc, mc, rfl, hD, hb⟩; have HC := Aside0.mk (And.intro hD hb); clear hD hb)
  go_wp2_with (go_at_call 16; refine (syncdir_g (H3.out.1.below HC.out.2) H3.out.2.2 (by omega) sh4_eq).mono ?_; rintro e w6 ⟨rfl, hd, hk, hg⟩; have H4 := Aside0.mk (And.intro hd (And.intro hk hg)); clear hd hk hg)
  go_wp2_with (go_at_call 14; fail)
  have hb5 := bytes_F (l := [122]) (World.alloc_heap_new w6 (.cells #[.int .u8 122] 5 (1, 2))) rfl (by simp)
  have hd5 := H4.out.1.below (below_alloc (Below.refl _ _) (.cells #[.int .u8 122] 5 (1, 2)))
  have hc5 := append_g hd5 H4.out.2.2 (by omega) na [122] _ 1 _ hb5 (fun q hq => by subst hq; exact ⟨(Nat.ne_of_lt H4.out.1.lt).symm, (Nat.ne_of_lt H4.out.1.ltm).symm⟩) (Nat.le_refl _) (by simp) sh5_eq
  have HC5 := Aside0.mk hc5
  clear hb5 hd5 hc5
  go_wp2_with (go_at_call 14; refine HC5.out.mono ?_; rintro e w7 ⟨rfl, hd, hk, hg⟩; have H5 := Aside0.mk (And.intro hd (And.intro hk hg)); clear hd hk hg)
  go_wp2_with (go_at_call 17; refine (crash0_g H5.out.1 H5.out.2.2 (by omega) 0 shE_eq).mono ?_; rintro e w8 ⟨pe, me, rfl, hD, hb⟩; have HE := Aside0.mk (And.intro hD hb); clear hD hb)
  have HCn := Aside0.mk (show Newd w4 w8 pc mc shC _ from by
    have hl := H3.out.1.lt
    have hm := H3.out.1.ltm
    have k1 := HC.out.1.kept H4.out.2.1 (fun q hq => by rcases hq with rfl | rfl <;> omega)
    have k2 := k1.kept ((Kept.refl w6 (fun _ => False)).alloc (.cells #[.int .u8 122] 5 (1, 2))) (fun q hq => hq.elim)
    have k3 := k2.kept H5.out.2.1 (fun q hq => by rcases hq with rfl | rfl <;> omega)
    exact k3.kept (Kept.of_below HE.out.2 (fun _ => False)) (fun q hq => hq.elim))
  go_wp2_with (go_at_call 18; refine (read_g HE.out.1.hd HE.out.1.g (by omega) _ shE_read).mono ?_; rintro e w9 ⟨Ar, cr, rfl, hcr, hF, hb⟩; have HR := Aside0.mk (And.intro hF hb); clear hF hb)
  go_wp2_with (go_at_call 20; fail)
  refine (names_g (HCn.out.kept (Kept.of_below HR.out.2 (fun _ => False)) (fun q hq => hq.elim)).hd HCn.out.g (l := []) namesOf_nil).mono ?_
  rintro e wa ⟨An, cn, rfl, hcn, hRn, hbn⟩
  have HN := Aside0.mk hbn
  clear hRn hbn hcn
  simp only [List.length_nil]
  go_wp2_with (go_at_call 20; fail)
  refine (names_g ((HE.out.1.kept (Kept.of_below HR.out.2 (fun _ => False)) (fun q hq => hq.elim)).kept (Kept.of_below HN.out (fun _ => False)) (fun q hq => hq.elim)).hd HE.out.1.g (l := [na]) (namesOf_one _)).mono ?_
  rintro e wb ⟨Am, cm, rfl, hcm, hRm, hbm⟩
  have HN2 := Aside0.mk hbm
  clear hRm hbm hcm
  simp only [List.length_cons, List.length_nil, Nat.zero_add]
  have hstr : (convert 22 9 (.slice Ar 2 cr)).run Try.prog wb = .ok (.string ⟨#[120, 121]⟩) wb := by
    have := str_of (c := cr) (Kd.F_now (Kd.F_below (Kd.F_below HR.out.1 HN.out) HN2.out))
    rwa [show strOfNums [120, 121] = ⟨#[120, 121]⟩ by kernel_rfl] at this
  go_wp2_with fail
  all_goals go_ret
  refine ⟨rfl, ?_⟩
  have hp := H0.out.1.hp
  have hm := H0.out.1.hm
  have S : ∀ q, mutS p m q → False ∨ w.heap.size ≤ q := fun q hq => .inr (by rcases hq with rfl | rfl <;> omega)
  have k0 := (Kept.of_below H0.out.2 (fun _ => False)).then_ H1.out.2.1 S
  have k1 := (k0.alloc (.cells #[.int .u8 120, .int .u8 121] 5 (2, 3))).then_ H2.out.2.1 S
  have k2 := ((k1.then_ H3.out.2.1 S).below HC.out.2).then_ H4.out.2.1 S
  have k3 := (k2.alloc (.cells #[.int .u8 122] 5 (1, 2))).then_ H5.out.2.1 S
  exact ((((k3.below HE.out.2).below HR.out.2).below HN.out).below HN2.out).to_below (fun q hq => hq.elim)
end Go.Proofs.Ytfbpplgpmgnmjaa.P

/- DiskFails: the walk, where the first step fails. -/
namespace Go.Proofs.Ytfbpplgpmgnmjaa.P
open Go.RowKit Go.Proofs.YtfbpplgpmgnmjaaW.PrintWords Go.Proofs.YtfbpplgpmgnmjaaW.PrintLast Go.Proofs.YtfbpplgpmgnmjaaW.PrintMore
set_option linter.unusedVariables false
set_option linter.unusedSimpArgs false
theorem few_f (l : List Int) : thresherlaw08_few.f l = some (l.take 100) := by
  unfold thresherlaw08_few.f
  split
  · rw [if_pos (by omega)]
  · rw [List.take_of_length_le (by omega)]
/-- few, of bytes that came in (they lie below B). -/
theorem few_g {w w1 : World} {A : Option Addr} {c : Nat} {l b : List Int} (hbq : b = l.take 100) (h : Kd.C (Kd.int .u8) w A l.length l) (hc : l.length ≤ c) (hb : Below w.heap.size w w1) :
    Calls Try.prog 11 #[.slice A l.length c] w1 fun e w2 => ∃ A' c', e = .returned (.slice A' b.length c') ∧ b.length ≤ c' ∧ Kd.F (Kd.int .u8) w2 (fun q => q < w.heap.size ∨ w1.heap.size ≤ q) A' b.length b ∧ Below w1.heap.size w1 w2 := by
  subst hbq
  have hF : Kd.F (Kd.int .u8) w (fun q => q < w.heap.size) A l.length l := Kd.C_F (Kd.heap_int _) h
  have hV : Kd.V (Kd.int .u8) 5 w1 w1.heap.size (fun q => q < w.heap.size) (.slice A l.length c) l := ⟨A, c, rfl, hc, Kd.F_step hF (fun q hq hl => hb.block q hl)⟩
  refine (thresherlaw08_few.calls (fun q => q < w.heap.size) A c l (l.take 100) w1 hV (few_f l)).mono ?_
  rintro e w2 ⟨v, rfl, hv, hb2⟩
  obtain ⟨A', c', rfl⟩ := Kd.V_slice hv
  exact ⟨A', c', rfl, (Kd.V_at hv).2.1, (Kd.V_at hv).2.2, hb2⟩
theorem ints_C {W : World} {g : Nat} {cs : Array Value} {l : List Int} (h : W.heap[g]? = some (.cells cs 3 (0, 0))) (hcs : cs.toList = l.map (Value.int .i64)) (hl : l.length ≤ 1000000) : Kd.C (Kd.int .i64) W (some ⟨g, 0, none⟩) l.length l := by
  have hr : ∀ l : List Int, Reps ((Kd.int .i64).K W) 1 l (l.map (Value.int .i64)) := fun l => by
    induction l with
    | nil => exact Reps.none _ _
    | cons x l ih => exact Reps.one rfl ih
  exact arr_row h (hr l) hcs (by omega)
theorem fail_g {w : World} {p m : Nat} {d d' : DS} {N : Nat} (h : Dk w p m (far p m) d) (g : Good d N) (l : List Int) (A : Option Addr) (c : Nat) (hl : Kd.C (Kd.int .i64) w A l.length l) (hc : l.length ≤ c) (hlen : l.length ≤ 100) (e : ({ d with fails := l } : DS) = d') :
    Calls Try.prog 12 #[.pointer (some ⟨p, 0, none⟩), .slice A l.length c] w fun e w' => e = .returned (.tuple #[]) ∧ Dk w' p m (far p m) d' ∧ Kept w w' (mutS p m) ∧ Good d' N := by
  refine (fail_any h l A c hl hc (by omega)).mono ?_
  rintro e' w' ⟨rfl, hd, hk⟩
  have hg := g.fail l hlen
  rw [e] at hd hg
  exact ⟨rfl, hd, hk, hg⟩
set_option maxHeartbeats 8000000 in
set_option maxRecDepth 100000 in
theorem fails_1 (A0 : Option Addr) (c0 : Nat) (l0 : List Int) (a1 : Int) (w : World) (hr0 : Kd.C (Kd.int .u8) w A0 l0.length l0) (hc0 : l0.length ≤ c0) (hk : a1.tmod 4 = 0) (h0 : 0 ≤ a1) (h1 : a1 ≤ 255) :
    Calls Try.prog 3 #[.slice A0 l0.length c0, .int .u8 a1] w fun e w' => e = .returned (.bool true) ∧ Below w.heap.size w w' := by
  have mixed : Try.prog.follows Departure.mixedOrders = true := rfl
  have HR := Aside0.mk (And.intro hr0 hc0)
  clear hr0 hc0
  obtain ⟨b, hbq⟩ : ∃ b, b = l0.take 100 := ⟨_, rfl⟩
  have hbl : b.length ≤ 100 := by rw [hbq, List.length_take]; omega
  have HBQ := Aside0.mk hbq
  clear hbq
  obtain ⟨bh, hbh⟩ : ∃ bh, bh = b.take (b.length / 2) := ⟨_, rfl⟩
  have hbhl : bh.length = b.length / 2 := by rw [hbh, List.length_take]; omega
  have HBH := Aside0.mk hbh
  clear hbh
  go_enter Try.func3, Try.ntmps3
  go_wp2_with (go_at_call 9; fail)
  refine (shown_any w).mono ?_
  rintro e wa ⟨rfl, hba⟩
  have HA := Aside0.mk hba
  clear hba
  go_wp2_with (go_at_call 10; fail)
  refine (new_g 1000 wa).mono ?_
  rintro e wb ⟨p, m, rfl, hD, hb⟩
  have HB := Aside0.mk (And.intro hD (HA.out.trans (hb.mono HA.out.size)))
  clear hD hb
  go_wp2_with (go_at_call 11; fail)
  refine (few_g HBQ.out HR.out.1 HR.out.2 HB.out.2).mono ?_
  rintro e wc ⟨A, c, rfl, hcc, hF, hb⟩
  have HC := Aside0.mk (And.intro hcc (And.intro hF hb))
  clear hcc hF hb
  have HOK := Aside0.mk (show ∀ q, (q < w.heap.size ∨ wb.heap.size ≤ q) → q ≠ p ∧ q ≠ m from fun q hq => by
    have h1 := HB.out.1.hp
    have h2 := HB.out.1.hm
    have h3 := HA.out.size
    have h4 := HB.out.1.far.lt
    have h5 := HB.out.1.far.ltm
    exact ⟨by omega, by omega⟩)
  go_wp2_with (go_at_call 12; fail)
  have hfl := ints_C (l := kf 1) (blk_new wc (.cells #[.int .i64 1, .int .i64 9, .int .i64 1] 3)) rfl (by decide)
  refine (fail_g (HB.out.1.far.below (below_step HC.out.2.2 (below_alloc (Below.refl _ _) _))) HB.out.1.g (kf 1) _ 3 hfl (by decide) (by decide) f10_eq).mono ?_
  rintro e w0 ⟨rfl, hd, hk, hg⟩
  have HF0 := Aside0.mk (Kd.F_step (Kd.F_alloc HC.out.2.1 (.cells #[.int .i64 1, .int .i64 9, .int .i64 1] 3)) (fun q hq hl => hk.2 q hl (fun e => e.elim (HOK.out q hq).1 (HOK.out q hq).2)))
  have H0 := Aside0.mk (And.intro hd (And.intro hk hg))
  clear hd hk hg hfl
  go_wp2_with (go_at_call 13; fail)
  refine ((create_g H0.out.1 H0.out.2.2 (by omega) nf f11_eq).mono (fun _ _ h => (⟨h.e, h.d, h.k, h.g⟩ : _ ∧ _ ∧ _ ∧ _))).mono ?_
  rintro e w1 ⟨rfl, hd, hk, hg⟩
  have HF1 := Aside0.mk (Kd.F_step HF0.out (fun q hq hl => hk.2 q hl (fun e => e.elim (HOK.out q hq).1 (HOK.out q hq).2)))
  have H1 := Aside0.mk (And.intro hd (And.intro hk hg))
  clear hd hk hg
  go_wp2_with (go_at_call 14; fail)
  refine ((append_g H1.out.1 H1.out.2.2 (by omega) nf b A c _ HF1.out HOK.out HC.out.1 (by omega) (f12_eq b)).mono (fun _ _ h => (⟨h.e, h.d, h.k, h.g⟩ : _ ∧ _ ∧ _ ∧ _))).mono ?_
  rintro e w2 ⟨rfl, hd, hk, hg⟩
  have HF2 := Aside0.mk (Kd.F_step HF1.out (fun q hq hl => hk.2 q hl (fun e => e.elim (HOK.out q hq).1 (HOK.out q hq).2)))
  have H2 := Aside0.mk (And.intro hd (And.intro hk hg))
  clear hd hk hg
  go_wp2_with (go_at_call 15; fail)
  refine ((sync_g H2.out.1 H2.out.2.2 (by omega) nf (f13_eq)).mono (fun _ _ h => (⟨h.e, h.d, h.k, h.g⟩ : _ ∧ _ ∧ _ ∧ _))).mono ?_
  rintro e w3 ⟨rfl, hd, hk, hg⟩
  have HF3 := Aside0.mk (Kd.F_step HF2.out (fun q hq hl => hk.2 q hl (fun e => e.elim (HOK.out q hq).1 (HOK.out q hq).2)))
  have H3 := Aside0.mk (And.intro hd (And.intro hk hg))
  clear hd hk hg
  go_wp2_with (go_at_call 16; fail)
  refine ((syncdir_g H3.out.1 H3.out.2.2 (by omega) (f14_eq)).mono (fun _ _ h => (⟨h.e, h.d, h.k, h.g⟩ : _ ∧ _ ∧ _ ∧ _))).mono ?_
  rintro e w4 ⟨rfl, hd, hk, hg⟩
  have HF4 := Aside0.mk (Kd.F_step HF3.out (fun q hq hl => hk.2 q hl (fun e => e.elim (HOK.out q hq).1 (HOK.out q hq).2)))
  have H4 := Aside0.mk (And.intro hd (And.intro hk hg))
  clear hd hk hg
  go_wp2_with fail
  generalize hW5 : w4.alloc (.cells #[.int .i64 33, .int .i64 30, .int .i64 30, .int .i64 0] 29) = w5
  have hb5 : w5.heap[w4.heap.size]? = some (.cells #[.int .i64 33, .int .i64 30, .int .i64 30, .int .i64 0] 29 (0, 0)) := by rw [← hW5]; exact blk_new _ _
  have hc0 : w5.cell? ⟨w4.heap.size, 0, none⟩ = some (.int .i64 33) := (blk_cell hb5 0).trans rfl
  have hc1 : w5.cell? ⟨w4.heap.size, 1, none⟩ = some (.int .i64 30) := (blk_cell hb5 1).trans rfl
  have hc2 : w5.cell? ⟨w4.heap.size, 2, none⟩ = some (.int .i64 30) := (blk_cell hb5 2).trans rfl
  have hc3 : w5.cell? ⟨w4.heap.size, 3, none⟩ = some (.int .i64 0) := (blk_cell hb5 3).trans rfl
  have HB5 := Aside0.mk (show Below w4.heap.size w4 w5 by rw [← hW5]; exact below_alloc (Below.refl _ _) _)
  clear hW5 hb5
  refine wp_loop_rounds 5 ?_
  rw [rounds_succ]
  go_wp2_with fail
  rw [rounds_succ]
  go_wp2_with fail
  rw [rounds_succ]
  go_wp2_with fail
  rw [rounds_succ]
  go_wp2_with fail
  rw [rounds_succ]
  go_wp2_with (go_at_call 17; fail)
  refine (crash0_g (H4.out.1.below HB5.out) H4.out.2.2 (by omega) 0 (f1X_eq)).mono ?_
  rintro e w6 ⟨px, mx, rfl, hD, hb⟩
  have H6 := Aside0.mk (And.intro hD (And.intro hb ((H4.out.1.below HB5.out).below hb)))
  clear hD hb hc0 hc1 hc2 hc3
  go_wp2_with (go_at_call 18; fail)
  refine (read_g H6.out.2.2 H4.out.2.2 (by omega) nf (f1r_eq)).mono ?_
  rintro e w7 ⟨Ar, cr, rfl, hcr, hF, hb⟩
  have H7 := Aside0.mk (And.intro hF (And.intro hb (H6.out.2.2.below hb)))
  clear hF hb
  go_wp2_with (go_at_call 19; fail)
  have hS : Calls Try.prog 19 #[.pointer (some ⟨p, 0, none⟩)] w7 fun e w' => e = .returned (.int .i64 4) ∧ w' = w7 := steps_any H7.out.2.2
  refine hS.mono ?_
  rintro e w7' ⟨rfl, rfl⟩
  clear hS
  go_wp2_with (go_at_call 18; fail)
  refine (read_g (H6.out.1.kept (Kept.of_below H7.out.2.1 (fun _ => False)) (fun q hq => hq.elim)).hd H6.out.1.g (by omega) nf (f1x_eq)).mono ?_
  rintro e w8 ⟨Ax, cx, rfl, hcx, hF, hb⟩
  have H8 := Aside0.mk (And.intro hF (And.intro hb (H7.out.2.2.below hb)))
  clear hF hb
  have HFb := Aside0.mk (show Kd.F (Kd.int .u8) w8 (fun q => q < w.heap.size ∨ wb.heap.size ≤ q) A b.length b from Kd.F_below (Kd.F_below (Kd.F_below (Kd.F_below HF4.out HB5.out) H6.out.2.1) H7.out.2.1) H8.out.2.1)
  go_wp2_with (go_at_call 20; fail)
  refine (names_g H8.out.2.2 H4.out.2.2 (l := []) namesOf_nil).mono ?_
  rintro e w9 ⟨An, cn, rfl, hcn, hRn, hbn⟩
  have H9 := Aside0.mk hbn
  clear hRn hbn hcn
  simp only [List.length_nil]
  go_wp2_with fail
  go_ret
  have HZ := Aside0.mk (H8.out.2.1.trans (H9.out.mono H8.out.2.1.size))
  refine ⟨rfl, ?_⟩
  have hp := HB.out.1.hp
  have hm := HB.out.1.hm
  have hz := HA.out.size
  have S : ∀ q, mutS p m q → False ∨ w.heap.size ≤ q := fun q hq => .inr (by rcases hq with rfl | rfl <;> omega)
  have k0 := (((Kept.of_below HB.out.2 (fun _ => False)).below HC.out.2.2).alloc (.cells #[.int .i64 1, .int .i64 9, .int .i64 1] 3)).then_ H0.out.2.1 S
  have k4 := (((k0.then_ H1.out.2.1 S).then_ H2.out.2.1 S).then_ H3.out.2.1 S).then_ H4.out.2.1 S
  exact ((((k4.below HB5.out).below H6.out.2.1).below H7.out.2.1).below HZ.out).to_below (fun q hq => hq.elim)
end Go.Proofs.Ytfbpplgpmgnmjaa.P

/- DiskTurns: the walk. -/
namespace Go.Proofs.Ytfbpplgpmgnmjaa.P
open Go.RowKit Go.Proofs.YtfbpplgpmgnmjaaW.PrintWords Go.Proofs.YtfbpplgpmgnmjaaW.PrintLast Go.Proofs.YtfbpplgpmgnmjaaW.PrintMore
set_option linter.unusedVariables false
set_option linter.unusedSimpArgs false
theorem some_f (l : List Int) : thresherlaw08_some.f l = some (l.take 10) := by
  unfold thresherlaw08_some.f
  split
  · rw [if_pos (by omega)]
  · rw [List.take_of_length_le (by omega)]
/-- some, of numbers that came in. -/
theorem some_g {w w1 : World} {A : Option Addr} {c : Nat} {l t : List Int} (htq : t = l.take 10) (h : Kd.C (Kd.int .i64) w A l.length l) (hc : l.length ≤ c) (hb : Kept w w1 (fun q => w.heap.size ≤ q)) :
    Calls Try.prog 25 #[.slice A l.length c] w1 fun e w2 => ∃ A' c', e = .returned (.slice A' t.length c') ∧ t.length ≤ c' ∧ Kd.C (Kd.int .i64) w2 A' t.length t ∧ Below w1.heap.size w1 w2 := by
  subst htq
  have hF : Kd.F (Kd.int .i64) w (fun q => q < w.heap.size) A l.length l := Kd.C_F (Kd.heap_int _) h
  have hV : Kd.V (Kd.int .i64) 3 w1 w1.heap.size (fun q => q < w.heap.size) (.slice A l.length c) l := ⟨A, c, rfl, hc, Kd.F_step hF (fun q hq hl => hb.2 q hl (fun e => by omega))⟩
  refine (thresherlaw08_some.calls (fun q => q < w.heap.size) A c l (l.take 10) w1 hV (some_f l)).mono ?_
  rintro e w2 ⟨v, rfl, hv, hb2⟩
  obtain ⟨A', c', rfl⟩ := Kd.V_slice hv
  exact ⟨A', c', rfl, (Kd.V_at hv).2.1, Kd.F_now (Kd.V_at hv).2.2, hb2⟩
theorem run_min2 (W : World) (a b : Int) : True := trivial
set_option maxHeartbeats 8000000 in
set_option maxRecDepth 100000 in
theorem turns_go (A0 : Option Addr) (c0 : Nat) (l0 : List Int) (A1 : Option Addr) (c1 : Nat) (l1 : List Int) (n : Int) (A2 : Option Addr) (c2 : Nat) (l2 : List Int) (w : World) (hr0 : Kd.C (Kd.int .u8) w A0 l0.length l0) (hc0 : l0.length ≤ c0) (hr1 : Kd.C (Kd.int .u8) w A1 l1.length l1) (hc1 : l1.length ≤ c1) (hr2 : Kd.C (Kd.int .i64) w A2 l2.length l2) (hc2 : l2.length ≤ c2) :
    Calls Try.prog 6 #[.slice A0 l0.length c0, .slice A1 l1.length c1, .agg #[.int .i64 n, .slice A2 l2.length c2]] w fun e w' => e = .returned (.bool true) ∧ Below w.heap.size w w' := by
  have mixed : Try.prog.follows Departure.mixedOrders = true := rfl
  have HR := Aside0.mk (And.intro (And.intro hr0 hc0) (And.intro (And.intro hr1 hc1) (And.intro hr2 hc2)))
  clear hr0 hc0 hr1 hc1 hr2 hc2
  obtain ⟨a, haq⟩ : ∃ a, a = l0.take 100 := ⟨_, rfl⟩
  have hal : a.length ≤ 100 := by rw [haq, List.length_take]; omega
  have HAQ := Aside0.mk haq
  clear haq
  obtain ⟨b, hbq⟩ : ∃ b, b = l1.take 100 := ⟨_, rfl⟩
  have hbl : b.length ≤ 100 := by rw [hbq, List.length_take]; omega
  have HBQ := Aside0.mk hbq
  clear hbq
  obtain ⟨t, htq⟩ : ∃ t, t = l2.take 10 := ⟨_, rfl⟩
  have htl : t.length ≤ 10 := by rw [htq, List.length_take]; omega
  have HTQ := Aside0.mk htq
  clear htq
  go_enter Try.func6, Try.ntmps6
  go_wp2_with (go_at_call 9; fail)
  generalize hWX : w.alloc (.cells #[.int .i64 n, .slice A2 l2.length c2] 46) = wx
  have hbx : wx.heap[w.heap.size]? = some (.cells #[.int .i64 n, .slice A2 l2.length c2] 46 (0, 0)) := by rw [← hWX]; exact blk_new _ _
  have HWX := Aside0.mk (show Below w.heap.size w wx by rw [← hWX]; exact below_alloc (Below.refl _ _) _)
  have HBX := Aside0.mk hbx
  have hxl := Aside0.mk (blk_lt hbx)
  clear hWX hbx
  refine (shown_any wx).mono ?_
  rintro e wa ⟨rfl, hba⟩
  have HBXa := Aside0.mk (blk_below HBX.out hba)
  have HA := Aside0.mk (HWX.out.trans (hba.mono HWX.out.size))
  clear hba
  go_wp2_with (go_at_call 10; fail)
  refine (new_g 1000 wa).mono ?_
  rintro e wb ⟨p, m, rfl, hD, hb⟩
  have HBXb := Aside0.mk (blk_below HBXa.out hb)
  have HB := Aside0.mk (And.intro hD (HA.out.trans (hb.mono HA.out.size)))
  clear hD hb
  have HX := Aside0.mk (show ¬ mutS p m w.heap.size from fun e => by have h1 := HB.out.1.hp; have h2 := HB.out.1.hm; have h3 := blk_lt HBXa.out; rcases e with e | e <;> omega)
  go_wp2_with (go_at_call 11; fail)
  refine (few_g HAQ.out HR.out.1.1 HR.out.1.2 HB.out.2).mono ?_
  rintro e wc ⟨A, c, rfl, hcc, hF, hb⟩
  have HBXc := Aside0.mk (blk_below HBXb.out hb)
  have HC := Aside0.mk (And.intro hcc (And.intro hF hb))
  clear hcc hF hb
  go_wp2_with (go_at_call 11; fail)
  refine (few_g HBQ.out HR.out.2.1.1 HR.out.2.1.2 (HB.out.2.trans (HC.out.2.2.mono HB.out.2.size))).mono ?_
  rintro e w0 ⟨B, cb, rfl, hcb, hF, hb⟩
  have HBX0 := Aside0.mk (blk_below HBXc.out hb)
  have HOA := Aside0.mk (show ∀ q, (q < w.heap.size ∨ wb.heap.size ≤ q) → q ≠ p ∧ q ≠ m from fun q hq => by
    have h1 := HB.out.1.hp
    have h2 := HB.out.1.hm
    have h3 := HA.out.size
    have h4 := HB.out.1.far.lt
    have h5 := HB.out.1.far.ltm
    exact ⟨by omega, by omega⟩)
  have HOB := Aside0.mk (show ∀ q, (q < w.heap.size ∨ wc.heap.size ≤ q) → q ≠ p ∧ q ≠ m from fun q hq => by
    have h6 := HC.out.2.2.size
    exact HOA.out q (by omega))
  have HFA0 := Aside0.mk (Kd.F_below HC.out.2.1 hb)
  have HFB0 := Aside0.mk hF
  have HE := Aside0.mk (And.intro hcb hb)
  clear hcb hF hb
  have H0 := Aside0.mk (And.intro ((HB.out.1.far.below HC.out.2.2).below HE.out.2) HB.out.1.g)
  go_wp2_with (go_at_call 13; fail)
  refine ((create_g H0.out.1 H0.out.2 (by omega) nf t1_eq).mono (fun _ _ h => (⟨h.e, h.d, h.k, h.g⟩ : _ ∧ _ ∧ _ ∧ _))).mono ?_
  rintro e w1 ⟨rfl, hd, hk, hg⟩
  have HFA1 := Aside0.mk (Kd.F_step HFA0.out (fun q hq hl => hk.2 q hl (fun e => e.elim (HOA.out q hq).1 (HOA.out q hq).2)))
  have HFB1 := Aside0.mk (Kd.F_step HFB0.out (fun q hq hl => hk.2 q hl (fun e => e.elim (HOB.out q hq).1 (HOB.out q hq).2)))
  have HBX1 := Aside0.mk (blk_kept HBX0.out hk HX.out)
  have H1 := Aside0.mk (And.intro hd (And.intro hk hg))
  clear hd hk hg
  go_wp2_with (go_at_call 14; fail)
  refine ((append_g H1.out.1 H1.out.2.2 (by omega) nf a A c _ HFA1.out HOA.out HC.out.1 (by omega) (t2_eq a hal)).mono (fun _ _ h => (⟨h.e, h.d, h.k, h.g⟩ : _ ∧ _ ∧ _ ∧ _))).mono ?_
  rintro e w2 ⟨rfl, hd, hk, hg⟩
  have HFA2 := Aside0.mk (Kd.F_step HFA1.out (fun q hq hl => hk.2 q hl (fun e => e.elim (HOA.out q hq).1 (HOA.out q hq).2)))
  have HFB2 := Aside0.mk (Kd.F_step HFB1.out (fun q hq hl => hk.2 q hl (fun e => e.elim (HOB.out q hq).1 (HOB.out q hq).2)))
  have HBX2 := Aside0.mk (blk_kept HBX1.out hk HX.out)
  have H2 := Aside0.mk (And.intro hd (And.intro hk hg))
  clear hd hk hg
  go_wp2_with (go_at_call 15; fail)
  refine ((sync_g H2.out.1 H2.out.2.2 (by omega) nf (t3_eq a)).mono (fun _ _ h => (⟨h.e, h.d, h.k, h.g⟩ : _ ∧ _ ∧ _ ∧ _))).mono ?_
  rintro e w3 ⟨rfl, hd, hk, hg⟩
  have HFA3 := Aside0.mk (Kd.F_step HFA2.out (fun q hq hl => hk.2 q hl (fun e => e.elim (HOA.out q hq).1 (HOA.out q hq).2)))
  have HFB3 := Aside0.mk (Kd.F_step HFB2.out (fun q hq hl => hk.2 q hl (fun e => e.elim (HOB.out q hq).1 (HOB.out q hq).2)))
  have HBX3 := Aside0.mk (blk_kept HBX2.out hk HX.out)
  have H3 := Aside0.mk (And.intro hd (And.intro hk hg))
  clear hd hk hg
  go_wp2_with (go_at_call 16; fail)
  refine ((syncdir_g H3.out.1 H3.out.2.2 (by omega) (t4_eq a)).mono (fun _ _ h => (⟨h.e, h.d, h.k, h.g⟩ : _ ∧ _ ∧ _ ∧ _))).mono ?_
  rintro e w4 ⟨rfl, hd, hk, hg⟩
  have HFA4 := Aside0.mk (Kd.F_step HFA3.out (fun q hq hl => hk.2 q hl (fun e => e.elim (HOA.out q hq).1 (HOA.out q hq).2)))
  have HFB4 := Aside0.mk (Kd.F_step HFB3.out (fun q hq hl => hk.2 q hl (fun e => e.elim (HOB.out q hq).1 (HOB.out q hq).2)))
  have HBX4 := Aside0.mk (blk_kept HBX3.out hk HX.out)
  have H4 := Aside0.mk (And.intro hd (And.intro hk hg))
  clear hd hk hg
  go_wp2_with (go_at_call 13; fail)
  refine ((create_g H4.out.1 H4.out.2.2 (by omega) nn (t5_eq a)).mono (fun _ _ h => (⟨h.e, h.d, h.k, h.g⟩ : _ ∧ _ ∧ _ ∧ _))).mono ?_
  rintro e w5 ⟨rfl, hd, hk, hg⟩
  have HFA5 := Aside0.mk (Kd.F_step HFA4.out (fun q hq hl => hk.2 q hl (fun e => e.elim (HOA.out q hq).1 (HOA.out q hq).2)))
  have HFB5 := Aside0.mk (Kd.F_step HFB4.out (fun q hq hl => hk.2 q hl (fun e => e.elim (HOB.out q hq).1 (HOB.out q hq).2)))
  have HBX5 := Aside0.mk (blk_kept HBX4.out hk HX.out)
  have H5 := Aside0.mk (And.intro hd (And.intro hk hg))
  clear hd hk hg
  go_wp2_with (go_at_call 14; fail)
  refine ((append_g H5.out.1 H5.out.2.2 (by omega) nn b B cb _ HFB5.out HOB.out HE.out.1 (by omega) (t6_eq a b hal hbl)).mono (fun _ _ h => (⟨h.e, h.d, h.k, h.g⟩ : _ ∧ _ ∧ _ ∧ _))).mono ?_
  rintro e w6 ⟨rfl, hd, hk, hg⟩
  have HFA6 := Aside0.mk (Kd.F_step HFA5.out (fun q hq hl => hk.2 q hl (fun e => e.elim (HOA.out q hq).1 (HOA.out q hq).2)))
  have HFB6 := Aside0.mk (Kd.F_step HFB5.out (fun q hq hl => hk.2 q hl (fun e => e.elim (HOB.out q hq).1 (HOB.out q hq).2)))
  have HBX6 := Aside0.mk (blk_kept HBX5.out hk HX.out)
  have H6 := Aside0.mk (And.intro hd (And.intro hk hg))
  clear hd hk hg
  go_wp2_with (go_at_call 15; fail)
  refine ((sync_g H6.out.1 H6.out.2.2 (by omega) nn (t7_eq a b)).mono (fun _ _ h => (⟨h.e, h.d, h.k, h.g⟩ : _ ∧ _ ∧ _ ∧ _))).mono ?_
  rintro e w7 ⟨rfl, hd, hk, hg⟩
  have HFA7 := Aside0.mk (Kd.F_step HFA6.out (fun q hq hl => hk.2 q hl (fun e => e.elim (HOA.out q hq).1 (HOA.out q hq).2)))
  have HFB7 := Aside0.mk (Kd.F_step HFB6.out (fun q hq hl => hk.2 q hl (fun e => e.elim (HOB.out q hq).1 (HOB.out q hq).2)))
  have HBX7 := Aside0.mk (blk_kept HBX6.out hk HX.out)
  have H7 := Aside0.mk (And.intro hd (And.intro hk hg))
  clear hd hk hg
  go_wp2_with (go_at_call 24; fail)
  refine ((rename_g H7.out.1 H7.out.2.2 (by omega) nn nf (t8_eq a b)).mono (fun _ _ h => (⟨h.e, h.d, h.k, h.g⟩ : _ ∧ _ ∧ _ ∧ _))).mono ?_
  rintro e w8 ⟨rfl, hd, hk, hg⟩
  have HFA8 := Aside0.mk (Kd.F_step HFA7.out (fun q hq hl => hk.2 q hl (fun e => e.elim (HOA.out q hq).1 (HOA.out q hq).2)))
  have HFB8 := Aside0.mk (Kd.F_step HFB7.out (fun q hq hl => hk.2 q hl (fun e => e.elim (HOB.out q hq).1 (HOB.out q hq).2)))
  have HBX8 := Aside0.mk (blk_kept HBX7.out hk HX.out)
  have H8 := Aside0.mk (And.intro hd (And.intro hk hg))
  clear hd hk hg
  obtain ⟨X, hX⟩ : ∃ X, crash (t8 a b) n t = X := ⟨_, rfl⟩
  obtain ⟨la, lb, r, hra, hrb, hlal, hlbl, hall⟩ := turns_found a b t n
  rw [hX] at hra hrb
  have HXX := Aside0.mk (And.intro hX (And.intro hra hrb))
  have HALL := Aside0.mk hall
  clear hX hra hrb hall
  have HKW := Aside0.mk (show Kept w w8.drew (fun q => w.heap.size ≤ q) from by
    have hp := HB.out.1.hp
    have hm := HB.out.1.hm
    have hz := HA.out.size
    have S : ∀ q, mutS p m q → (fun q => w.heap.size ≤ q) q ∨ w.heap.size ≤ q := fun q hq => .inr (by rcases hq with rfl | rfl <;> omega)
    have k0 := ((Kept.of_below HB.out.2 (fun q => w.heap.size ≤ q)).below HC.out.2.2).below HE.out.2
    have k4 := (((k0.then_ H1.out.2.1 S).then_ H2.out.2.1 S).then_ H3.out.2.1 S).then_ H4.out.2.1 S
    have k8 := (((k4.then_ H5.out.2.1 S).then_ H6.out.2.1 S).then_ H7.out.2.1 S).then_ H8.out.2.1 S
    exact k8.below (below_drew1 (Below.refl _ _)))
  have HSC := Aside0.mk (show Calls Try.prog 25 #[.slice A2 l2.length c2] w8.drew fun e w2 => ∃ A' c', e = .returned (.slice A' t.length c') ∧ t.length ≤ c' ∧ Kd.C (Kd.int .i64) w2 A' t.length t ∧ Below w8.heap.size w8 w2 from
    (some_g HTQ.out HR.out.2.2.1 HR.out.2.2.2 HKW.out).mono (fun e w2 ⟨A', c', h1, h2, h3, h4⟩ => ⟨A', c', h1, h2, h3, below_step (below_drew1 (Below.refl _ _)) h4⟩))
  have hx0 : w8.cell? ⟨w.heap.size, 0, none⟩ = some (.int .i64 n) := (blk_cell HBX8.out 0).trans rfl
  have hx1 : w8.cell? ⟨w.heap.size, 1, none⟩ = some (.slice A2 l2.length c2) := (blk_cell HBX8.out 1).trans rfl
  go_upto_region 17 with fail
  go_cut [10] (fun v wz => Aside0 (∃ px mx wy N, v = .pointer (some ⟨px, 0, none⟩) ∧ N ≤ 100 ∧ Below w8.heap.size w8 wy ∧ Newd wy wz px mx X N ∧ Below wy.heap.size wy wz))
  case first =>
    go_region_law_o
      (first
        | (refine goes_ Try.func25 (by kernel_rfl) rfl #[.slice A2 l2.length c2] (by rfl) rfl rfl (by simp only [List.map_toArray, List.map_cons, List.map_nil]; rfl) ?_; with_reducible refine HSC.out.mono ?_; rintro e w9 ⟨At, ct, rfl, hct, hCt, hb9⟩
           have hx09 : w9.cell? ⟨w.heap.size, 0, none⟩ = some (.int .i64 n) := (blk_cell (blk_below HBX8.out hb9) 0).trans rfl
           have H9 := Aside0.mk (And.intro hct (And.intro hCt hb9))
           clear hct hCt hb9
           refine ⟨_, rfl, ?_⟩)
        | (refine goes_ Try.func17 (by kernel_rfl) rfl #[.pointer (some ⟨p, 0, none⟩), .int .i64 n, .slice At t.length ct] (by rfl) rfl rfl (by simp only [List.map_toArray, List.map_cons, List.map_nil]; rfl) ?_; refine (crash_g (H8.out.1.below H9.out.2.2) H8.out.2.2 (by omega) n t At ct H9.out.2.1 H9.out.1 (by omega) HXX.out.1).mono ?_; rintro e wx ⟨px, mx, rfl, hD, hb⟩
           have HD9 := Aside0.mk (And.intro hD hb)
           clear hD hb
           refine ⟨_, rfl, ?_⟩))
    all_goals
      go_wp2_with fail
      go_meet
      case rel => exact ⟨⟨px, mx, w9, _, rfl, (by omega), H9.out.2.2, HD9.out.1, HD9.out.2⟩⟩
  case rest =>
    obtain ⟨⟨px, mx, wy, N, rfl, hN, hby, hD, hbz⟩⟩ := hcut
    have HZ := Aside0.mk (And.intro hby (And.intro hD hbz))
    have HFAz := Aside0.mk (Kd.F_below (Kd.F_below HFA8.out hby) hbz)
    have HFBz := Aside0.mk (Kd.F_below (Kd.F_below HFB8.out hby) hbz)
    have HBXz := Aside0.mk (blk_below (blk_below HBX8.out hby) hbz)
    clear hx0 hx1 hby hD hbz
    go_wp2_with (go_at_call 18; fail)
    refine (read_g HZ.out.2.1.hd HZ.out.2.1.g (by omega) nf HXX.out.2.1).mono ?_
    rintro e w10 ⟨Ar, cr, rfl, hcr, hF, hb⟩
    have HP := Aside0.mk (And.intro hF hb)
    clear hF hb
    go_wp2_with (go_at_call 18; fail)
    refine (read_g (HZ.out.2.1.kept (Kept.of_below HP.out.2 (fun _ => False)) (fun q hq => hq.elim)).hd HZ.out.2.1.g (by omega) nn HXX.out.2.2).mono ?_
    rintro e w11 ⟨As, cs, rfl, hcs, hF, hb⟩
    have hx0 : w11.cell? ⟨w.heap.size, 0, none⟩ = some (.int .i64 n) := (blk_cell (blk_below (blk_below HBXz.out HP.out.2) hb) 0).trans rfl
    have hs1 : (convert 22 9 (.slice Ar la.length cr)).run Try.prog w11 = .ok (.string (strOfNums la)) w11 := str_of (Kd.F_now (Kd.F_below HP.out.1 hb))
    have hs2 : (convert 22 9 (.slice A a.length c)).run Try.prog w11 = .ok (.string (strOfNums a)) w11 := str_of (Kd.F_now (Kd.F_below (Kd.F_below HFAz.out HP.out.2) hb))
    have hs3 : (convert 22 9 (.slice B b.length cb)).run Try.prog w11 = .ok (.string (strOfNums b)) w11 := str_of (Kd.F_now (Kd.F_below (Kd.F_below HFBz.out HP.out.2) hb))
    have hs4 : (convert 22 9 (.slice As lb.length cs)).run Try.prog w11 = .ok (.string (strOfNums lb)) w11 := str_of (Kd.F_now hF)
    have HQ := Aside0.mk hb
    have HZ9 := Aside0.mk (show Below w.heap.size w w11 from by
      have hp := HB.out.1.hp
      have hm := HB.out.1.hm
      have hz := HA.out.size
      have S : ∀ q, mutS p m q → False ∨ w.heap.size ≤ q := fun q hq => .inr (by rcases hq with rfl | rfl <;> omega)
      have k0 := ((Kept.of_below HB.out.2 (fun _ => False)).below HC.out.2.2).below HE.out.2
      have k4 := (((k0.then_ H1.out.2.1 S).then_ H2.out.2.1 S).then_ H3.out.2.1 S).then_ H4.out.2.1 S
      have k8 := (((k4.then_ H5.out.2.1 S).then_ H6.out.2.1 S).then_ H7.out.2.1 S).then_ H8.out.2.1 S
      exact ((((k8.below HZ.out.1).below HZ.out.2.2).below HP.out.2).below HQ.out).to_below (fun q hq => hq.elim))
    clear hF hb
    obtain ⟨mq, hmq⟩ : ∃ mq, mq = min (max n 0) 2 := ⟨_, rfl⟩
    have hall := HALL.out
    rw [← hmq] at hall
    rcases hall with ⟨hq, e1, e2⟩ | ⟨hq, e1, e3, e2⟩ | ⟨hq, e1, e2⟩
    · subst e2
      rw [e1] at hs1
      go_wp2_with fail
      go_ret
      exact ⟨by simp, HZ9.out⟩
    · subst e2
      rw [e1] at hs1
      rw [e3] at hs4
      go_wp2_with fail
      go_ret
      exact ⟨by simp, HZ9.out⟩
    · subst e2
      rw [e1] at hs1
      go_wp2_with fail
      go_ret
      exact ⟨by simp, HZ9.out⟩
end Go.Proofs.Ytfbpplgpmgnmjaa.P

/- DiskTurns: the walk, as its row wants it. -/
namespace Go.Proofs.Ytfbpplgpmgnmjaa.P
open Go.RowKit Go.Proofs.YtfbpplgpmgnmjaaW.PrintWords Go.Proofs.YtfbpplgpmgnmjaaW.PrintLast Go.Proofs.YtfbpplgpmgnmjaaW.PrintMore
set_option linter.unusedVariables false
def thresherlaw08_DiskTurns.g (l0 l1 : List Int) (n : Int) (l2 : List Int) : Prop := True
theorem thresherlaw08_DiskTurns.calls (A0 : Option Addr) (c0 : Nat) (l0 : List Int) (A1 : Option Addr) (c1 : Nat) (l1 : List Int) (n : Int) (A2 : Option Addr) (c2 : Nat) (l2 : List Int) (r : Bool) (w : World) (hr0 : Kd.C (Kd.int .u8) w A0 l0.length l0) (hc0 : l0.length ≤ c0) (hr1 : Kd.C (Kd.int .u8) w A1 l1.length l1) (hc1 : l1.length ≤ c1) (hr2 : Kd.C (Kd.int .i64) w A2 l2.length l2) (hc2 : l2.length ≤ c2) (h : thresherlaw08_DiskTurns.g l0 l1 n l2) :
    Calls Try.prog 6 #[.slice A0 l0.length c0, .slice A1 l1.length c1, .agg #[.int .i64 n, .slice A2 l2.length c2]] w fun e w' => e = .returned (.bool true) ∧ Below w.heap.size w w' :=
  turns_go A0 c0 l0 A1 c1 l1 n A2 c2 l2 w hr0 hc0 hr1 hc1 hr2 hc2
end Go.Proofs.Ytfbpplgpmgnmjaa.P

-- Written by wip/tools/myprint.py: the plain statement of DiskTurns.
namespace Go.Proofs.Ytfbpplgpmgnmjaa.P
open Go.RowKit Go.Proofs.YtfbpplgpmgnmjaaW.PrintWords
def thresherlaw08_DiskTurns.PureG : Prop := ∀ (x0 : List Int) (x1 : List Int) (x2 : S46), (x0.length ≤ maxLen ∧ ∀ a ∈ x0, (Lit.int .u8 a).wf = true) → (x1.length ≤ maxLen ∧ ∀ a ∈ x1, (Lit.int .u8 a).wf = true) → gd46 x2 → thresherlaw08_DiskTurns.g x0 x1 x2.f0 x2.f1
end Go.Proofs.Ytfbpplgpmgnmjaa.P

/- DiskTurns: nothing is asked of the arguments. -/
namespace Go.Proofs.Ytfbpplgpmgnmjaa.Pure
open Go.RowKit Go.Proofs.Ytfbpplgpmgnmjaa.P Go.Proofs.YtfbpplgpmgnmjaaW.PrintWords
theorem DiskTurns : thresherlaw08_DiskTurns.PureG := fun _ _ _ _ _ _ => trivial
end Go.Proofs.Ytfbpplgpmgnmjaa.Pure

-- Written by wip/tools/myprint.py: the row of DiskTurns, out of its plain law and its walk.
namespace Go.Proofs.Ytfbpplgpmgnmjaa.diskTurns
open Go.ChangeShapes Go.WideShapes Go.ChangeAt Go.RowKit Go.Proofs.Ytfbpplgpmgnmjaa.P Go.Proofs.YtfbpplgpmgnmjaaW.PrintWords
set_option linter.unusedVariables false
set_option linter.unusedSimpArgs false
theorem own : ownKnob Try.prog.godebug = none := by kernel_rfl
theorem laidOut : laidOutB Try.prog = true := by kernel_rfl
set_option maxRecDepth 100000 in
theorem lifted (os : Os) (started : os.Started) (H : Type) (enc : TypeId × Value → H) :
    ReturnsInHanded {} Try.checked os 6 .any (Rows.diskTurnsSpec.pre6 enc Try.prog Try.f6 Rows.diskTurnsRow.domain false) (Rows.diskTurnsSpec.post enc Try.prog Try.f6 false true false false) := by
  refine returnsInHanded_of_change_sized (C := Try.checked) own started (by kernel_rfl) Try.func6
    (ChangeSpec.witness6 (enc := enc) (C := Try.checked) false ⟨#[], #[.slice none 0 0, .slice none 0 0, .agg #[.int .i64 0, .slice none 0 0]], []⟩ 8 (by kernel_rfl) (by kernel_rfl) (by kernel_rfl) (by kernel_rfl)) ?_
  intro W base args ds gs before hval0 hW hcnd hsz0 _
  have hval : ∀ (j : Nat) t v, Try.f6.params[j]? = some t → args[j]? = some v → Value.okWide Try.prog W .any base t v := hval0
  have hW' := hW
  obtain ⟨p, q, hA0, hV, rfl, hfz, hnd⟩ := hW
  have hA : DataW.TrodAll enc Try.prog W 0 (fun _ => true) true Try.f6.params.toList args.toList ds p := hA0
  rw [Try.params6] at hA hval
  obtain ⟨v0, vs0, d0, ds0, p0, q0, hargs, rfl, rfl, h0, r0⟩ := trodAll_cons hA
  obtain ⟨v1, vs1, d1, ds1, p1, q1, rfl, rfl, rfl, h1, r1⟩ := trodAll_cons r0
  obtain ⟨v2, vs2, d2, ds2, p2, q2, rfl, rfl, rfl, h2, r2⟩ := trodAll_cons r1
  obtain ⟨rfl, rfl, rfl⟩ := trodAll_nil r2
  obtain rfl : args = #[v0, v1, v2] := by cases args; simp_all
  obtain ⟨rfl, rfl⟩ := trodVars_none hV
  have lt0 : ∀ x ∈ p0, x.block < W.heap.size := by obtain ⟨m, hm⟩ := h0; exact DataW.trod_lt m _ _ _ hm
  obtain ⟨x0, K0, g0⟩ := ((opens_slice Try.underlying22 (by kernel_rfl) (opens_int Try.underlying5))).arg h0
  obtain ⟨a0, len0, cap0, rfl⟩ := okWide_slice Try.underlying22 (hval 0 22 v0 rfl rfl)
  obtain ⟨A0, c0, e0, hl0, hr0⟩ := K0
  simp [Value.cells] at e0
  obtain ⟨rfl, rfl, rfl⟩ := e0
  have lt1 : ∀ x ∈ p1, x.block < W.heap.size := by obtain ⟨m, hm⟩ := h1; exact DataW.trod_lt m _ _ _ hm
  obtain ⟨x1, K1, g1⟩ := ((opens_slice Try.underlying22 (by kernel_rfl) (opens_int Try.underlying5))).arg h1
  obtain ⟨a1, len1, cap1, rfl⟩ := okWide_slice Try.underlying22 (hval 1 22 v1 rfl rfl)
  obtain ⟨A1, c1, e1, hl1, hr1⟩ := K1
  simp [Value.cells] at e1
  obtain ⟨rfl, rfl, rfl⟩ := e1
  have lt2 : ∀ x ∈ p2, x.block < W.heap.size := by obtain ⟨m, hm⟩ := h2; exact DataW.trod_lt m _ _ _ hm
  obtain ⟨x2, K2, g2⟩ := (op46).arg h2
  obtain ⟨cs2, rfl⟩ := okWide_agg Try.underlying46 (hval 2 46 v2 rfl rfl)
  obtain ⟨A2_1, c2_1, e2, hl2_1, hr2_1⟩ := k46_open K2
  replace e2 := agg_of e2
  have hk := Pure.DiskTurns x0 x1 x2 g0 g1 g2
  have call : Calls Try.prog 6 #[.slice a0 x0.length cap0, .slice a1 x1.length cap1, .agg cs2] W fun e W' => e = .returned (.bool true) ∧ Below W.heap.size W W' := by
    rw [e2]
    refine (thresherlaw08_DiskTurns.calls _ _ _ _ _ _ _ _ _ _ true W hr0 hl0 hr1 hl1 hr2_1 hl2_1 hk).mono ?_
    rintro e w' ⟨rfl, hd⟩
    exact ⟨rfl, hd⟩
  refine call.mono fun e W' ⟨he, bel⟩ => ?_
  subst he
  exact ⟨_, rfl, _, _, _, [], _, [], hW', trodAll_mk1 (shut_bool Try.underlying4 _), (trodAll_cons_mk (Below.trod laidOut (by kernel_rfl) (of_decide_eq_true (by kernel_rfl)) h0 bel lt0) (trodAll_cons_mk (Below.trod laidOut (by kernel_rfl) (of_decide_eq_true (by kernel_rfl)) h1 bel lt1) (trodAll_cons_mk (Below.trod laidOut (by kernel_rfl) (of_decide_eq_true (by kernel_rfl)) h2 bel lt2) trodAll_mk0))), rfl, bel.frame _, fun h => by cases h⟩
theorem over : Rows.diskTurnsRow.holds Try.pinned (OpenSpec.ofChange Rows.diskTurnsSpec) :=
  OpenClaim.holds_of_wide 6 Try.f6 rfl rfl rfl rfl rfl rfl rfl ⟨rfl, rfl, rfl, rfl, rfl⟩ rfl rfl rfl rfl rfl (by kernel_rfl) Try.func6 (by kernel_rfl)
    (of_decide_eq_true (by kernel_rfl)) (by unfold Func.isWrapper; first | (rw [if_pos (by decide +kernel)]; kernel_rfl) | (rw [if_neg (by decide +kernel)]; exact ⟨rfl, rfl⟩))
    (fun os started H enc _ => lifted os started H enc)
theorem proved : Rows.DiskTurnsSaid := over
#print axioms proved
end Go.Proofs.Ytfbpplgpmgnmjaa.diskTurns
namespace Go.Proofs.Ytfbpplgpmgnmjaa
/-- The row, under a short name, for the claim. -/
theorem diskTurns_holds : Rows.DiskTurnsSaid := diskTurns.proved
end Go.Proofs.Ytfbpplgpmgnmjaa

