/- The row of DiskEnds. Merged: HLFailsP, HLEndsP, HLRoomP, HLShw, HLFails1, HLRoom, HLEnds, HLDiskEnds, SDiskEnds, PureDiskEnds, RDiskEnds. -/
import Derived.Test.YtfbpplgpmgnmjaaQDiskFailsHLShown
import Derived.Test.YtfbpplgpmgnmjaaQDiskFailsHDskZ
import Derived.Lib.SlBytesConst
import Derived.Test.YtfbpplgpmgnmjaaPx2
import Derived.Laws.MakeOwn
import Derived.Test.YtfbpplgpmgnmjaaO
import Derived.Test.YtfbpplgpmgnmjaaRows
import Derived.WalkKit
import Derived.ProofKit
import Derived.OpenShut
import Derived.ShutString
import Derived.ChangeOld
import Derived.Below
import Derived.SizedLaws
/- DiskFails: the states of the disk. -/
namespace Go.Proofs.Ytfbpplgpmgnmjaa.P
open Go.RowKit Go.Proofs.YtfbpplgpmgnmjaaW.PrintWords Go.Proofs.YtfbpplgpmgnmjaaW.PrintLast Go.Proofs.YtfbpplgpmgnmjaaW.PrintMore
set_option linter.unusedVariables false
set_option linter.unusedSimpArgs false
theorem append1_go {d : DS} {s : ByteArray} {b : List Int} {i : Nat} (he : ended d = false) (hf : fault d = false) (ht : tget d.names s = some (i : Int)) (hq : used d + (b.length : Int) ≤ d.quota) : append1 d s b = ({ one d with files := growF d.files i b }, 0) := by
  have hu : used (one d) = used d := rfl
  unfold append1
  rw [if_neg (by rw [he]; simp), if_neg (by rw [hf]; simp)]
  unfold grow1
  rw [show (one d).names = d.names from rfl, ht]
  simp only [Int.toNat_natCast]
  rw [if_neg (show ¬ (one d).quota < used (one d) + (b.length : Int) from by rw [hu]; show ¬ d.quota < _; omega), List.take_length]
  rfl
theorem append1_bad {d : DS} {s : ByteArray} {b : List Int} {i : Nat} (he : ended d = false) (hf : fault d = true) (ht : tget d.names s = some (i : Int)) (hq : used d + (b.length : Int) ≤ d.quota) : append1 d s b = ({ one d with files := growF d.files i (b.take (b.length / 2)) }, 33) := by
  have hu : used (one d) = used d := rfl
  unfold append1
  rw [if_neg (by rw [he]; simp), if_pos hf]
  unfold grow1
  rw [show (one d).names = d.names from rfl, ht]
  simp only [Int.toNat_natCast]
  rw [if_neg (show ¬ (one d).quota < used (one d) + (b.length : Int) from by rw [hu]; show ¬ d.quota < _; omega)]
  rfl
theorem append1_full {d : DS} {s : ByteArray} {b : List Int} {i : Nat} (he : ended d = false) (hf : fault d = false) (ht : tget d.names s = some (i : Int)) (hq : d.quota < used d + (b.length : Int)) : append1 d s b = (one d, 32) := by
  have hu : used (one d) = used d := rfl
  unfold append1
  rw [if_neg (by rw [he]; simp), if_neg (by rw [hf]; simp)]
  unfold grow1
  rw [show (one d).names = d.names from rfl, ht]
  simp only
  rw [if_pos (show (one d).quota < used (one d) + (b.length : Int) from by rw [hu]; exact hq)]
def nf : ByteArray := ⟨#[102]⟩
def kf (n : Int) : List Int := [n, 9, n]
def c0f : DC := (noName, nf, 0)
-- which step fails: the first
def f10 : DS := ⟨1000, 0, [], [], [], [], kf 1, -1, false⟩
def f11 : DS := ⟨1000, 1, [], [], [], [], kf 1, -1, false⟩
def f12 : DS := ⟨1000, 2, [], [], [], [], kf 1, -1, false⟩
def f13 : DS := ⟨1000, 3, [], [], [], [], kf 1, -1, false⟩
def f14 : DS := ⟨1000, 4, [], [], [], [], kf 1, -1, false⟩
def fX0 : DS := ⟨1000, 0, [], [], [], [], [], -1, false⟩
theorem f10_eq : ({ DS.new 1000 with fails := kf 1 } : DS) = f10 := by kernel_rfl
theorem f11_eq : stepF f10 (create1 · nf) = (f11, 33) := by kernel_rfl
theorem f12_eq (b : List Int) : append1 f11 nf b = (f12, 30) := by kernel_rfl
theorem f13_eq : stepF f12 (sync1 · nf) = (f13, 30) := by kernel_rfl
theorem f14_eq : stepF f13 syncdir1 = (f14, 0) := by kernel_rfl
theorem f1X_eq : crash f14 0 [] = fX0 := by
  have h : leftNames f14 (leftN f14 0) = [] := by kernel_rfl
  rw [crash_of h, crashFiles_nil, crashNames_nil]
  rfl
theorem f1r_eq : read1 f14 nf = ([], 30) := by kernel_rfl
theorem f1x_eq : read1 fX0 nf = ([], 30) := by kernel_rfl
-- the second
def f20 : DS := ⟨1000, 0, [], [], [], [], kf 2, -1, false⟩
def f21 : DS := ⟨1000, 1, [([], 0)], [(nf, 0)], [], [c0f], kf 2, -1, false⟩
def f22 (b : List Int) : DS := ⟨1000, 2, [(b, 0)], [(nf, 0)], [], [c0f], kf 2, -1, false⟩
def f23 (b : List Int) : DS := ⟨1000, 3, [(b, b.length)], [(nf, 0)], [], [c0f], kf 2, -1, false⟩
def f24 (b : List Int) : DS := ⟨1000, 4, [(b, b.length)], [(nf, 0)], [(nf, 0)], [], kf 2, -1, false⟩
def fX1 (b : List Int) : DS := ⟨1000, 0, [(b, b.length)], [(nf, 0)], [(nf, 0)], [], [], -1, false⟩
theorem f20_eq : ({ DS.new 1000 with fails := kf 2 } : DS) = f20 := by kernel_rfl
theorem f21_eq : stepF f20 (create1 · nf) = (f21, 0) := by kernel_rfl
theorem f22_eq (b : List Int) (hb : b.length ≤ 100) : append1 f21 nf b = (f22 (b.take (b.length / 2)), 33) := append1_bad (i := 0) (by kernel_rfl) (by kernel_rfl) (by kernel_rfl) (by rw [show used f21 = 0 by kernel_rfl]; show 0 + (b.length : Int) ≤ 1000; omega)
theorem f23_eq (b : List Int) : stepF (f22 b) (sync1 · nf) = (f23 b, 0) := by kernel_rfl
theorem f24_eq (b : List Int) : stepF (f23 b) syncdir1 = (f24 b, 0) := by kernel_rfl
theorem take_all (b : List Int) : crashFile (b, (b.length : Int)) [] 0 = (b, (b.length : Int)) := by simp [crashFile, crashEnd]
theorem f2X_eq (b : List Int) : crash (f24 b) 0 [] = fX1 b := by
  have h : leftNames (f24 b) (leftN (f24 b) 0) = [(nf, 0)] := by kernel_rfl
  rw [crash_of h, crashFiles_one, crashNames_one]
  show (⟨1000, 0, [crashFile (b, (b.length : Int)) [] 0], _, _, _, _, _, _⟩ : DS) = _
  rw [take_all]
  rfl
theorem f2r_eq (b : List Int) : read1 (f24 b) nf = (b, 0) := by kernel_rfl
theorem f2x_eq (b : List Int) : read1 (fX1 b) nf = (b, 0) := by kernel_rfl
-- the third
def f30 : DS := ⟨1000, 0, [], [], [], [], kf 3, -1, false⟩
def f31 : DS := ⟨1000, 1, [([], 0)], [(nf, 0)], [], [c0f], kf 3, -1, false⟩
def f32 (b : List Int) : DS := ⟨1000, 2, [(b, 0)], [(nf, 0)], [], [c0f], kf 3, -1, false⟩
def f33 (b : List Int) : DS := ⟨1000, 3, [(b, 0)], [(nf, 0)], [], [c0f], kf 3, -1, false⟩
def f34 (b : List Int) : DS := ⟨1000, 4, [(b, 0)], [(nf, 0)], [(nf, 0)], [], kf 3, -1, false⟩
def fX2 : DS := ⟨1000, 0, [([], 0)], [(nf, 0)], [(nf, 0)], [], [], -1, false⟩
theorem f30_eq : ({ DS.new 1000 with fails := kf 3 } : DS) = f30 := by kernel_rfl
theorem f31_eq : stepF f30 (create1 · nf) = (f31, 0) := by kernel_rfl
theorem f32_eq (b : List Int) (hb : b.length ≤ 100) : append1 f31 nf b = (f32 b, 0) := append1_go (i := 0) (by kernel_rfl) (by kernel_rfl) (by kernel_rfl) (by rw [show used f31 = 0 by kernel_rfl]; show 0 + (b.length : Int) ≤ 1000; omega)
theorem f33_eq (b : List Int) : stepF (f32 b) (sync1 · nf) = (f33 b, 33) := by kernel_rfl
theorem f34_eq (b : List Int) : stepF (f33 b) syncdir1 = (f34 b, 0) := by kernel_rfl
theorem f3X_eq (b : List Int) : crash (f34 b) 0 [] = fX2 := by
  have h : leftNames (f34 b) (leftN (f34 b) 0) = [(nf, 0)] := by kernel_rfl
  rw [crash_of h, crashFiles_one, crashNames_one]
  show (⟨1000, 0, [crashFile (b, 0) [] 0], _, _, _, _, _, _⟩ : DS) = _
  rw [show crashFile (b, 0) [] 0 = ([], 0) by simp [crashFile, crashEnd]]
  rfl
theorem f3r_eq (b : List Int) : read1 (f34 b) nf = (b, 0) := by kernel_rfl
theorem f3x_eq : read1 fX2 nf = ([], 0) := by kernel_rfl
-- the fourth
def f40 : DS := ⟨1000, 0, [], [], [], [], kf 4, -1, false⟩
def f41 : DS := ⟨1000, 1, [([], 0)], [(nf, 0)], [], [c0f], kf 4, -1, false⟩
def f42 (b : List Int) : DS := ⟨1000, 2, [(b, 0)], [(nf, 0)], [], [c0f], kf 4, -1, false⟩
def f43 (b : List Int) : DS := ⟨1000, 3, [(b, b.length)], [(nf, 0)], [], [c0f], kf 4, -1, false⟩
def f44 (b : List Int) : DS := ⟨1000, 4, [(b, b.length)], [(nf, 0)], [], [c0f], kf 4, -1, false⟩
theorem f40_eq : ({ DS.new 1000 with fails := kf 4 } : DS) = f40 := by kernel_rfl
theorem f41_eq : stepF f40 (create1 · nf) = (f41, 0) := by kernel_rfl
theorem f42_eq (b : List Int) (hb : b.length ≤ 100) : append1 f41 nf b = (f42 b, 0) := append1_go (i := 0) (by kernel_rfl) (by kernel_rfl) (by kernel_rfl) (by rw [show used f41 = 0 by kernel_rfl]; show 0 + (b.length : Int) ≤ 1000; omega)
theorem f43_eq (b : List Int) : stepF (f42 b) (sync1 · nf) = (f43 b, 0) := by kernel_rfl
theorem f44_eq (b : List Int) : stepF (f43 b) syncdir1 = (f44 b, 33) := by kernel_rfl
theorem f4X_eq (b : List Int) : crash (f44 b) 0 [] = fX0 := by
  have h : leftNames (f44 b) (leftN (f44 b) 0) = [] := by kernel_rfl
  rw [crash_of h, crashFiles_nil, crashNames_nil]
  rfl
theorem f4r_eq (b : List Int) : read1 (f44 b) nf = (b, 0) := by kernel_rfl
end Go.Proofs.Ytfbpplgpmgnmjaa.P

/- DiskEnds: the states of the disk. -/
namespace Go.Proofs.Ytfbpplgpmgnmjaa.P
open Go.RowKit Go.Proofs.YtfbpplgpmgnmjaaW.PrintWords Go.Proofs.YtfbpplgpmgnmjaaW.PrintLast Go.Proofs.YtfbpplgpmgnmjaaW.PrintMore
set_option linter.unusedVariables false
set_option linter.unusedSimpArgs false
def fa : ByteArray := ⟨#[102, 97]⟩
def fd : ByteArray := ⟨#[102, 100]⟩
def fg : ByteArray := ⟨#[102, 103]⟩
def fj : ByteArray := ⟨#[102, 106]⟩
/-- Behind j steps (10 at most), with a limit. -/
def eS (j : Nat) (K : Int) (b : List Int) : DS := match j with
  | 0 => ⟨10000, 0, [], [], [], [], [], K, false⟩
  | 1 => ⟨10000, 1, [([], 0)], [(fa, 0)], [], [(noName, fa, 0)], [], K, false⟩
  | 2 => ⟨10000, 2, [(b, 0)], [(fa, 0)], [], [(noName, fa, 0)], [], K, false⟩
  | 3 => ⟨10000, 3, [(b, 0)], [(fa, 0)], [(fa, 0)], [], [], K, false⟩
  | 4 => ⟨10000, 4, [(b, 0), ([], 0)], [(fa, 0), (fd, 1)], [(fa, 0)], [(noName, fd, 1)], [], K, false⟩
  | 5 => ⟨10000, 5, [(b, 0), (b, 0)], [(fa, 0), (fd, 1)], [(fa, 0)], [(noName, fd, 1)], [], K, false⟩
  | 6 => ⟨10000, 6, [(b, 0), (b, 0)], [(fa, 0), (fd, 1)], [(fa, 0), (fd, 1)], [], [], K, false⟩
  | 7 => ⟨10000, 7, [(b, 0), (b, 0), ([], 0)], [(fa, 0), (fd, 1), (fg, 2)], [(fa, 0), (fd, 1)], [(noName, fg, 2)], [], K, false⟩
  | 8 => ⟨10000, 8, [(b, 0), (b, 0), (b, 0)], [(fa, 0), (fd, 1), (fg, 2)], [(fa, 0), (fd, 1)], [(noName, fg, 2)], [], K, false⟩
  | 9 => ⟨10000, 9, [(b, 0), (b, 0), (b, 0)], [(fa, 0), (fd, 1), (fg, 2)], [(fa, 0), (fd, 1), (fg, 2)], [], [], K, false⟩
  | _ => ⟨10000, 10, [(b, 0), (b, 0), (b, 0), ([], 0)], [(fa, 0), (fd, 1), (fg, 2), (fj, 3)], [(fa, 0), (fd, 1), (fg, 2)], [(noName, fj, 3)], [], K, false⟩
theorem stepF_of {d : DS} {f : DS → DS × Int} {r : DS × Int} (he : ended d = false) (hf : fault d = false) (h : f (one d) = r) : stepF d f = r := by
  unfold stepF
  rw [if_neg (by rw [he]; simp), if_neg (by rw [hf]; simp)]
  exact h
theorem stepF_end {d : DS} {f : DS → DS × Int} (he : ended d = true) : stepF d f = ({ d with dead := true }, 34) := by
  unfold stepF
  rw [if_pos he]
theorem append1_end {d : DS} {s : ByteArray} {b : List Int} (he : ended d = true) : append1 d s b = ({ d with dead := true }, 34) := by
  unfold append1
  rw [if_pos he]
theorem run_on {K : Int} {n : Nat} (h : (n : Int) < K) : (false || (decide (0 ≤ K) && decide (K ≤ (n : Int)))) = false := by
  rw [decide_eq_false (show ¬ K ≤ (n : Int) by omega)]
  simp
theorem es0 {K : Int} (b : List Int) (h : (0 : Int) < K) : stepF (eS 0 K b) (create1 · fa) = (eS 1 K b, 0) := stepF_of (run_on (n := 0) h) (by kernel_rfl) (by kernel_rfl)
theorem eu1 (K : Int) (b : List Int) : used (eS 1 K b) = (0 + 0) := by kernel_rfl
theorem es1 {K : Int} (b : List Int) (hb : b.length ≤ 100) (h : (1 : Int) < K) : append1 (eS 1 K b) fa b = (eS 2 K b, 0) := append1_go (i := 0) (run_on (n := 1) h) (by kernel_rfl) (by kernel_rfl) (by rw [eu1]; show _ ≤ (10000 : Int); omega)
theorem es2 {K : Int} (b : List Int) (h : (2 : Int) < K) : stepF (eS 2 K b) syncdir1 = (eS 3 K b, 0) := stepF_of (run_on (n := 2) h) (by kernel_rfl) (by kernel_rfl)
theorem es3 {K : Int} (b : List Int) (h : (3 : Int) < K) : stepF (eS 3 K b) (create1 · fd) = (eS 4 K b, 0) := stepF_of (run_on (n := 3) h) (by kernel_rfl) (by kernel_rfl)
theorem eu4 (K : Int) (b : List Int) : used (eS 4 K b) = ((b.length : Int) + (0 + 0)) := by kernel_rfl
theorem es4 {K : Int} (b : List Int) (hb : b.length ≤ 100) (h : (4 : Int) < K) : append1 (eS 4 K b) fd b = (eS 5 K b, 0) := append1_go (i := 1) (run_on (n := 4) h) (by kernel_rfl) (by kernel_rfl) (by rw [eu4]; show _ ≤ (10000 : Int); omega)
theorem es5 {K : Int} (b : List Int) (h : (5 : Int) < K) : stepF (eS 5 K b) syncdir1 = (eS 6 K b, 0) := stepF_of (run_on (n := 5) h) (by kernel_rfl) (by kernel_rfl)
theorem es6 {K : Int} (b : List Int) (h : (6 : Int) < K) : stepF (eS 6 K b) (create1 · fg) = (eS 7 K b, 0) := stepF_of (run_on (n := 6) h) (by kernel_rfl) (by kernel_rfl)
theorem eu7 (K : Int) (b : List Int) : used (eS 7 K b) = ((b.length : Int) + ((b.length : Int) + (0 + 0))) := by kernel_rfl
theorem es7 {K : Int} (b : List Int) (hb : b.length ≤ 100) (h : (7 : Int) < K) : append1 (eS 7 K b) fg b = (eS 8 K b, 0) := append1_go (i := 2) (run_on (n := 7) h) (by kernel_rfl) (by kernel_rfl) (by rw [eu7]; show _ ≤ (10000 : Int); omega)
theorem es8 {K : Int} (b : List Int) (h : (8 : Int) < K) : stepF (eS 8 K b) syncdir1 = (eS 9 K b, 0) := stepF_of (run_on (n := 8) h) (by kernel_rfl) (by kernel_rfl)
theorem es9 {K : Int} (b : List Int) (h : (9 : Int) < K) : stepF (eS 9 K b) (create1 · fj) = (eS 10 K b, 0) := stepF_of (run_on (n := 9) h) (by kernel_rfl) (by kernel_rfl)
theorem eS_quota (j : Nat) (K : Int) (b : List Int) : (eS j K b).quota = 10000 := by unfold eS; split <;> rfl
theorem eS_limit (j : Nat) (K : Int) (b : List Int) : (eS j K b).limit = K := by unfold eS; split <;> rfl
theorem eS_steps (j : Nat) (hj : j ≤ 10) (K : Int) (b : List Int) : (eS j K b).steps = j := by
  have h : j = 0 ∨ j = 1 ∨ j = 2 ∨ j = 3 ∨ j = 4 ∨ j = 5 ∨ j = 6 ∨ j = 7 ∨ j = 8 ∨ j = 9 ∨ j = 10 := by omega
  rcases h with h | h | h | h | h | h | h | h | h | h | h <;> subst h <;> rfl
/-- Behind i rounds, with a limit of k. -/
def eT (k : Nat) (b : List Int) (i : Nat) : DS := if i ≤ k then eS i (k : Int) b else { eS k (k : Int) b with dead := true }
theorem eT_le {k i : Nat} (b : List Int) (h : i ≤ k) : eT k b i = eS i (k : Int) b := by unfold eT; rw [if_pos h]
theorem eT_ended {k i : Nat} (b : List Int) (hk : k ≤ 10) (h : k ≤ i) : ended (eT k b i) = true := by
  unfold eT
  split
  · have : i = k := by omega
    subst this
    unfold ended
    rw [eS_limit, eS_steps i hk]
    simp
  · rfl
theorem eT_dead {k i : Nat} (b : List Int) (h : k ≤ i) : ({ eT k b i with dead := true } : DS) = eT k b (i + 1) := by
  unfold eT
  rw [if_neg (show ¬ i + 1 ≤ k by omega)]
  split
  · have : i = k := by omega
    subst this
    rfl
  · rfl
/-- At the end: a new limit. -/
def eZ (k : Nat) (b : List Int) : DS := { eS k (k : Int) b with dead := true, limit := 100 }
theorem eZ_eq {k : Nat} (b : List Int) (hk : k ≤ 10) : ({ eT k b 12 with limit := 100 } : DS) = eZ k b := by
  unfold eT eZ
  rw [if_neg (by omega)]
theorem eZ_sync (k : Nat) (b : List Int) : stepF (eZ k b) syncdir1 = (eZ k b, 34) := by
  rw [stepF_end (show ended (eZ k b) = true by kernel_rfl)]
  rfl
theorem eZ_read (k : Nat) (b : List Int) : read1 (eZ k b) fa = ([], 34) := by unfold read1; rw [if_pos (show (eZ k b).dead = true from rfl)]
theorem eZ_left {k : Nat} (b : List Int) (hk : k ≤ 10) : leftNames (eZ k b) (leftN (eZ k b) 9) = (eZ k b).names ∧ (eZ k b).names.length = (k + 2) / 3 := by
  have h : k = 0 ∨ k = 1 ∨ k = 2 ∨ k = 3 ∨ k = 4 ∨ k = 5 ∨ k = 6 ∨ k = 7 ∨ k = 8 ∨ k = 9 ∨ k = 10 := by omega
  rcases h with h | h | h | h | h | h | h | h | h | h | h <;> subst h <;> exact ⟨by kernel_rfl, by kernel_rfl⟩
theorem namesOf_length (es : List NE) : (namesOf es).length = es.length := by unfold namesOf sortN; simp
theorem crashNames_length (es : List NE) : (crashNames es).length = es.length := by unfold crashNames; rw [List.length_mapIdx, namesOf_length]
theorem crash_live (d : DS) (n : Int) (t : List Int) : ∃ d', stepF (crash d n t) syncdir1 = (d', 0) := ⟨_, stepF_of (by kernel_rfl) (by kernel_rfl) rfl⟩
theorem crashFile_len (f : DF) (t : List Int) (i : Nat) : (crashFile f t i).1.length ≤ f.1.length := by unfold crashFile; simp only [List.length_take]; omega
theorem ns_0 : namesOf [] = [] := namesOf_nil
theorem ns_1 : namesOf [(fa, 0)] = [fa] := namesOf_one _
theorem ns_2 : namesOf [(fa, 0), (fd, 1)] = [fa, fd] := by
  unfold namesOf sortN
  apply List.mergeSort_of_pairwise
  simp only [List.map_cons, List.map_nil]
  refine (List.Pairwise.cons ?_ (List.Pairwise.cons ?_ List.Pairwise.nil))
  all_goals (intro y hy; simp only [List.mem_cons, List.not_mem_nil, or_false] at hy)
  all_goals first | exact hy.elim | ((repeat' rcases hy with hy | hy) <;> kernel_rfl)
theorem ns_3 : namesOf [(fa, 0), (fd, 1), (fg, 2)] = [fa, fd, fg] := by
  unfold namesOf sortN
  apply List.mergeSort_of_pairwise
  simp only [List.map_cons, List.map_nil]
  refine (List.Pairwise.cons ?_ (List.Pairwise.cons ?_ (List.Pairwise.cons ?_ List.Pairwise.nil)))
  all_goals (intro y hy; simp only [List.mem_cons, List.not_mem_nil, or_false] at hy)
  all_goals first | exact hy.elim | ((repeat' rcases hy with hy | hy) <;> kernel_rfl)
theorem ns_4 : namesOf [(fa, 0), (fd, 1), (fg, 2), (fj, 3)] = [fa, fd, fg, fj] := by
  unfold namesOf sortN
  apply List.mergeSort_of_pairwise
  simp only [List.map_cons, List.map_nil]
  refine (List.Pairwise.cons ?_ (List.Pairwise.cons ?_ (List.Pairwise.cons ?_ (List.Pairwise.cons ?_ List.Pairwise.nil))))
  all_goals (intro y hy; simp only [List.mem_cons, List.not_mem_nil, or_false] at hy)
  all_goals first | exact hy.elim | ((repeat' rcases hy with hy | hy) <;> kernel_rfl)
theorem uo_0 : usedOf [] ([] : List NE) = 0 := by kernel_rfl
theorem uc_0 (t : List Int) : usedOf (crashFiles [] [] t) (crashNames []) ≤ usedOf [] [] := by
  have hA : crashFiles [] [] t = [] := by unfold crashFiles; rw [ns_0]; kernel_rfl
  have hB : crashNames [] = [] := by unfold crashNames; rw [ns_0]; rfl
  rw [hA, hB]
  exact Int.le_refl _
theorem uo_1 (f0 : DF) : usedOf [f0] ([(fa, 0)] : List NE) = ((f0.1.length : Int) + 0) := by kernel_rfl
theorem uc_1 (f0 : DF) (t : List Int) : usedOf (crashFiles [f0] [(fa, 0)] t) (crashNames [(fa, 0)]) ≤ usedOf [f0] [(fa, 0)] := by
  have hA : crashFiles [f0] [(fa, 0)] t = [(crashFile f0 t 0)] := by unfold crashFiles; rw [ns_1]; kernel_rfl
  have hB : crashNames [(fa, 0)] = [(fa, 0)] := by unfold crashNames; rw [ns_1]; rfl
  rw [hA, hB, uo_1, uo_1]
  have := crashFile_len f0 t 0
  omega
theorem uo_2 (f0 f1 : DF) : usedOf [f0, f1] ([(fa, 0), (fd, 1)] : List NE) = ((f0.1.length : Int) + ((f1.1.length : Int) + 0)) := by kernel_rfl
theorem uc_2 (f0 f1 : DF) (t : List Int) : usedOf (crashFiles [f0, f1] [(fa, 0), (fd, 1)] t) (crashNames [(fa, 0), (fd, 1)]) ≤ usedOf [f0, f1] [(fa, 0), (fd, 1)] := by
  have hA : crashFiles [f0, f1] [(fa, 0), (fd, 1)] t = [(crashFile f0 t 0), (crashFile f1 t 1)] := by unfold crashFiles; rw [ns_2]; kernel_rfl
  have hB : crashNames [(fa, 0), (fd, 1)] = [(fa, 0), (fd, 1)] := by unfold crashNames; rw [ns_2]; rfl
  rw [hA, hB, uo_2, uo_2]
  have := crashFile_len f0 t 0
  have := crashFile_len f1 t 1
  omega
theorem uo_3 (f0 f1 f2 : DF) : usedOf [f0, f1, f2] ([(fa, 0), (fd, 1), (fg, 2)] : List NE) = ((f0.1.length : Int) + ((f1.1.length : Int) + ((f2.1.length : Int) + 0))) := by kernel_rfl
theorem uc_3 (f0 f1 f2 : DF) (t : List Int) : usedOf (crashFiles [f0, f1, f2] [(fa, 0), (fd, 1), (fg, 2)] t) (crashNames [(fa, 0), (fd, 1), (fg, 2)]) ≤ usedOf [f0, f1, f2] [(fa, 0), (fd, 1), (fg, 2)] := by
  have hA : crashFiles [f0, f1, f2] [(fa, 0), (fd, 1), (fg, 2)] t = [(crashFile f0 t 0), (crashFile f1 t 1), (crashFile f2 t 2)] := by unfold crashFiles; rw [ns_3]; kernel_rfl
  have hB : crashNames [(fa, 0), (fd, 1), (fg, 2)] = [(fa, 0), (fd, 1), (fg, 2)] := by unfold crashNames; rw [ns_3]; rfl
  rw [hA, hB, uo_3, uo_3]
  have := crashFile_len f0 t 0
  have := crashFile_len f1 t 1
  have := crashFile_len f2 t 2
  omega
theorem uo_4 (f0 f1 f2 f3 : DF) : usedOf [f0, f1, f2, f3] ([(fa, 0), (fd, 1), (fg, 2), (fj, 3)] : List NE) = ((f0.1.length : Int) + ((f1.1.length : Int) + ((f2.1.length : Int) + ((f3.1.length : Int) + 0)))) := by kernel_rfl
theorem uc_4 (f0 f1 f2 f3 : DF) (t : List Int) : usedOf (crashFiles [f0, f1, f2, f3] [(fa, 0), (fd, 1), (fg, 2), (fj, 3)] t) (crashNames [(fa, 0), (fd, 1), (fg, 2), (fj, 3)]) ≤ usedOf [f0, f1, f2, f3] [(fa, 0), (fd, 1), (fg, 2), (fj, 3)] := by
  have hA : crashFiles [f0, f1, f2, f3] [(fa, 0), (fd, 1), (fg, 2), (fj, 3)] t = [(crashFile f0 t 0), (crashFile f1 t 1), (crashFile f2 t 2), (crashFile f3 t 3)] := by unfold crashFiles; rw [ns_4]; kernel_rfl
  have hB : crashNames [(fa, 0), (fd, 1), (fg, 2), (fj, 3)] = [(fa, 0), (fd, 1), (fg, 2), (fj, 3)] := by unfold crashNames; rw [ns_4]; rfl
  rw [hA, hB, uo_4, uo_4]
  have := crashFile_len f0 t 0
  have := crashFile_len f1 t 1
  have := crashFile_len f2 t 2
  have := crashFile_len f3 t 3
  omega
theorem eZ_used {k : Nat} (b t : List Int) (hk : k ≤ 10) : used (crash (eZ k b) 9 t) ≤ used (eZ k b) := by
  rw [crash_of (eZ_left b hk).1]
  have h : k = 0 ∨ k = 1 ∨ k = 2 ∨ k = 3 ∨ k = 4 ∨ k = 5 ∨ k = 6 ∨ k = 7 ∨ k = 8 ∨ k = 9 ∨ k = 10 := by omega
  rcases h with h | h | h | h | h | h | h | h | h | h | h
  · subst h; exact uc_0 t
  · subst h; exact uc_1 ([], 0) t
  · subst h; exact uc_1 (b, 0) t
  · subst h; exact uc_1 (b, 0) t
  · subst h; exact uc_2 (b, 0) ([], 0) t
  · subst h; exact uc_2 (b, 0) (b, 0) t
  · subst h; exact uc_2 (b, 0) (b, 0) t
  · subst h; exact uc_3 (b, 0) (b, 0) ([], 0) t
  · subst h; exact uc_3 (b, 0) (b, 0) (b, 0) t
  · subst h; exact uc_3 (b, 0) (b, 0) (b, 0) t
  · subst h; exact uc_4 (b, 0) (b, 0) (b, 0) ([], 0) t
theorem eZ_names {k : Nat} (b t : List Int) (hk : k ≤ 10) : (namesOf (crash (eZ k b) 9 t).names).length = (k + 2) / 3 := by
  rw [namesOf_length, crash_of (eZ_left b hk).1]
  show (crashNames (eZ k b).names).length = _
  rw [crashNames_length, (eZ_left b hk).2]
end Go.Proofs.Ytfbpplgpmgnmjaa.P

/- DiskRoom: the states of the disk. -/
namespace Go.Proofs.Ytfbpplgpmgnmjaa.P
open Go.RowKit Go.Proofs.YtfbpplgpmgnmjaaW.PrintWords Go.Proofs.YtfbpplgpmgnmjaaW.PrintLast Go.Proofs.YtfbpplgpmgnmjaaW.PrintMore
set_option linter.unusedVariables false
set_option linter.unusedSimpArgs false
def nb : ByteArray := ⟨#[98]⟩
def ca : DC := (noName, na, 0)
def cb : DC := (noName, nb, 1)
def cx : DC := (na, noName, 0)
def r1 (q : Int) : DS := ⟨q, 1, [([], 0)], [(na, 0)], [], [ca], [], -1, false⟩
def rN (q s : Int) (own : List Int) : DS := ⟨q, s, [(own, 0), ([], 0)], [(na, 0), (nb, 1)], [], [ca, cb], [], -1, false⟩
def rE (q s : Int) (own : List Int) : DS := ⟨q, s, [(own, 0), ([], 0)], [(nb, 1)], [], [ca, cb, cx], [], -1, false⟩
def rF (q s : Int) (own z : List Int) : DS := ⟨q, s, [(own, 0), (z, 0)], [(nb, 1)], [], [ca, cb, cx], [], -1, false⟩
theorem new_of {q : Int} (h : 0 ≤ q) : DS.new q = ⟨q, 0, [], [], [], [], [], -1, false⟩ := by unfold DS.new; rw [Int.max_eq_left h]
theorem r1_eq {q : Int} (h : 0 ≤ q) : stepF (DS.new q) (create1 · na) = (r1 q, 0) := by rw [new_of h]; kernel_rfl
theorem r2_eq (q : Int) : stepF (r1 q) (create1 · nb) = (rN q 2 [], 0) := by kernel_rfl
theorem rN_used (q s : Int) (own : List Int) : used (rN q s own) = own.length := by
  have : used (rN q s own) = (own.length : Int) + (0 + 0) := by kernel_rfl
  omega
theorem rN_go (q s : Int) (own b : List Int) (h : (own.length : Int) + b.length ≤ q) : append1 (rN q s own) na b = (rN q (s + 1) (own ++ b), 0) := append1_go (i := 0) (by kernel_rfl) (by kernel_rfl) (by kernel_rfl) (by rw [rN_used]; exact h)
theorem rN_full (q s : Int) (own b : List Int) (h : ¬ (own.length : Int) + b.length ≤ q) : append1 (rN q s own) na b = (rN q (s + 1) own, 32) := append1_full (i := 0) (by kernel_rfl) (by kernel_rfl) (by kernel_rfl) (by rw [rN_used]; show q < _; omega)
theorem rN_read (q s : Int) (own : List Int) : read1 (rN q s own) na = (own, 0) := by kernel_rfl
theorem rE_eq (q s : Int) (own : List Int) : stepF (rN q s own) (remove1 · na) = (rE q (s + 1) own, 0) := by kernel_rfl
theorem rE_used (q s : Int) (own : List Int) : used (rE q s own) = 0 := by kernel_rfl
theorem rF_eq (q s : Int) (own z : List Int) (h : (z.length : Int) ≤ q) : append1 (rE q s own) nb z = (rF q (s + 1) own z, 0) := append1_go (i := 1) (by kernel_rfl) (by kernel_rfl) (by kernel_rfl) (by rw [rE_used]; show 0 + (z.length : Int) ≤ q; omega)
theorem rF_used (q s : Int) (own z : List Int) : used (rF q s own z) = z.length := by
  have : used (rF q s own z) = (z.length : Int) + 0 := by kernel_rfl
  omega
theorem rF_full (q s : Int) (own z : List Int) (h : (z.length : Int) = q) : append1 (rF q s own z) nb [1] = (rF q (s + 1) own z, 32) := append1_full (i := 1) (by kernel_rfl) (by kernel_rfl) (by kernel_rfl) (by rw [rF_used]; show q < (z.length : Int) + 1; omega)
theorem strOfNums_append (a b : List Int) : strOfNums a ++ strOfNums b = strOfNums (a ++ b) := by
  apply ByteArray.ext
  rw [ByteArray.data_append]
  simp [strOfNums]
end Go.Proofs.Ytfbpplgpmgnmjaa.P

/- shown: the walk. -/
namespace Go.Proofs.Ytfbpplgpmgnmjaa.P
open Go.RowKit Go.Proofs.YtfbpplgpmgnmjaaW.PrintWords Go.Proofs.YtfbpplgpmgnmjaaW.PrintLast Go.Proofs.YtfbpplgpmgnmjaaW.PrintMore
set_option linter.unusedVariables false
set_option linter.unusedSimpArgs false
theorem reps_bytes (W : World) : ∀ l : List Int, Reps ((Kd.int .u8).K W) 1 l (l.map (Value.int .u8))
  | [] => Reps.none _ _
  | x :: l => Reps.one rfl (reps_bytes W l)
/-- Bytes in a block, however it is marked. -/
theorem row_C {α : Type} {d : Kd α} {w : World} {g : Nat} {cs : Array Value} {l : List Value} {t : Nat} {fr : Nat × Nat} {xs : List α} (h : w.heap[g]? = some (.cells cs t fr)) (hr : Reps (d.K w) d.sz xs l) (hl : cs.toList = l) (hn : xs.length ≤ 9223372036854775807) : Kd.C d w (some ⟨g, 0, none⟩) xs.length xs := by
  subst hl
  refine ⟨rfl, hn, fun _ => ⟨_, rfl, fun j p hj => ⟨(cs.toList.drop (j * d.sz)).take d.sz, ?_, hr.2 j p hj, fun i u hu => ?_⟩⟩⟩
  · have hjl := (List.getElem?_eq_some_iff.1 hj).1
    have h1 : j * d.sz + d.sz ≤ cs.toList.length := by rw [hr.1, ← Nat.succ_mul]; exact Nat.mul_le_mul_right _ hjl
    rw [List.length_take, List.length_drop]
    omega
  · rw [List.getElem?_take] at hu
    split at hu
    · rw [List.getElem?_drop] at hu
      rw [add_plain, cell_of_row w g _ cs t fr h]
      simpa using hu
    · cases hu
theorem bytes_F {W : World} {g : Nat} {cs : Array Value} {fr : Nat × Nat} {l : List Int} (h : W.heap[g]? = some (.cells cs 5 fr)) (hcs : cs.toList = l.map (Value.int .u8)) (hl : l.length ≤ 1000000) : Kd.F (Kd.int .u8) W (fun q => q = g) (some ⟨g, 0, none⟩) l.length l :=
  fun W' hW => row_C ((hW g rfl (Array.getElem?_eq_some_iff.1 h).1).trans h) (reps_bytes W' l) hcs (by omega)
theorem str_of {w : World} {A : Option Addr} {n c : Nat} {xs : List Int} (h : Kd.C (Kd.int .u8) w A n xs) : (convert 22 9 (.slice A n c)).run Try.prog w = .ok (.string (strOfNums xs)) w :=
  Kd.C_string Try.underlying22 Try.underlying5 Try.underlying9 h
theorem ptr_nil (W : World) (a : Option Addr) : (binOp .eql 24 (.pointer a) (.pointer none)).run Try.prog W = .ok (.bool a.isNone) W := by
  cases a <;> kernel_rfl
theorem Did.take {w : World} {p m : Nat} {d' : DS} {N : Nat} {r : Int} {e : Ending} {w' : World} (h : Did w p m d' N r e w') : e = .returned (.int .i64 r) ∧ Aside0 (Dk w' p m (far p m) d' ∧ Kept w w' (mutS p m) ∧ Good d' N) := ⟨h.e, ⟨h.d, h.k, h.g⟩⟩
set_option maxHeartbeats 8000000 in
set_option maxRecDepth 100000 in
theorem shown_any (w : World) : Calls Try.prog 9 #[] w fun e w' => e = .returned (.bool true) ∧ Below w.heap.size w w' := by
  have kc := fun (w : World) (C : Array Value) (n c : Nat) => Lib.run_convert_bytes_const (P := Try.prog) w 22 5 C n c Try.underlying22 Try.underlying5
  go_enter Try.func9, Try.ntmps9
  go_wp2_with (go_at_call 10; refine (new_g 9 w).mono ?_; rintro e w1 ⟨p, m, rfl, hD, hb⟩; have H0 := Aside0.mk (And.intro hD hb); clear hD hb)
  go_wp2_with (go_at_call 13; refine (create_g H0.out.1.far H0.out.1.g (by omega) _ sh1_eq).mono ?_; rintro e w2 ⟨rfl, hd, hk, hg⟩; have H1 := Aside0.mk (And.intro hd (And.intro hk hg)); clear hd hk hg)
  go_wp2_with (go_at_call 14; fail)
  have hb2 := bytes_F (l := [120, 121]) (World.alloc_heap_new w2 (.cells #[.int .u8 120, .int .u8 121] 5 (2, 3))) rfl (by simp)
  have hd2 := H1.out.1.below (below_alloc (Below.refl _ _) (.cells #[.int .u8 120, .int .u8 121] 5 (2, 3)))
  have hc2 := append_g hd2 H1.out.2.2 (by omega) na [120, 121] _ 2 _ hb2 (fun q hq => by subst hq; exact ⟨(Nat.ne_of_lt H1.out.1.lt).symm, (Nat.ne_of_lt H1.out.1.ltm).symm⟩) (Nat.le_refl _) (by simp) sh2_eq
  have HC2 := Aside0.mk hc2
  clear hb2 hd2 hc2
  go_wp2_with (go_at_call 14; refine HC2.out.mono ?_; rintro e w3 ⟨rfl, hd, hk, hg⟩; have H2 := Aside0.mk (And.intro hd (And.intro hk hg)); clear hd hk hg)
  go_wp2_with (go_at_call 15; refine (sync_g H2.out.1 H2.out.2.2 (by omega) _ sh3_eq).mono ?_; rintro e w4 ⟨rfl, hd, hk, hg⟩; have H3 := Aside0.mk (And.intro hd (And.intro hk hg)); clear hd hk hg)
  go_wp2_with (go_at_call 17; refine (crash0_g H3.out.1 H3.out.2.2 (by omega) 0 shC_eq).mono ?_; rintro e w5 ⟨pc, mc, rfl, hD, hb⟩; have HC := Aside0.mk (And.intro hD hb); clear hD hb)
  go_wp2_with (go_at_call 16; refine (syncdir_g (H3.out.1.below HC.out.2) H3.out.2.2 (by omega) sh4_eq).mono ?_; rintro e w6 ⟨rfl, hd, hk, hg⟩; have H4 := Aside0.mk (And.intro hd (And.intro hk hg)); clear hd hk hg)
  go_wp2_with (go_at_call 14; fail)
  have hb5 := bytes_F (l := [122]) (World.alloc_heap_new w6 (.cells #[.int .u8 122] 5 (1, 2))) rfl (by simp)
  have hd5 := H4.out.1.below (below_alloc (Below.refl _ _) (.cells #[.int .u8 122] 5 (1, 2)))
  have hc5 := append_g hd5 H4.out.2.2 (by omega) na [122] _ 1 _ hb5 (fun q hq => by subst hq; exact ⟨(Nat.ne_of_lt H4.out.1.lt).symm, (Nat.ne_of_lt H4.out.1.ltm).symm⟩) (Nat.le_refl _) (by simp) sh5_eq
  have HC5 := Aside0.mk hc5
  clear hb5 hd5 hc5
  go_wp2_with (go_at_call 14; refine HC5.out.mono ?_; rintro e w7 ⟨rfl, hd, hk, hg⟩; have H5 := Aside0.mk (And.intro hd (And.intro hk hg)); clear hd hk hg)
  go_wp2_with (go_at_call 17; refine (crash0_g H5.out.1 H5.out.2.2 (by omega) 0 shE_eq).mono ?_; rintro e w8 ⟨pe, me, rfl, hD, hb⟩; have HE := Aside0.mk (And.intro hD hb); clear hD hb)
  have HCn := Aside0.mk (show Newd w4 w8 pc mc shC _ from by
    have hl := H3.out.1.lt
    have hm := H3.out.1.ltm
    have k1 := HC.out.1.kept H4.out.2.1 (fun q hq => by rcases hq with rfl | rfl <;> omega)
    have k2 := k1.kept ((Kept.refl w6 (fun _ => False)).alloc (.cells #[.int .u8 122] 5 (1, 2))) (fun q hq => hq.elim)
    have k3 := k2.kept H5.out.2.1 (fun q hq => by rcases hq with rfl | rfl <;> omega)
    exact k3.kept (Kept.of_below HE.out.2 (fun _ => False)) (fun q hq => hq.elim))
  go_wp2_with (go_at_call 18; refine (read_g HE.out.1.hd HE.out.1.g (by omega) _ shE_read).mono ?_; rintro e w9 ⟨Ar, cr, rfl, hcr, hF, hb⟩; have HR := Aside0.mk (And.intro hF hb); clear hF hb)
  go_wp2_with (go_at_call 20; fail)
  refine (names_g (HCn.out.kept (Kept.of_below HR.out.2 (fun _ => False)) (fun q hq => hq.elim)).hd HCn.out.g (l := []) namesOf_nil).mono ?_
  rintro e wa ⟨An, cn, rfl, hcn, hRn, hbn⟩
  have HN := Aside0.mk hbn
  clear hRn hbn hcn
  simp only [List.length_nil]
  go_wp2_with (go_at_call 20; fail)
  refine (names_g ((HE.out.1.kept (Kept.of_below HR.out.2 (fun _ => False)) (fun q hq => hq.elim)).kept (Kept.of_below HN.out (fun _ => False)) (fun q hq => hq.elim)).hd HE.out.1.g (l := [na]) (namesOf_one _)).mono ?_
  rintro e wb ⟨Am, cm, rfl, hcm, hRm, hbm⟩
  have HN2 := Aside0.mk hbm
  clear hRm hbm hcm
  simp only [List.length_cons, List.length_nil, Nat.zero_add]
  have hstr : (convert 22 9 (.slice Ar 2 cr)).run Try.prog wb = .ok (.string ⟨#[120, 121]⟩) wb := by
    have := str_of (c := cr) (Kd.F_now (Kd.F_below (Kd.F_below HR.out.1 HN.out) HN2.out))
    rwa [show strOfNums [120, 121] = ⟨#[120, 121]⟩ by kernel_rfl] at this
  go_wp2_with fail
  all_goals go_ret
  refine ⟨rfl, ?_⟩
  have hp := H0.out.1.hp
  have hm := H0.out.1.hm
  have S : ∀ q, mutS p m q → False ∨ w.heap.size ≤ q := fun q hq => .inr (by rcases hq with rfl | rfl <;> omega)
  have k0 := (Kept.of_below H0.out.2 (fun _ => False)).then_ H1.out.2.1 S
  have k1 := (k0.alloc (.cells #[.int .u8 120, .int .u8 121] 5 (2, 3))).then_ H2.out.2.1 S
  have k2 := ((k1.then_ H3.out.2.1 S).below HC.out.2).then_ H4.out.2.1 S
  have k3 := (k2.alloc (.cells #[.int .u8 122] 5 (1, 2))).then_ H5.out.2.1 S
  exact ((((k3.below HE.out.2).below HR.out.2).below HN.out).below HN2.out).to_below (fun q hq => hq.elim)
end Go.Proofs.Ytfbpplgpmgnmjaa.P

/- DiskFails: the walk, where the first step fails. -/
namespace Go.Proofs.Ytfbpplgpmgnmjaa.P
open Go.RowKit Go.Proofs.YtfbpplgpmgnmjaaW.PrintWords Go.Proofs.YtfbpplgpmgnmjaaW.PrintLast Go.Proofs.YtfbpplgpmgnmjaaW.PrintMore
set_option linter.unusedVariables false
set_option linter.unusedSimpArgs false
theorem few_f (l : List Int) : thresherlaw08_few.f l = some (l.take 100) := by
  unfold thresherlaw08_few.f
  split
  · rw [if_pos (by omega)]
  · rw [List.take_of_length_le (by omega)]
/-- few, of bytes that came in (they lie below B). -/
theorem few_g {w w1 : World} {A : Option Addr} {c : Nat} {l b : List Int} (hbq : b = l.take 100) (h : Kd.C (Kd.int .u8) w A l.length l) (hc : l.length ≤ c) (hb : Below w.heap.size w w1) :
    Calls Try.prog 11 #[.slice A l.length c] w1 fun e w2 => ∃ A' c', e = .returned (.slice A' b.length c') ∧ b.length ≤ c' ∧ Kd.F (Kd.int .u8) w2 (fun q => q < w.heap.size ∨ w1.heap.size ≤ q) A' b.length b ∧ Below w1.heap.size w1 w2 := by
  subst hbq
  have hF : Kd.F (Kd.int .u8) w (fun q => q < w.heap.size) A l.length l := Kd.C_F (Kd.heap_int _) h
  have hV : Kd.V (Kd.int .u8) 5 w1 w1.heap.size (fun q => q < w.heap.size) (.slice A l.length c) l := ⟨A, c, rfl, hc, Kd.F_step hF (fun q hq hl => hb.block q hl)⟩
  refine (thresherlaw08_few.calls (fun q => q < w.heap.size) A c l (l.take 100) w1 hV (few_f l)).mono ?_
  rintro e w2 ⟨v, rfl, hv, hb2⟩
  obtain ⟨A', c', rfl⟩ := Kd.V_slice hv
  exact ⟨A', c', rfl, (Kd.V_at hv).2.1, (Kd.V_at hv).2.2, hb2⟩
theorem ints_C {W : World} {g : Nat} {cs : Array Value} {l : List Int} (h : W.heap[g]? = some (.cells cs 3 (0, 0))) (hcs : cs.toList = l.map (Value.int .i64)) (hl : l.length ≤ 1000000) : Kd.C (Kd.int .i64) W (some ⟨g, 0, none⟩) l.length l := by
  have hr : ∀ l : List Int, Reps ((Kd.int .i64).K W) 1 l (l.map (Value.int .i64)) := fun l => by
    induction l with
    | nil => exact Reps.none _ _
    | cons x l ih => exact Reps.one rfl ih
  exact arr_row h (hr l) hcs (by omega)
theorem fail_g {w : World} {p m : Nat} {d d' : DS} {N : Nat} (h : Dk w p m (far p m) d) (g : Good d N) (l : List Int) (A : Option Addr) (c : Nat) (hl : Kd.C (Kd.int .i64) w A l.length l) (hc : l.length ≤ c) (hlen : l.length ≤ 100) (e : ({ d with fails := l } : DS) = d') :
    Calls Try.prog 12 #[.pointer (some ⟨p, 0, none⟩), .slice A l.length c] w fun e w' => e = .returned (.tuple #[]) ∧ Dk w' p m (far p m) d' ∧ Kept w w' (mutS p m) ∧ Good d' N := by
  refine (fail_any h l A c hl hc (by omega)).mono ?_
  rintro e' w' ⟨rfl, hd, hk⟩
  have hg := g.fail l hlen
  rw [e] at hd hg
  exact ⟨rfl, hd, hk, hg⟩
set_option maxHeartbeats 8000000 in
set_option maxRecDepth 100000 in
theorem fails_1 (A0 : Option Addr) (c0 : Nat) (l0 : List Int) (a1 : Int) (w : World) (hr0 : Kd.C (Kd.int .u8) w A0 l0.length l0) (hc0 : l0.length ≤ c0) (hk : a1.tmod 4 = 0) (h0 : 0 ≤ a1) (h1 : a1 ≤ 255) :
    Calls Try.prog 3 #[.slice A0 l0.length c0, .int .u8 a1] w fun e w' => e = .returned (.bool true) ∧ Below w.heap.size w w' := by
  have mixed : Try.prog.follows Departure.mixedOrders = true := rfl
  have HR := Aside0.mk (And.intro hr0 hc0)
  clear hr0 hc0
  obtain ⟨b, hbq⟩ : ∃ b, b = l0.take 100 := ⟨_, rfl⟩
  have hbl : b.length ≤ 100 := by rw [hbq, List.length_take]; omega
  have HBQ := Aside0.mk hbq
  clear hbq
  obtain ⟨bh, hbh⟩ : ∃ bh, bh = b.take (b.length / 2) := ⟨_, rfl⟩
  have hbhl : bh.length = b.length / 2 := by rw [hbh, List.length_take]; omega
  have HBH := Aside0.mk hbh
  clear hbh
  go_enter Try.func3, Try.ntmps3
  go_wp2_with (go_at_call 9; fail)
  refine (shown_any w).mono ?_
  rintro e wa ⟨rfl, hba⟩
  have HA := Aside0.mk hba
  clear hba
  go_wp2_with (go_at_call 10; fail)
  refine (new_g 1000 wa).mono ?_
  rintro e wb ⟨p, m, rfl, hD, hb⟩
  have HB := Aside0.mk (And.intro hD (HA.out.trans (hb.mono HA.out.size)))
  clear hD hb
  go_wp2_with (go_at_call 11; fail)
  refine (few_g HBQ.out HR.out.1 HR.out.2 HB.out.2).mono ?_
  rintro e wc ⟨A, c, rfl, hcc, hF, hb⟩
  have HC := Aside0.mk (And.intro hcc (And.intro hF hb))
  clear hcc hF hb
  have HOK := Aside0.mk (show ∀ q, (q < w.heap.size ∨ wb.heap.size ≤ q) → q ≠ p ∧ q ≠ m from fun q hq => by
    have h1 := HB.out.1.hp
    have h2 := HB.out.1.hm
    have h3 := HA.out.size
    have h4 := HB.out.1.far.lt
    have h5 := HB.out.1.far.ltm
    exact ⟨by omega, by omega⟩)
  go_wp2_with (go_at_call 12; fail)
  have hfl := ints_C (l := kf 1) (blk_new wc (.cells #[.int .i64 1, .int .i64 9, .int .i64 1] 3)) rfl (by decide)
  refine (fail_g (HB.out.1.far.below (below_step HC.out.2.2 (below_alloc (Below.refl _ _) _))) HB.out.1.g (kf 1) _ 3 hfl (by decide) (by decide) f10_eq).mono ?_
  rintro e w0 ⟨rfl, hd, hk, hg⟩
  have HF0 := Aside0.mk (Kd.F_step (Kd.F_alloc HC.out.2.1 (.cells #[.int .i64 1, .int .i64 9, .int .i64 1] 3)) (fun q hq hl => hk.2 q hl (fun e => e.elim (HOK.out q hq).1 (HOK.out q hq).2)))
  have H0 := Aside0.mk (And.intro hd (And.intro hk hg))
  clear hd hk hg hfl
  go_wp2_with (go_at_call 13; fail)
  refine ((create_g H0.out.1 H0.out.2.2 (by omega) nf f11_eq).mono (fun _ _ h => (⟨h.e, h.d, h.k, h.g⟩ : _ ∧ _ ∧ _ ∧ _))).mono ?_
  rintro e w1 ⟨rfl, hd, hk, hg⟩
  have HF1 := Aside0.mk (Kd.F_step HF0.out (fun q hq hl => hk.2 q hl (fun e => e.elim (HOK.out q hq).1 (HOK.out q hq).2)))
  have H1 := Aside0.mk (And.intro hd (And.intro hk hg))
  clear hd hk hg
  go_wp2_with (go_at_call 14; fail)
  refine ((append_g H1.out.1 H1.out.2.2 (by omega) nf b A c _ HF1.out HOK.out HC.out.1 (by omega) (f12_eq b)).mono (fun _ _ h => (⟨h.e, h.d, h.k, h.g⟩ : _ ∧ _ ∧ _ ∧ _))).mono ?_
  rintro e w2 ⟨rfl, hd, hk, hg⟩
  have HF2 := Aside0.mk (Kd.F_step HF1.out (fun q hq hl => hk.2 q hl (fun e => e.elim (HOK.out q hq).1 (HOK.out q hq).2)))
  have H2 := Aside0.mk (And.intro hd (And.intro hk hg))
  clear hd hk hg
  go_wp2_with (go_at_call 15; fail)
  refine ((sync_g H2.out.1 H2.out.2.2 (by omega) nf (f13_eq)).mono (fun _ _ h => (⟨h.e, h.d, h.k, h.g⟩ : _ ∧ _ ∧ _ ∧ _))).mono ?_
  rintro e w3 ⟨rfl, hd, hk, hg⟩
  have HF3 := Aside0.mk (Kd.F_step HF2.out (fun q hq hl => hk.2 q hl (fun e => e.elim (HOK.out q hq).1 (HOK.out q hq).2)))
  have H3 := Aside0.mk (And.intro hd (And.intro hk hg))
  clear hd hk hg
  go_wp2_with (go_at_call 16; fail)
  refine ((syncdir_g H3.out.1 H3.out.2.2 (by omega) (f14_eq)).mono (fun _ _ h => (⟨h.e, h.d, h.k, h.g⟩ : _ ∧ _ ∧ _ ∧ _))).mono ?_
  rintro e w4 ⟨rfl, hd, hk, hg⟩
  have HF4 := Aside0.mk (Kd.F_step HF3.out (fun q hq hl => hk.2 q hl (fun e => e.elim (HOK.out q hq).1 (HOK.out q hq).2)))
  have H4 := Aside0.mk (And.intro hd (And.intro hk hg))
  clear hd hk hg
  go_wp2_with fail
  generalize hW5 : w4.alloc (.cells #[.int .i64 33, .int .i64 30, .int .i64 30, .int .i64 0] 29) = w5
  have hb5 : w5.heap[w4.heap.size]? = some (.cells #[.int .i64 33, .int .i64 30, .int .i64 30, .int .i64 0] 29 (0, 0)) := by rw [← hW5]; exact blk_new _ _
  have hc0 : w5.cell? ⟨w4.heap.size, 0, none⟩ = some (.int .i64 33) := (blk_cell hb5 0).trans rfl
  have hc1 : w5.cell? ⟨w4.heap.size, 1, none⟩ = some (.int .i64 30) := (blk_cell hb5 1).trans rfl
  have hc2 : w5.cell? ⟨w4.heap.size, 2, none⟩ = some (.int .i64 30) := (blk_cell hb5 2).trans rfl
  have hc3 : w5.cell? ⟨w4.heap.size, 3, none⟩ = some (.int .i64 0) := (blk_cell hb5 3).trans rfl
  have HB5 := Aside0.mk (show Below w4.heap.size w4 w5 by rw [← hW5]; exact below_alloc (Below.refl _ _) _)
  clear hW5 hb5
  refine wp_loop_rounds 5 ?_
  rw [rounds_succ]
  go_wp2_with fail
  rw [rounds_succ]
  go_wp2_with fail
  rw [rounds_succ]
  go_wp2_with fail
  rw [rounds_succ]
  go_wp2_with fail
  rw [rounds_succ]
  go_wp2_with (go_at_call 17; fail)
  refine (crash0_g (H4.out.1.below HB5.out) H4.out.2.2 (by omega) 0 (f1X_eq)).mono ?_
  rintro e w6 ⟨px, mx, rfl, hD, hb⟩
  have H6 := Aside0.mk (And.intro hD (And.intro hb ((H4.out.1.below HB5.out).below hb)))
  clear hD hb hc0 hc1 hc2 hc3
  go_wp2_with (go_at_call 18; fail)
  refine (read_g H6.out.2.2 H4.out.2.2 (by omega) nf (f1r_eq)).mono ?_
  rintro e w7 ⟨Ar, cr, rfl, hcr, hF, hb⟩
  have H7 := Aside0.mk (And.intro hF (And.intro hb (H6.out.2.2.below hb)))
  clear hF hb
  go_wp2_with (go_at_call 19; fail)
  have hS : Calls Try.prog 19 #[.pointer (some ⟨p, 0, none⟩)] w7 fun e w' => e = .returned (.int .i64 4) ∧ w' = w7 := steps_any H7.out.2.2
  refine hS.mono ?_
  rintro e w7' ⟨rfl, rfl⟩
  clear hS
  go_wp2_with (go_at_call 18; fail)
  refine (read_g (H6.out.1.kept (Kept.of_below H7.out.2.1 (fun _ => False)) (fun q hq => hq.elim)).hd H6.out.1.g (by omega) nf (f1x_eq)).mono ?_
  rintro e w8 ⟨Ax, cx, rfl, hcx, hF, hb⟩
  have H8 := Aside0.mk (And.intro hF (And.intro hb (H7.out.2.2.below hb)))
  clear hF hb
  have HFb := Aside0.mk (show Kd.F (Kd.int .u8) w8 (fun q => q < w.heap.size ∨ wb.heap.size ≤ q) A b.length b from Kd.F_below (Kd.F_below (Kd.F_below (Kd.F_below HF4.out HB5.out) H6.out.2.1) H7.out.2.1) H8.out.2.1)
  go_wp2_with (go_at_call 20; fail)
  refine (names_g H8.out.2.2 H4.out.2.2 (l := []) namesOf_nil).mono ?_
  rintro e w9 ⟨An, cn, rfl, hcn, hRn, hbn⟩
  have H9 := Aside0.mk hbn
  clear hRn hbn hcn
  simp only [List.length_nil]
  go_wp2_with fail
  go_ret
  have HZ := Aside0.mk (H8.out.2.1.trans (H9.out.mono H8.out.2.1.size))
  refine ⟨rfl, ?_⟩
  have hp := HB.out.1.hp
  have hm := HB.out.1.hm
  have hz := HA.out.size
  have S : ∀ q, mutS p m q → False ∨ w.heap.size ≤ q := fun q hq => .inr (by rcases hq with rfl | rfl <;> omega)
  have k0 := (((Kept.of_below HB.out.2 (fun _ => False)).below HC.out.2.2).alloc (.cells #[.int .i64 1, .int .i64 9, .int .i64 1] 3)).then_ H0.out.2.1 S
  have k4 := (((k0.then_ H1.out.2.1 S).then_ H2.out.2.1 S).then_ H3.out.2.1 S).then_ H4.out.2.1 S
  exact ((((k4.below HB5.out).below H6.out.2.1).below H7.out.2.1).below HZ.out).to_below (fun q hq => hq.elim)
end Go.Proofs.Ytfbpplgpmgnmjaa.P

/- DiskRoom: the walk. -/
namespace Go.Proofs.Ytfbpplgpmgnmjaa.P
open Go.RowKit Go.Proofs.YtfbpplgpmgnmjaaW.PrintWords Go.Proofs.YtfbpplgpmgnmjaaW.PrintLast Go.Proofs.YtfbpplgpmgnmjaaW.PrintMore
set_option linter.unusedVariables false
set_option linter.unusedSimpArgs false
theorem used_g {w : World} {p m N : Nat} {d : DS} {ok : Nat → Prop} (h : Dk w p m ok d) (g : Good d N) (hN : N ≤ 9000) {u : Int} (e : used d = u) :
    Calls Try.prog 22 #[.pointer (some ⟨p, 0, none⟩)] w fun e w' => e = .returned (.int .i64 u) ∧ Below w.heap.size w w' := by
  subst e
  obtain ⟨vf, vc, vx, k, h⟩ := h.ex
  exact used_any h g.namesOk (by have := g.used (by omega); omega)
theorem below_kept {w w1 w2 : World} {p m : Nat} (hB : Below w.heap.size w w1) (hk : Kept w1 w2 (mutS p m)) (hp : w.heap.size ≤ p) (hm : w.heap.size ≤ m) : Below w.heap.size w w2 :=
  ((Kept.of_below hB (fun _ => False)).then_ hk (fun q hq => .inr (by rcases hq with rfl | rfl <;> assumption))).to_below (fun q hq => hq.elim)
theorem zeros_list (n : Nat) : (madeCells (Value.int .u8 0).cells (n * 1)).toList = (List.replicate n (0 : Int)).map (Value.int .u8) := by
  have : madeCells (Value.int .u8 0).cells (n * 1) = (List.replicate n (Value.int .u8 0)).toArray := by
    rw [show (Value.int .u8 0).cells = #[.int .u8 0] from rfl]
    apply Array.ext
    · simp [size_madeCells]
    · intro i h1 h2
      have : i % 1 = 0 := Nat.mod_one i
      simp [madeCells, this]
  rw [this]
  simp
set_option maxHeartbeats 8000000 in
set_option maxRecDepth 100000 in
theorem room_go (q : Int) (A1 : Option Addr) (c1 : Nat) (l1 : List (List Int)) (w : World) (hr1 : Kd.C (Kd.slice 5 (Kd.int .u8)) w A1 l1.length l1) (hc1 : l1.length ≤ c1) (h0 : 0 ≤ q) (h1 : q ≤ 255) :
    Calls Try.prog 5 #[.int .u8 q, .slice A1 l1.length c1] w fun e w' => e = .returned (.bool true) ∧ Below w.heap.size w w' := by
  have mixed : Try.prog.follows Departure.mixedOrders = true := rfl
  have HR := Aside0.mk (And.intro hr1 hc1)
  clear hr1 hc1
  obtain ⟨M, hM⟩ : ∃ M, M = min l1.length 10 := ⟨_, rfl⟩
  have HM := Aside0.mk hM
  clear hM
  go_enter Try.func5, Try.ntmps5
  go_wp2_with (go_at_call 9; fail)
  refine (shown_any w).mono ?_
  rintro e wa ⟨rfl, hba⟩
  have HA := Aside0.mk hba
  clear hba
  go_wp2_with (go_at_call 10; fail)
  refine (new_g q wa).mono ?_
  rintro e wb ⟨p, m, rfl, hD, hb⟩
  have HB := Aside0.mk (And.intro hD (HA.out.trans (hb.mono HA.out.size)))
  clear hD hb
  have HPM := Aside0.mk (show w.heap.size ≤ p ∧ w.heap.size ≤ m by have h1 := HB.out.1.hp; have h2 := HB.out.1.hm; have h3 := HA.out.size; omega)
  go_wp2_with (go_at_call 13; fail)
  refine ((create_g HB.out.1.far HB.out.1.g (by omega) na (r1_eq h0)).mono (fun _ _ h => h.take)).mono ?_
  rintro e w1 ⟨rfl, H1⟩
  go_wp2_with (go_at_call 13; fail)
  refine ((create_g H1.out.1 H1.out.2.2 (by omega) nb (r2_eq q)).mono (fun _ _ h => h.take)).mono ?_
  rintro e w2 ⟨rfl, H2⟩
  go_wp2_with fail
  have HB2 := Aside0.mk (below_kept (below_kept HB.out.2 H1.out.2.1 HPM.out.1 HPM.out.2) H2.out.2.1 HPM.out.1 HPM.out.2)
  try go_frame
  go_loopg [7, 8, 9] M (fun gk v7 v8 v9 wr => ∃ (i : Nat) (own : List Int) (s : Int) (N : Nat), v7 = .int .i64 (own.length : Nat) ∧ v8 = .string (strOfNums own) ∧ v9 = .int .i64 (i : Nat) ∧ Aside0 (gk + i = M) ∧ Aside0 ((own.length : Int) ≤ q ∧ N ≤ 20 + 9 * i) ∧ Aside0 (Dk wr p m (far p m) (rN q s own) ∧ Good (rN q s own) N) ∧ Aside0 (Below w.heap.size w wr))
  case atStart => exact ⟨0, [], 2, _, rfl, rfl, rfl, ⟨by omega⟩, ⟨⟨by simpa using h0, by omega⟩⟩, ⟨⟨H2.out.1, H2.out.2.2⟩⟩, HB2⟩
  case round =>
    obtain ⟨i, own, s, N, rfl, rfl, rfl, HK, HL, HD, HBr⟩ := hrel
    by_cases hlt : i < M
    · have hd1 : decide ((i : Int) < (l1.length : Int)) = true := decide_eq_true (by have := HM.out; omega)
      have hd2 : decide ((i : Int) < 10) = true := decide_eq_true (by have := HM.out; omega)
      have hi10 : i < 10 := by have := HM.out; omega
      obtain ⟨ad, A0, c0, e1, hx0, hl0, hi0⟩ := at_L1 HR.out.1 (i : Int) (by omega) (by have := HM.out; omega)
      cases e1
      replace hx0 := (HBr.out.cell (World.block_lt_of_cell? w _ hx0)).trans hx0
      obtain ⟨pc, hpc⟩ : ∃ pc, pc = rd_L1 l1 (i : Int) := ⟨_, rfl⟩
      rw [← hpc] at hx0 hl0 hi0
      simp only [Int.toNat_natCast] at hx0
      obtain ⟨b, hbq⟩ : ∃ b, b = pc.take 100 := ⟨_, rfl⟩
      have hbl : b.length ≤ 100 := by rw [hbq, List.length_take]; omega
      have HBQ := Aside0.mk hbq
      have HI := Aside0.mk (And.intro hi0 hl0)
      have hL1 := HL.out.1
      have hL2 := HL.out.2
      clear hbq hpc hi0 hl0
      have hw : IntKind.i64.wrap ((own.length : Int) + (b.length : Int)) = (own.length : Int) + (b.length : Int) := i64w (by omega) (by omega)
      have p1 : (0 ≤ (i : Int)) = True := eq_true (by omega)
      have q1 : ((i : Int) < (l1.length : Int)) = True := eq_true (by have := HM.out; omega)
      go_wp2_with (go_at_call 11; fail)
      refine (few_g HBQ.out HI.out.1 HI.out.2 HBr.out).mono ?_
      rintro e w3 ⟨A, c, rfl, hcc, hF, hb⟩
      have HF := Aside0.mk (And.intro hcc (And.intro hF hb))
      have HOK := Aside0.mk (show ∀ k, (k < w.heap.size ∨ wr.heap.size ≤ k) → k ≠ p ∧ k ≠ m from fun k hk => by
        have h1 := HPM.out
        have h2 := HD.out.1.lt
        have h3 := HD.out.1.ltm
        exact ⟨by omega, by omega⟩)
      clear hcc hF hb hx0
      by_cases hq : (own.length : Int) + (b.length : Int) ≤ q
      · have hqd : decide ((own.length : Int) + (b.length : Int) ≤ q) = true := decide_eq_true hq
        obtain ⟨own2, ho2⟩ : ∃ own2, own2 = own ++ b := ⟨_, rfl⟩
        have hln : (own2.length : Int) = (own.length : Int) + (b.length : Int) := by rw [ho2]; simp
        have hsa : strOfNums own ++ strOfNums b = strOfNums own2 := by rw [ho2]; exact strOfNums_append own b
        have HO2 := Aside0.mk ho2
        have HLN := Aside0.mk hln
        have HSA := Aside0.mk hsa
        clear ho2 hln hsa
        go_wp2_with (go_at_call 14; fail)
        refine ((append_g (HD.out.1.below HF.out.2.2) HD.out.2 (by omega) na b A c _ HF.out.2.1 HOK.out HF.out.1 (by omega) (show append1 (rN q s own) na b = (rN q (s + 1) own2, 0) from by rw [HO2.out]; exact rN_go q s own b hq)).mono (fun _ _ h => h.take)).mono ?_
        rintro e w4 ⟨rfl, H4⟩
        have hFb := Kd.F_step HF.out.2.1 (fun k hk hl => H4.out.2.1.2 k hl (fun e => e.elim (HOK.out k hk).1 (HOK.out k hk).2))
        have hsb : (convert 22 9 (.slice A b.length c)).run Try.prog w4 = .ok (.string (strOfNums b)) w4 := str_of (Kd.F_now hFb)
        have HB4 := Aside0.mk (below_kept (HBr.out.trans (HF.out.2.2.mono HBr.out.size)) H4.out.2.1 HPM.out.1 HPM.out.2)
        have hsz : (9223372036854775807 < (strOfNums own).size + (strOfNums b).size) = False := eq_false (by rw [strOfNums_size, strOfNums_size]; omega)
        clear hFb
        go_wp2_with (go_at_call 18; fail)
        refine (read_g H4.out.1 H4.out.2.2 (by omega) na (rN_read _ _ _)).mono ?_
        rintro e w5 ⟨Ar, cr, rfl, hcr, hF, hb⟩
        have HF5 := Aside0.mk (And.intro hF hb)
        clear hF hb hsb hsz
        go_wp2_with (go_at_call 22; fail)
        refine (used_g (H4.out.1.below HF5.out.2) H4.out.2.2 (by omega) (rN_used _ _ _)).mono ?_
        rintro e w6 ⟨rfl, hb⟩
        have hsr : (convert 22 9 (.slice Ar own2.length cr)).run Try.prog w6 = .ok (.string (strOfNums own2)) w6 := str_of (Kd.F_now (Kd.F_below HF5.out.1 hb))
        have HB6 := Aside0.mk hb
        clear hb
        have hln := HLN.out
        have hsa := HSA.out
        go_wp2_with fail
        go_roundg (gk - 1)
        case measure => have := HK.out; omega
        case rel => exact ⟨i + 1, own2, s + 1, _, by first | rfl | rw [HLN.out], by first | rfl | rw [HSA.out], by first | rfl | (congr 1; omega), ⟨by have := HK.out; omega⟩, ⟨⟨by have := HLN.out; omega, by omega⟩⟩, ⟨⟨(H4.out.1.below HF5.out.2).below HB6.out, H4.out.2.2⟩⟩, ⟨(HB4.out.trans (HF5.out.2.mono HB4.out.size)).trans (HB6.out.mono (HB4.out.trans (HF5.out.2.mono HB4.out.size)).size)⟩⟩
      · have hqd : decide ((own.length : Int) + (b.length : Int) ≤ q) = false := decide_eq_false hq
        go_wp2_with (go_at_call 14; fail)
        refine ((append_g (HD.out.1.below HF.out.2.2) HD.out.2 (by omega) na b A c _ HF.out.2.1 HOK.out HF.out.1 (by omega) (show append1 (rN q s own) na b = (rN q (s + 1) own, 32) from rN_full q s own b (by omega))).mono (fun _ _ h => h.take)).mono ?_
        rintro e w4 ⟨rfl, H4⟩
        have hFb := Kd.F_step HF.out.2.1 (fun k hk hl => H4.out.2.1.2 k hl (fun e => e.elim (HOK.out k hk).1 (HOK.out k hk).2))
        have hsb : (convert 22 9 (.slice A b.length c)).run Try.prog w4 = .ok (.string (strOfNums b)) w4 := str_of (Kd.F_now hFb)
        have HB4 := Aside0.mk (below_kept (HBr.out.trans (HF.out.2.2.mono HBr.out.size)) H4.out.2.1 HPM.out.1 HPM.out.2)
        have hsz : (9223372036854775807 < (strOfNums own).size + (strOfNums b).size) = False := eq_false (by rw [strOfNums_size, strOfNums_size]; omega)
        clear hFb
        go_wp2_with (go_at_call 18; fail)
        refine (read_g H4.out.1 H4.out.2.2 (by omega) na (rN_read _ _ _)).mono ?_
        rintro e w5 ⟨Ar, cr, rfl, hcr, hF, hb⟩
        have HF5 := Aside0.mk (And.intro hF hb)
        clear hF hb hsb hsz
        go_wp2_with (go_at_call 22; fail)
        refine (used_g (H4.out.1.below HF5.out.2) H4.out.2.2 (by omega) (rN_used _ _ _)).mono ?_
        rintro e w6 ⟨rfl, hb⟩
        have hsr : (convert 22 9 (.slice Ar own.length cr)).run Try.prog w6 = .ok (.string (strOfNums own)) w6 := str_of (Kd.F_now (Kd.F_below HF5.out.1 hb))
        have HB6 := Aside0.mk hb
        clear hb
        go_wp2_with fail
        go_roundg (gk - 1)
        case measure => have := HK.out; omega
        case rel => exact ⟨i + 1, own, s + 1, _, rfl, rfl, by first | rfl | (congr 1; omega), ⟨by have := HK.out; omega⟩, ⟨⟨by omega, by omega⟩⟩, ⟨⟨(H4.out.1.below HF5.out.2).below HB6.out, H4.out.2.2⟩⟩, ⟨(HB4.out.trans (HF5.out.2.mono HB4.out.size)).trans (HB6.out.mono (HB4.out.trans (HF5.out.2.mono HB4.out.size)).size)⟩⟩
    · have hL1 := HL.out.1
      have hL2 := HL.out.2
      have hN : N ≤ 200 := by have hM := HM.out; have hK := HK.out; omega
      have HB0 := Aside0.mk HBr.out
      by_cases h : i < l1.length
      · have hd1 : decide ((10 : Int) < (l1.length : Int)) = true := decide_eq_true (by have hM := HM.out; have hK := HK.out; omega)
        obtain rfl : i = 10 := by have hM := HM.out; have hK := HK.out; omega
        clear h hlt
        go_wp2_with (go_at_call 23; fail)
        refine ((remove_g HD.out.1 HD.out.2 (by omega) na (rE_eq q s own)).mono (fun _ _ h => h.take)).mono ?_
        rintro e w3 ⟨rfl, H3⟩
        have hmk : ∀ W, (Instr.makeSlice 22 (.int .i64 q) (.int .i64 q)).run Try.prog W = .ok (.slice (some ⟨W.heap.size, 0, none⟩) q.toNat q.toNat) (W.alloc (.cells (madeCells (Value.int .u8 0).cells (q.toNat * 1)) 5)) := fun W => by
          obtain ⟨i0, hi0, hz0, hsz0, hby0⟩ := info_parts info5
          have := run_make (P := Try.prog) W 22 5 i0 (.int .u8 0) Try.underlying22 hi0 hz0 .i64 .i64 q q h0 (Int.le_refl _) (by rw [hby0]; omega) (by omega)
          rw [hsz0] at this
          exact this
        go_wp2_with (go_at_call 14; fail)
        obtain ⟨z, hzq⟩ : ∃ z, z = List.replicate q.toNat (0 : Int) := ⟨_, rfl⟩
        have hzl : z.length = q.toNat := by rw [hzq]; simp
        generalize hW4 : w3.alloc (Obj.cells (madeCells #[Value.int .u8 0] q.toNat) 5) = w4
        have hb4 : w4.heap[w3.heap.size]? = some (.cells (madeCells #[.int .u8 0] q.toNat) 5 (0, 0)) := by rw [← hW4]; exact blk_new _ _
        have HB4 := Aside0.mk (show Below w3.heap.size w3 w4 by rw [← hW4]; exact below_alloc (Below.refl _ _) _)
        have hF4 := bytes_F (l := z) hb4 (by rw [hzq]; have := zeros_list q.toNat; rwa [Nat.mul_one] at this) (by omega)
        have HA4 := Aside0.mk (show Calls Try.prog 14 #[.pointer (some ⟨p, 0, none⟩), .string nb, .slice (some ⟨w3.heap.size, 0, none⟩) q.toNat q.toNat] w4 fun e w' => e = .returned (.int .i64 0) ∧ Aside0 (Dk w' p m (far p m) (rF q (s + 1 + 1) own z) ∧ Kept w4 w' (mutS p m) ∧ Good (rF q (s + 1 + 1) own z) (N + 3 + 3)) from by
          have := append_g (H3.out.1.below HB4.out) H3.out.2.2 (by omega) nb z _ q.toNat _ hF4 (fun k hk => by subst hk; exact ⟨(Nat.ne_of_lt H3.out.1.lt).symm, (Nat.ne_of_lt H3.out.1.ltm).symm⟩) (by omega) (by omega) (rF_eq q (s + 1) own z (by omega))
          rw [hzl] at this
          exact this.mono (fun _ _ h => h.take))
        have HZL := Aside0.mk hzl
        clear hW4 hb4 hF4 hzq hmk hzl
        refine HA4.out.mono ?_
        rintro e w5 ⟨rfl, H5⟩
        go_wp2_with (go_at_call 14; fail)
        have hF6 := bytes_F (l := [1]) (World.alloc_heap_new w5 (.cells #[.int .u8 1] 5)) rfl (by simp)
        refine ((append_g (H5.out.1.below (below_alloc (Below.refl _ _) _)) H5.out.2.2 (by omega) nb [1] _ 1 _ hF6 (fun k hk => by subst hk; exact ⟨(Nat.ne_of_lt H5.out.1.lt).symm, (Nat.ne_of_lt H5.out.1.ltm).symm⟩) (Nat.le_refl _) (by simp) (rF_full q _ own z (by have := HZL.out; omega))).mono (fun _ _ h => h.take)).mono ?_
        rintro e w7 ⟨rfl, H7⟩
        clear hF6
        go_wp2_with (go_at_call 22; fail)
        refine (used_g H7.out.1 H7.out.2.2 (by omega) (show used (rF q (s + 1 + 1 + 1) own z) = q by rw [rF_used]; have := HZL.out; omega)).mono ?_
        rintro e w8 ⟨rfl, hb⟩
        have HB8 := Aside0.mk hb
        clear hb
        go_wp2_with fail
        go_ret
        refine ⟨by simp, ?_⟩
        have k0 := below_kept HB0.out H3.out.2.1 HPM.out.1 HPM.out.2
        have k1 := k0.trans (HB4.out.mono k0.size)
        have k2 := below_kept k1 H5.out.2.1 HPM.out.1 HPM.out.2
        have k3 := below_alloc k2 (.cells #[.int .u8 1] 5)
        have k4 := below_kept k3 H7.out.2.1 HPM.out.1 HPM.out.2
        exact k4.trans (HB8.out.mono k4.size)
      · have hd1 : decide ((i : Int) < (l1.length : Int)) = false := decide_eq_false (by omega)
        have hd3 : ((i : Int) < (l1.length : Int)) = False := eq_false (by omega)
        have hd4 : (i < l1.length) = False := eq_false (by omega)
        clear h hlt
        go_wp2_with (go_at_call 23; fail)
        refine ((remove_g HD.out.1 HD.out.2 (by omega) na (rE_eq q s own)).mono (fun _ _ h => h.take)).mono ?_
        rintro e w3 ⟨rfl, H3⟩
        have hmk : ∀ W, (Instr.makeSlice 22 (.int .i64 q) (.int .i64 q)).run Try.prog W = .ok (.slice (some ⟨W.heap.size, 0, none⟩) q.toNat q.toNat) (W.alloc (.cells (madeCells (Value.int .u8 0).cells (q.toNat * 1)) 5)) := fun W => by
          obtain ⟨i0, hi0, hz0, hsz0, hby0⟩ := info_parts info5
          have := run_make (P := Try.prog) W 22 5 i0 (.int .u8 0) Try.underlying22 hi0 hz0 .i64 .i64 q q h0 (Int.le_refl _) (by rw [hby0]; omega) (by omega)
          rw [hsz0] at this
          exact this
        go_wp2_with (go_at_call 14; fail)
        obtain ⟨z, hzq⟩ : ∃ z, z = List.replicate q.toNat (0 : Int) := ⟨_, rfl⟩
        have hzl : z.length = q.toNat := by rw [hzq]; simp
        generalize hW4 : w3.alloc (Obj.cells (madeCells #[Value.int .u8 0] q.toNat) 5) = w4
        have hb4 : w4.heap[w3.heap.size]? = some (.cells (madeCells #[.int .u8 0] q.toNat) 5 (0, 0)) := by rw [← hW4]; exact blk_new _ _
        have HB4 := Aside0.mk (show Below w3.heap.size w3 w4 by rw [← hW4]; exact below_alloc (Below.refl _ _) _)
        have hF4 := bytes_F (l := z) hb4 (by rw [hzq]; have := zeros_list q.toNat; rwa [Nat.mul_one] at this) (by omega)
        have HA4 := Aside0.mk (show Calls Try.prog 14 #[.pointer (some ⟨p, 0, none⟩), .string nb, .slice (some ⟨w3.heap.size, 0, none⟩) q.toNat q.toNat] w4 fun e w' => e = .returned (.int .i64 0) ∧ Aside0 (Dk w' p m (far p m) (rF q (s + 1 + 1) own z) ∧ Kept w4 w' (mutS p m) ∧ Good (rF q (s + 1 + 1) own z) (N + 3 + 3)) from by
          have := append_g (H3.out.1.below HB4.out) H3.out.2.2 (by omega) nb z _ q.toNat _ hF4 (fun k hk => by subst hk; exact ⟨(Nat.ne_of_lt H3.out.1.lt).symm, (Nat.ne_of_lt H3.out.1.ltm).symm⟩) (by omega) (by omega) (rF_eq q (s + 1) own z (by omega))
          rw [hzl] at this
          exact this.mono (fun _ _ h => h.take))
        have HZL := Aside0.mk hzl
        clear hW4 hb4 hF4 hzq hmk hzl
        refine HA4.out.mono ?_
        rintro e w5 ⟨rfl, H5⟩
        go_wp2_with (go_at_call 14; fail)
        have hF6 := bytes_F (l := [1]) (World.alloc_heap_new w5 (.cells #[.int .u8 1] 5)) rfl (by simp)
        refine ((append_g (H5.out.1.below (below_alloc (Below.refl _ _) _)) H5.out.2.2 (by omega) nb [1] _ 1 _ hF6 (fun k hk => by subst hk; exact ⟨(Nat.ne_of_lt H5.out.1.lt).symm, (Nat.ne_of_lt H5.out.1.ltm).symm⟩) (Nat.le_refl _) (by simp) (rF_full q _ own z (by have := HZL.out; omega))).mono (fun _ _ h => h.take)).mono ?_
        rintro e w7 ⟨rfl, H7⟩
        clear hF6
        go_wp2_with (go_at_call 22; fail)
        refine (used_g H7.out.1 H7.out.2.2 (by omega) (show used (rF q (s + 1 + 1 + 1) own z) = q by rw [rF_used]; have := HZL.out; omega)).mono ?_
        rintro e w8 ⟨rfl, hb⟩
        have HB8 := Aside0.mk hb
        clear hb
        go_wp2_with fail
        go_ret
        refine ⟨by simp, ?_⟩
        have k0 := below_kept HB0.out H3.out.2.1 HPM.out.1 HPM.out.2
        have k1 := k0.trans (HB4.out.mono k0.size)
        have k2 := below_kept k1 H5.out.2.1 HPM.out.1 HPM.out.2
        have k3 := below_alloc k2 (.cells #[.int .u8 1] 5)
        have k4 := below_kept k3 H7.out.2.1 HPM.out.1 HPM.out.2
        exact k4.trans (HB8.out.mono k4.size)
end Go.Proofs.Ytfbpplgpmgnmjaa.P

/- DiskEnds: the walk. -/
namespace Go.Proofs.Ytfbpplgpmgnmjaa.P
open Go.RowKit Go.Proofs.YtfbpplgpmgnmjaaW.PrintWords Go.Proofs.YtfbpplgpmgnmjaaW.PrintLast Go.Proofs.YtfbpplgpmgnmjaaW.PrintMore
set_option linter.unusedVariables false
set_option linter.unusedSimpArgs false
theorem limit_g {w : World} {p m N : Nat} {d d' : DS} (h : Dk w p m (far p m) d) (g : Good d N) (n : Int) (e : ({ d with limit := max n 0 } : DS) = d') :
    Calls Try.prog 21 #[.pointer (some ⟨p, 0, none⟩), .int .i64 n] w fun e w' => e = .returned (.tuple #[]) ∧ Aside0 (Dk w' p m (far p m) d' ∧ Kept w w' (mutS p m) ∧ Good d' N) := by
  refine (limit_any h n).mono ?_
  rintro e' w' ⟨rfl, hd, hk⟩
  have hg := g.limit (max n 0)
  rw [e] at hd hg
  exact ⟨rfl, ⟨hd, hk, hg⟩⟩
theorem one_byte (W : World) (x : Int) (s : ByteArray) (hs : strOfNums [x] = s) : (convert 22 9 (.slice (some ⟨W.heap.size, 0, none⟩) 1 1)).run Try.prog (W.alloc (.cells #[.int .u8 x] 5)) = .ok (.string s) (W.alloc (.cells #[.int .u8 x] 5)) := by
  have := str_of (c := 1) (Kd.F_now (bytes_F (l := [x]) (World.alloc_heap_new W (.cells #[.int .u8 x] 5)) rfl (by simp)))
  rw [hs] at this
  exact this
theorem cat2 (x y : Int) (s t u : ByteArray) (hs : strOfNums [x] = s) (ht : strOfNums [y] = t) (hu : strOfNums [x, y] = u) : s ++ t = u := by
  rw [← hs, ← ht, ← hu]
  exact strOfNums_append [x] [y]
set_option maxHeartbeats 40000000 in
set_option maxRecDepth 100000 in
theorem ends_go (a0 : Int) (A1 : Option Addr) (c1 : Nat) (l1 : List Int) (a2 : Int) (w : World) (hr1 : Kd.C (Kd.int .u8) w A1 l1.length l1) (hc1 : l1.length ≤ c1) (h0 : 0 ≤ a0) (h1 : a0 ≤ 255) :
    Calls Try.prog 4 #[.int .u8 a0, .slice A1 l1.length c1, .int .i64 a2] w fun e w' => e = .returned (.bool true) ∧ Below w.heap.size w w' := by
  have mixed : Try.prog.follows Departure.mixedOrders = true := rfl
  have HR := Aside0.mk (And.intro hr1 hc1)
  clear hr1 hc1
  obtain ⟨b, hbq⟩ : ∃ b, b = l1.take 100 := ⟨_, rfl⟩
  have hbl : b.length ≤ 100 := by rw [hbq, List.length_take]; omega
  have HBQ := Aside0.mk hbq
  obtain ⟨k, hk⟩ : ∃ k : Nat, a0.tmod 11 = (k : Int) := ⟨(a0.tmod 11).toNat, by have := Int.tmod_nonneg 11 h0; omega⟩
  have hk10 : k ≤ 10 := by have := Int.tmod_lt_of_pos a0 (show (0 : Int) < 11 by omega); omega
  clear hbq
  go_enter Try.func4, Try.ntmps4
  go_wp2_with (go_at_call 9; fail)
  refine (shown_any w).mono ?_
  rintro e wa ⟨rfl, hba⟩
  have HA := Aside0.mk hba
  clear hba
  go_wp2_with (go_at_call 10; fail)
  refine (new_g 10000 wa).mono ?_
  rintro e wb ⟨p, m, rfl, hD, hb⟩
  have HB := Aside0.mk (And.intro hD (HA.out.trans (hb.mono HA.out.size)))
  clear hD hb
  have HPM := Aside0.mk (show w.heap.size ≤ p ∧ w.heap.size ≤ m by have h1 := HB.out.1.hp; have h2 := HB.out.1.hm; have h3 := HA.out.size; omega)
  go_wp2_with (go_at_call 11; fail)
  refine (few_g HBQ.out HR.out.1 HR.out.2 HB.out.2).mono ?_
  rintro e wc ⟨A, c, rfl, hcc, hF, hb⟩
  have HC := Aside0.mk (And.intro hcc (And.intro hF hb))
  have HOK := Aside0.mk (show ∀ q, (q < w.heap.size ∨ wb.heap.size ≤ q) → q ≠ p ∧ q ≠ m from fun q hq => by
    have h1 := HPM.out
    have h4 := HB.out.1.far.lt
    have h5 := HB.out.1.far.ltm
    exact ⟨by omega, by omega⟩)
  clear hcc hF hb
  go_wp2_with (go_at_call 21; fail)
  refine (limit_g (HB.out.1.far.below HC.out.2.2) HB.out.1.g (k : Int) (show _ = eT k b 0 from by rw [eT_le b (Nat.zero_le _), show max (k : Int) 0 = (k : Int) by omega]; rfl)).mono ?_
  rintro e w0 ⟨rfl, H0⟩
  have HB0 := Aside0.mk (below_kept (HB.out.2.trans (HC.out.2.2.mono HB.out.2.size)) H0.out.2.1 HPM.out.1 HPM.out.2)
  have HF0 := Aside0.mk (Kd.F_step HC.out.2.1 (fun q hq hl => H0.out.2.1.2 q hl (fun e => e.elim (HOK.out q hq).1 (HOK.out q hq).2)))
  go_wp2_with fail
  try go_frame
  go_loopg [10, 11] 12 (fun gk v10 v11 wr => ∃ (i tk N : Nat), v10 = .int .i64 (tk : Nat) ∧ v11 = .int .i64 (i : Nat) ∧ Aside0 (gk + i = 12) ∧ Aside0 (tk = min i k ∧ N ≤ 20 + 9 * i) ∧ Aside0 (Dk wr p m (far p m) (eT k b i) ∧ Good (eT k b i) N) ∧ Aside0 (Kd.F (Kd.int .u8) wr (fun q => q < w.heap.size ∨ wb.heap.size ≤ q) A b.length b) ∧ Aside0 (Below w.heap.size w wr))
  case atStart => exact ⟨0, 0, _, rfl, rfl, ⟨by omega⟩, ⟨⟨by omega, by omega⟩⟩, ⟨⟨H0.out.1, H0.out.2.2⟩⟩, HF0, HB0⟩
  case round =>
    obtain ⟨i, tk, N, rfl, rfl, HK, HL, HD, HF, HBr⟩ := hrel
    have hN := HL.out.2
    have hwt : IntKind.i64.wrap ((tk : Int) + 1) = (tk : Int) + 1 := i64w (by have := HL.out.1; omega) (by have := HL.out.1; omega)
    have hi12 : i = 0 ∨ i = 1 ∨ i = 2 ∨ i = 3 ∨ i = 4 ∨ i = 5 ∨ i = 6 ∨ i = 7 ∨ i = 8 ∨ i = 9 ∨ i = 10 ∨ i = 11 ∨ i = 12 := by have := HK.out; omega
    rcases hi12 with rfl | rfl | rfl | rfl | rfl | rfl | rfl | rfl | rfl | rfl | rfl | rfl | rfl
    · by_cases hik0 : 0 < k
      · have hik : decide ((0 : Int) < (k : Int)) = true := decide_eq_true (by omega)
        have hcv := one_byte wr 97 ⟨#[97]⟩ (by kernel_rfl)
        have hcat : (⟨#[102]⟩ : ByteArray) ++ ⟨#[97]⟩ = ⟨#[102, 97]⟩ := cat2 102 97 _ _ _ (by kernel_rfl) (by kernel_rfl) (by kernel_rfl)
        go_wp2_with (go_at_call 13; fail)
        refine ((create_g (HD.out.1.below (below_alloc (Below.refl _ _) _)) HD.out.2 (by omega) fa (show stepF (eT k b 0) (create1 · fa) = (eT k b 1, 0) from by rw [eT_le b (show 0 ≤ k by omega), eT_le b (show 0 + 1 ≤ k by omega)]; exact es0 b (by omega))).mono (fun _ _ h => h.take)).mono ?_
        rintro e w9 ⟨rfl, H9⟩
        clear hcv hcat
        go_wp2_with fail
        go_roundg (gk - 1)
        case measure => have := HK.out; omega
        case rel => exact ⟨0 + 1, tk + 1, _, by first | rfl | (simp; omega) | simp, by first | rfl | simp, ⟨by have := HK.out; omega⟩, ⟨⟨by have := HL.out.1; omega, by omega⟩⟩, ⟨⟨H9.out.1, H9.out.2.2⟩⟩, ⟨Kd.F_step (Kd.F_alloc HF.out (.cells #[.int .u8 97] 5)) (fun q hq hl => H9.out.2.1.2 q hl (fun e => e.elim (HOK.out q hq).1 (HOK.out q hq).2))⟩, ⟨below_kept (below_alloc HBr.out (.cells #[.int .u8 97] 5)) H9.out.2.1 HPM.out.1 HPM.out.2⟩⟩
      · have hik : decide ((0 : Int) < (k : Int)) = false := decide_eq_false (by omega)
        have hcv := one_byte wr 97 ⟨#[97]⟩ (by kernel_rfl)
        have hcat : (⟨#[102]⟩ : ByteArray) ++ ⟨#[97]⟩ = ⟨#[102, 97]⟩ := cat2 102 97 _ _ _ (by kernel_rfl) (by kernel_rfl) (by kernel_rfl)
        go_wp2_with (go_at_call 13; fail)
        refine ((create_g (HD.out.1.below (below_alloc (Below.refl _ _) _)) HD.out.2 (by omega) fa (show stepF (eT k b 0) (create1 · fa) = (eT k b 1, 34) from by rw [← eT_dead b (show k ≤ 0 by omega)]; exact stepF_end (eT_ended b hk10 (by omega)))).mono (fun _ _ h => h.take)).mono ?_
        rintro e w9 ⟨rfl, H9⟩
        clear hcv hcat
        go_wp2_with fail
        go_roundg (gk - 1)
        case measure => have := HK.out; omega
        case rel => exact ⟨0 + 1, tk, _, by first | rfl | (simp; omega) | simp, by first | rfl | simp, ⟨by have := HK.out; omega⟩, ⟨⟨by have := HL.out.1; omega, by omega⟩⟩, ⟨⟨H9.out.1, H9.out.2.2⟩⟩, ⟨Kd.F_step (Kd.F_alloc HF.out (.cells #[.int .u8 97] 5)) (fun q hq hl => H9.out.2.1.2 q hl (fun e => e.elim (HOK.out q hq).1 (HOK.out q hq).2))⟩, ⟨below_kept (below_alloc HBr.out (.cells #[.int .u8 97] 5)) H9.out.2.1 HPM.out.1 HPM.out.2⟩⟩
    · by_cases hik0 : 1 < k
      · have hik : decide ((1 : Int) < (k : Int)) = true := decide_eq_true (by omega)
        have hcv := one_byte wr 97 ⟨#[97]⟩ (by kernel_rfl)
        have hcat : (⟨#[102]⟩ : ByteArray) ++ ⟨#[97]⟩ = ⟨#[102, 97]⟩ := cat2 102 97 _ _ _ (by kernel_rfl) (by kernel_rfl) (by kernel_rfl)
        go_wp2_with (go_at_call 14; fail)
        refine ((append_g (HD.out.1.below (below_alloc (Below.refl _ _) _)) HD.out.2 (by omega) fa b A c _ (Kd.F_alloc HF.out (.cells #[.int .u8 97] 5)) HOK.out HC.out.1 (by omega) (show append1 (eT k b 1) fa b = (eT k b 2, 0) from by rw [eT_le b (show 1 ≤ k by omega), eT_le b (show 1 + 1 ≤ k by omega)]; exact es1 b hbl (by omega))).mono (fun _ _ h => h.take)).mono ?_
        rintro e w9 ⟨rfl, H9⟩
        clear hcv hcat
        go_wp2_with fail
        go_roundg (gk - 1)
        case measure => have := HK.out; omega
        case rel => exact ⟨1 + 1, tk + 1, _, by first | rfl | (simp; omega) | simp, by first | rfl | simp, ⟨by have := HK.out; omega⟩, ⟨⟨by have := HL.out.1; omega, by omega⟩⟩, ⟨⟨H9.out.1, H9.out.2.2⟩⟩, ⟨Kd.F_step (Kd.F_alloc HF.out (.cells #[.int .u8 97] 5)) (fun q hq hl => H9.out.2.1.2 q hl (fun e => e.elim (HOK.out q hq).1 (HOK.out q hq).2))⟩, ⟨below_kept (below_alloc HBr.out (.cells #[.int .u8 97] 5)) H9.out.2.1 HPM.out.1 HPM.out.2⟩⟩
      · have hik : decide ((1 : Int) < (k : Int)) = false := decide_eq_false (by omega)
        have hcv := one_byte wr 97 ⟨#[97]⟩ (by kernel_rfl)
        have hcat : (⟨#[102]⟩ : ByteArray) ++ ⟨#[97]⟩ = ⟨#[102, 97]⟩ := cat2 102 97 _ _ _ (by kernel_rfl) (by kernel_rfl) (by kernel_rfl)
        go_wp2_with (go_at_call 14; fail)
        refine ((append_g (HD.out.1.below (below_alloc (Below.refl _ _) _)) HD.out.2 (by omega) fa b A c _ (Kd.F_alloc HF.out (.cells #[.int .u8 97] 5)) HOK.out HC.out.1 (by omega) (show append1 (eT k b 1) fa b = (eT k b 2, 34) from by rw [← eT_dead b (show k ≤ 1 by omega)]; exact append1_end (eT_ended b hk10 (by omega)))).mono (fun _ _ h => h.take)).mono ?_
        rintro e w9 ⟨rfl, H9⟩
        clear hcv hcat
        go_wp2_with fail
        go_roundg (gk - 1)
        case measure => have := HK.out; omega
        case rel => exact ⟨1 + 1, tk, _, by first | rfl | (simp; omega) | simp, by first | rfl | simp, ⟨by have := HK.out; omega⟩, ⟨⟨by have := HL.out.1; omega, by omega⟩⟩, ⟨⟨H9.out.1, H9.out.2.2⟩⟩, ⟨Kd.F_step (Kd.F_alloc HF.out (.cells #[.int .u8 97] 5)) (fun q hq hl => H9.out.2.1.2 q hl (fun e => e.elim (HOK.out q hq).1 (HOK.out q hq).2))⟩, ⟨below_kept (below_alloc HBr.out (.cells #[.int .u8 97] 5)) H9.out.2.1 HPM.out.1 HPM.out.2⟩⟩
    · by_cases hik0 : 2 < k
      · have hik : decide ((2 : Int) < (k : Int)) = true := decide_eq_true (by omega)
        go_wp2_with (go_at_call 16; fail)
        refine ((syncdir_g HD.out.1 HD.out.2 (by omega) (show stepF (eT k b 2) syncdir1 = (eT k b 3, 0) from by rw [eT_le b (show 2 ≤ k by omega), eT_le b (show 2 + 1 ≤ k by omega)]; exact es2 b (by omega))).mono (fun _ _ h => h.take)).mono ?_
        rintro e w9 ⟨rfl, H9⟩
        go_wp2_with fail
        go_roundg (gk - 1)
        case measure => have := HK.out; omega
        case rel => exact ⟨2 + 1, tk + 1, _, by first | rfl | (simp; omega) | simp, by first | rfl | simp, ⟨by have := HK.out; omega⟩, ⟨⟨by have := HL.out.1; omega, by omega⟩⟩, ⟨⟨H9.out.1, H9.out.2.2⟩⟩, ⟨Kd.F_step HF.out (fun q hq hl => H9.out.2.1.2 q hl (fun e => e.elim (HOK.out q hq).1 (HOK.out q hq).2))⟩, ⟨below_kept HBr.out H9.out.2.1 HPM.out.1 HPM.out.2⟩⟩
      · have hik : decide ((2 : Int) < (k : Int)) = false := decide_eq_false (by omega)
        go_wp2_with (go_at_call 16; fail)
        refine ((syncdir_g HD.out.1 HD.out.2 (by omega) (show stepF (eT k b 2) syncdir1 = (eT k b 3, 34) from by rw [← eT_dead b (show k ≤ 2 by omega)]; exact stepF_end (eT_ended b hk10 (by omega)))).mono (fun _ _ h => h.take)).mono ?_
        rintro e w9 ⟨rfl, H9⟩
        go_wp2_with fail
        go_roundg (gk - 1)
        case measure => have := HK.out; omega
        case rel => exact ⟨2 + 1, tk, _, by first | rfl | (simp; omega) | simp, by first | rfl | simp, ⟨by have := HK.out; omega⟩, ⟨⟨by have := HL.out.1; omega, by omega⟩⟩, ⟨⟨H9.out.1, H9.out.2.2⟩⟩, ⟨Kd.F_step HF.out (fun q hq hl => H9.out.2.1.2 q hl (fun e => e.elim (HOK.out q hq).1 (HOK.out q hq).2))⟩, ⟨below_kept HBr.out H9.out.2.1 HPM.out.1 HPM.out.2⟩⟩
    · by_cases hik0 : 3 < k
      · have hik : decide ((3 : Int) < (k : Int)) = true := decide_eq_true (by omega)
        have hcv := one_byte wr 100 ⟨#[100]⟩ (by kernel_rfl)
        have hcat : (⟨#[102]⟩ : ByteArray) ++ ⟨#[100]⟩ = ⟨#[102, 100]⟩ := cat2 102 100 _ _ _ (by kernel_rfl) (by kernel_rfl) (by kernel_rfl)
        go_wp2_with (go_at_call 13; fail)
        refine ((create_g (HD.out.1.below (below_alloc (Below.refl _ _) _)) HD.out.2 (by omega) fd (show stepF (eT k b 3) (create1 · fd) = (eT k b 4, 0) from by rw [eT_le b (show 3 ≤ k by omega), eT_le b (show 3 + 1 ≤ k by omega)]; exact es3 b (by omega))).mono (fun _ _ h => h.take)).mono ?_
        rintro e w9 ⟨rfl, H9⟩
        clear hcv hcat
        go_wp2_with fail
        go_roundg (gk - 1)
        case measure => have := HK.out; omega
        case rel => exact ⟨3 + 1, tk + 1, _, by first | rfl | (simp; omega) | simp, by first | rfl | simp, ⟨by have := HK.out; omega⟩, ⟨⟨by have := HL.out.1; omega, by omega⟩⟩, ⟨⟨H9.out.1, H9.out.2.2⟩⟩, ⟨Kd.F_step (Kd.F_alloc HF.out (.cells #[.int .u8 100] 5)) (fun q hq hl => H9.out.2.1.2 q hl (fun e => e.elim (HOK.out q hq).1 (HOK.out q hq).2))⟩, ⟨below_kept (below_alloc HBr.out (.cells #[.int .u8 100] 5)) H9.out.2.1 HPM.out.1 HPM.out.2⟩⟩
      · have hik : decide ((3 : Int) < (k : Int)) = false := decide_eq_false (by omega)
        have hcv := one_byte wr 100 ⟨#[100]⟩ (by kernel_rfl)
        have hcat : (⟨#[102]⟩ : ByteArray) ++ ⟨#[100]⟩ = ⟨#[102, 100]⟩ := cat2 102 100 _ _ _ (by kernel_rfl) (by kernel_rfl) (by kernel_rfl)
        go_wp2_with (go_at_call 13; fail)
        refine ((create_g (HD.out.1.below (below_alloc (Below.refl _ _) _)) HD.out.2 (by omega) fd (show stepF (eT k b 3) (create1 · fd) = (eT k b 4, 34) from by rw [← eT_dead b (show k ≤ 3 by omega)]; exact stepF_end (eT_ended b hk10 (by omega)))).mono (fun _ _ h => h.take)).mono ?_
        rintro e w9 ⟨rfl, H9⟩
        clear hcv hcat
        go_wp2_with fail
        go_roundg (gk - 1)
        case measure => have := HK.out; omega
        case rel => exact ⟨3 + 1, tk, _, by first | rfl | (simp; omega) | simp, by first | rfl | simp, ⟨by have := HK.out; omega⟩, ⟨⟨by have := HL.out.1; omega, by omega⟩⟩, ⟨⟨H9.out.1, H9.out.2.2⟩⟩, ⟨Kd.F_step (Kd.F_alloc HF.out (.cells #[.int .u8 100] 5)) (fun q hq hl => H9.out.2.1.2 q hl (fun e => e.elim (HOK.out q hq).1 (HOK.out q hq).2))⟩, ⟨below_kept (below_alloc HBr.out (.cells #[.int .u8 100] 5)) H9.out.2.1 HPM.out.1 HPM.out.2⟩⟩
    · by_cases hik0 : 4 < k
      · have hik : decide ((4 : Int) < (k : Int)) = true := decide_eq_true (by omega)
        have hcv := one_byte wr 100 ⟨#[100]⟩ (by kernel_rfl)
        have hcat : (⟨#[102]⟩ : ByteArray) ++ ⟨#[100]⟩ = ⟨#[102, 100]⟩ := cat2 102 100 _ _ _ (by kernel_rfl) (by kernel_rfl) (by kernel_rfl)
        go_wp2_with (go_at_call 14; fail)
        refine ((append_g (HD.out.1.below (below_alloc (Below.refl _ _) _)) HD.out.2 (by omega) fd b A c _ (Kd.F_alloc HF.out (.cells #[.int .u8 100] 5)) HOK.out HC.out.1 (by omega) (show append1 (eT k b 4) fd b = (eT k b 5, 0) from by rw [eT_le b (show 4 ≤ k by omega), eT_le b (show 4 + 1 ≤ k by omega)]; exact es4 b hbl (by omega))).mono (fun _ _ h => h.take)).mono ?_
        rintro e w9 ⟨rfl, H9⟩
        clear hcv hcat
        go_wp2_with fail
        go_roundg (gk - 1)
        case measure => have := HK.out; omega
        case rel => exact ⟨4 + 1, tk + 1, _, by first | rfl | (simp; omega) | simp, by first | rfl | simp, ⟨by have := HK.out; omega⟩, ⟨⟨by have := HL.out.1; omega, by omega⟩⟩, ⟨⟨H9.out.1, H9.out.2.2⟩⟩, ⟨Kd.F_step (Kd.F_alloc HF.out (.cells #[.int .u8 100] 5)) (fun q hq hl => H9.out.2.1.2 q hl (fun e => e.elim (HOK.out q hq).1 (HOK.out q hq).2))⟩, ⟨below_kept (below_alloc HBr.out (.cells #[.int .u8 100] 5)) H9.out.2.1 HPM.out.1 HPM.out.2⟩⟩
      · have hik : decide ((4 : Int) < (k : Int)) = false := decide_eq_false (by omega)
        have hcv := one_byte wr 100 ⟨#[100]⟩ (by kernel_rfl)
        have hcat : (⟨#[102]⟩ : ByteArray) ++ ⟨#[100]⟩ = ⟨#[102, 100]⟩ := cat2 102 100 _ _ _ (by kernel_rfl) (by kernel_rfl) (by kernel_rfl)
        go_wp2_with (go_at_call 14; fail)
        refine ((append_g (HD.out.1.below (below_alloc (Below.refl _ _) _)) HD.out.2 (by omega) fd b A c _ (Kd.F_alloc HF.out (.cells #[.int .u8 100] 5)) HOK.out HC.out.1 (by omega) (show append1 (eT k b 4) fd b = (eT k b 5, 34) from by rw [← eT_dead b (show k ≤ 4 by omega)]; exact append1_end (eT_ended b hk10 (by omega)))).mono (fun _ _ h => h.take)).mono ?_
        rintro e w9 ⟨rfl, H9⟩
        clear hcv hcat
        go_wp2_with fail
        go_roundg (gk - 1)
        case measure => have := HK.out; omega
        case rel => exact ⟨4 + 1, tk, _, by first | rfl | (simp; omega) | simp, by first | rfl | simp, ⟨by have := HK.out; omega⟩, ⟨⟨by have := HL.out.1; omega, by omega⟩⟩, ⟨⟨H9.out.1, H9.out.2.2⟩⟩, ⟨Kd.F_step (Kd.F_alloc HF.out (.cells #[.int .u8 100] 5)) (fun q hq hl => H9.out.2.1.2 q hl (fun e => e.elim (HOK.out q hq).1 (HOK.out q hq).2))⟩, ⟨below_kept (below_alloc HBr.out (.cells #[.int .u8 100] 5)) H9.out.2.1 HPM.out.1 HPM.out.2⟩⟩
    · by_cases hik0 : 5 < k
      · have hik : decide ((5 : Int) < (k : Int)) = true := decide_eq_true (by omega)
        go_wp2_with (go_at_call 16; fail)
        refine ((syncdir_g HD.out.1 HD.out.2 (by omega) (show stepF (eT k b 5) syncdir1 = (eT k b 6, 0) from by rw [eT_le b (show 5 ≤ k by omega), eT_le b (show 5 + 1 ≤ k by omega)]; exact es5 b (by omega))).mono (fun _ _ h => h.take)).mono ?_
        rintro e w9 ⟨rfl, H9⟩
        go_wp2_with fail
        go_roundg (gk - 1)
        case measure => have := HK.out; omega
        case rel => exact ⟨5 + 1, tk + 1, _, by first | rfl | (simp; omega) | simp, by first | rfl | simp, ⟨by have := HK.out; omega⟩, ⟨⟨by have := HL.out.1; omega, by omega⟩⟩, ⟨⟨H9.out.1, H9.out.2.2⟩⟩, ⟨Kd.F_step HF.out (fun q hq hl => H9.out.2.1.2 q hl (fun e => e.elim (HOK.out q hq).1 (HOK.out q hq).2))⟩, ⟨below_kept HBr.out H9.out.2.1 HPM.out.1 HPM.out.2⟩⟩
      · have hik : decide ((5 : Int) < (k : Int)) = false := decide_eq_false (by omega)
        go_wp2_with (go_at_call 16; fail)
        refine ((syncdir_g HD.out.1 HD.out.2 (by omega) (show stepF (eT k b 5) syncdir1 = (eT k b 6, 34) from by rw [← eT_dead b (show k ≤ 5 by omega)]; exact stepF_end (eT_ended b hk10 (by omega)))).mono (fun _ _ h => h.take)).mono ?_
        rintro e w9 ⟨rfl, H9⟩
        go_wp2_with fail
        go_roundg (gk - 1)
        case measure => have := HK.out; omega
        case rel => exact ⟨5 + 1, tk, _, by first | rfl | (simp; omega) | simp, by first | rfl | simp, ⟨by have := HK.out; omega⟩, ⟨⟨by have := HL.out.1; omega, by omega⟩⟩, ⟨⟨H9.out.1, H9.out.2.2⟩⟩, ⟨Kd.F_step HF.out (fun q hq hl => H9.out.2.1.2 q hl (fun e => e.elim (HOK.out q hq).1 (HOK.out q hq).2))⟩, ⟨below_kept HBr.out H9.out.2.1 HPM.out.1 HPM.out.2⟩⟩
    · by_cases hik0 : 6 < k
      · have hik : decide ((6 : Int) < (k : Int)) = true := decide_eq_true (by omega)
        have hcv := one_byte wr 103 ⟨#[103]⟩ (by kernel_rfl)
        have hcat : (⟨#[102]⟩ : ByteArray) ++ ⟨#[103]⟩ = ⟨#[102, 103]⟩ := cat2 102 103 _ _ _ (by kernel_rfl) (by kernel_rfl) (by kernel_rfl)
        go_wp2_with (go_at_call 13; fail)
        refine ((create_g (HD.out.1.below (below_alloc (Below.refl _ _) _)) HD.out.2 (by omega) fg (show stepF (eT k b 6) (create1 · fg) = (eT k b 7, 0) from by rw [eT_le b (show 6 ≤ k by omega), eT_le b (show 6 + 1 ≤ k by omega)]; exact es6 b (by omega))).mono (fun _ _ h => h.take)).mono ?_
        rintro e w9 ⟨rfl, H9⟩
        clear hcv hcat
        go_wp2_with fail
        go_roundg (gk - 1)
        case measure => have := HK.out; omega
        case rel => exact ⟨6 + 1, tk + 1, _, by first | rfl | (simp; omega) | simp, by first | rfl | simp, ⟨by have := HK.out; omega⟩, ⟨⟨by have := HL.out.1; omega, by omega⟩⟩, ⟨⟨H9.out.1, H9.out.2.2⟩⟩, ⟨Kd.F_step (Kd.F_alloc HF.out (.cells #[.int .u8 103] 5)) (fun q hq hl => H9.out.2.1.2 q hl (fun e => e.elim (HOK.out q hq).1 (HOK.out q hq).2))⟩, ⟨below_kept (below_alloc HBr.out (.cells #[.int .u8 103] 5)) H9.out.2.1 HPM.out.1 HPM.out.2⟩⟩
      · have hik : decide ((6 : Int) < (k : Int)) = false := decide_eq_false (by omega)
        have hcv := one_byte wr 103 ⟨#[103]⟩ (by kernel_rfl)
        have hcat : (⟨#[102]⟩ : ByteArray) ++ ⟨#[103]⟩ = ⟨#[102, 103]⟩ := cat2 102 103 _ _ _ (by kernel_rfl) (by kernel_rfl) (by kernel_rfl)
        go_wp2_with (go_at_call 13; fail)
        refine ((create_g (HD.out.1.below (below_alloc (Below.refl _ _) _)) HD.out.2 (by omega) fg (show stepF (eT k b 6) (create1 · fg) = (eT k b 7, 34) from by rw [← eT_dead b (show k ≤ 6 by omega)]; exact stepF_end (eT_ended b hk10 (by omega)))).mono (fun _ _ h => h.take)).mono ?_
        rintro e w9 ⟨rfl, H9⟩
        clear hcv hcat
        go_wp2_with fail
        go_roundg (gk - 1)
        case measure => have := HK.out; omega
        case rel => exact ⟨6 + 1, tk, _, by first | rfl | (simp; omega) | simp, by first | rfl | simp, ⟨by have := HK.out; omega⟩, ⟨⟨by have := HL.out.1; omega, by omega⟩⟩, ⟨⟨H9.out.1, H9.out.2.2⟩⟩, ⟨Kd.F_step (Kd.F_alloc HF.out (.cells #[.int .u8 103] 5)) (fun q hq hl => H9.out.2.1.2 q hl (fun e => e.elim (HOK.out q hq).1 (HOK.out q hq).2))⟩, ⟨below_kept (below_alloc HBr.out (.cells #[.int .u8 103] 5)) H9.out.2.1 HPM.out.1 HPM.out.2⟩⟩
    · by_cases hik0 : 7 < k
      · have hik : decide ((7 : Int) < (k : Int)) = true := decide_eq_true (by omega)
        have hcv := one_byte wr 103 ⟨#[103]⟩ (by kernel_rfl)
        have hcat : (⟨#[102]⟩ : ByteArray) ++ ⟨#[103]⟩ = ⟨#[102, 103]⟩ := cat2 102 103 _ _ _ (by kernel_rfl) (by kernel_rfl) (by kernel_rfl)
        go_wp2_with (go_at_call 14; fail)
        refine ((append_g (HD.out.1.below (below_alloc (Below.refl _ _) _)) HD.out.2 (by omega) fg b A c _ (Kd.F_alloc HF.out (.cells #[.int .u8 103] 5)) HOK.out HC.out.1 (by omega) (show append1 (eT k b 7) fg b = (eT k b 8, 0) from by rw [eT_le b (show 7 ≤ k by omega), eT_le b (show 7 + 1 ≤ k by omega)]; exact es7 b hbl (by omega))).mono (fun _ _ h => h.take)).mono ?_
        rintro e w9 ⟨rfl, H9⟩
        clear hcv hcat
        go_wp2_with fail
        go_roundg (gk - 1)
        case measure => have := HK.out; omega
        case rel => exact ⟨7 + 1, tk + 1, _, by first | rfl | (simp; omega) | simp, by first | rfl | simp, ⟨by have := HK.out; omega⟩, ⟨⟨by have := HL.out.1; omega, by omega⟩⟩, ⟨⟨H9.out.1, H9.out.2.2⟩⟩, ⟨Kd.F_step (Kd.F_alloc HF.out (.cells #[.int .u8 103] 5)) (fun q hq hl => H9.out.2.1.2 q hl (fun e => e.elim (HOK.out q hq).1 (HOK.out q hq).2))⟩, ⟨below_kept (below_alloc HBr.out (.cells #[.int .u8 103] 5)) H9.out.2.1 HPM.out.1 HPM.out.2⟩⟩
      · have hik : decide ((7 : Int) < (k : Int)) = false := decide_eq_false (by omega)
        have hcv := one_byte wr 103 ⟨#[103]⟩ (by kernel_rfl)
        have hcat : (⟨#[102]⟩ : ByteArray) ++ ⟨#[103]⟩ = ⟨#[102, 103]⟩ := cat2 102 103 _ _ _ (by kernel_rfl) (by kernel_rfl) (by kernel_rfl)
        go_wp2_with (go_at_call 14; fail)
        refine ((append_g (HD.out.1.below (below_alloc (Below.refl _ _) _)) HD.out.2 (by omega) fg b A c _ (Kd.F_alloc HF.out (.cells #[.int .u8 103] 5)) HOK.out HC.out.1 (by omega) (show append1 (eT k b 7) fg b = (eT k b 8, 34) from by rw [← eT_dead b (show k ≤ 7 by omega)]; exact append1_end (eT_ended b hk10 (by omega)))).mono (fun _ _ h => h.take)).mono ?_
        rintro e w9 ⟨rfl, H9⟩
        clear hcv hcat
        go_wp2_with fail
        go_roundg (gk - 1)
        case measure => have := HK.out; omega
        case rel => exact ⟨7 + 1, tk, _, by first | rfl | (simp; omega) | simp, by first | rfl | simp, ⟨by have := HK.out; omega⟩, ⟨⟨by have := HL.out.1; omega, by omega⟩⟩, ⟨⟨H9.out.1, H9.out.2.2⟩⟩, ⟨Kd.F_step (Kd.F_alloc HF.out (.cells #[.int .u8 103] 5)) (fun q hq hl => H9.out.2.1.2 q hl (fun e => e.elim (HOK.out q hq).1 (HOK.out q hq).2))⟩, ⟨below_kept (below_alloc HBr.out (.cells #[.int .u8 103] 5)) H9.out.2.1 HPM.out.1 HPM.out.2⟩⟩
    · by_cases hik0 : 8 < k
      · have hik : decide ((8 : Int) < (k : Int)) = true := decide_eq_true (by omega)
        go_wp2_with (go_at_call 16; fail)
        refine ((syncdir_g HD.out.1 HD.out.2 (by omega) (show stepF (eT k b 8) syncdir1 = (eT k b 9, 0) from by rw [eT_le b (show 8 ≤ k by omega), eT_le b (show 8 + 1 ≤ k by omega)]; exact es8 b (by omega))).mono (fun _ _ h => h.take)).mono ?_
        rintro e w9 ⟨rfl, H9⟩
        go_wp2_with fail
        go_roundg (gk - 1)
        case measure => have := HK.out; omega
        case rel => exact ⟨8 + 1, tk + 1, _, by first | rfl | (simp; omega) | simp, by first | rfl | simp, ⟨by have := HK.out; omega⟩, ⟨⟨by have := HL.out.1; omega, by omega⟩⟩, ⟨⟨H9.out.1, H9.out.2.2⟩⟩, ⟨Kd.F_step HF.out (fun q hq hl => H9.out.2.1.2 q hl (fun e => e.elim (HOK.out q hq).1 (HOK.out q hq).2))⟩, ⟨below_kept HBr.out H9.out.2.1 HPM.out.1 HPM.out.2⟩⟩
      · have hik : decide ((8 : Int) < (k : Int)) = false := decide_eq_false (by omega)
        go_wp2_with (go_at_call 16; fail)
        refine ((syncdir_g HD.out.1 HD.out.2 (by omega) (show stepF (eT k b 8) syncdir1 = (eT k b 9, 34) from by rw [← eT_dead b (show k ≤ 8 by omega)]; exact stepF_end (eT_ended b hk10 (by omega)))).mono (fun _ _ h => h.take)).mono ?_
        rintro e w9 ⟨rfl, H9⟩
        go_wp2_with fail
        go_roundg (gk - 1)
        case measure => have := HK.out; omega
        case rel => exact ⟨8 + 1, tk, _, by first | rfl | (simp; omega) | simp, by first | rfl | simp, ⟨by have := HK.out; omega⟩, ⟨⟨by have := HL.out.1; omega, by omega⟩⟩, ⟨⟨H9.out.1, H9.out.2.2⟩⟩, ⟨Kd.F_step HF.out (fun q hq hl => H9.out.2.1.2 q hl (fun e => e.elim (HOK.out q hq).1 (HOK.out q hq).2))⟩, ⟨below_kept HBr.out H9.out.2.1 HPM.out.1 HPM.out.2⟩⟩
    · by_cases hik0 : 9 < k
      · have hik : decide ((9 : Int) < (k : Int)) = true := decide_eq_true (by omega)
        have hcv := one_byte wr 106 ⟨#[106]⟩ (by kernel_rfl)
        have hcat : (⟨#[102]⟩ : ByteArray) ++ ⟨#[106]⟩ = ⟨#[102, 106]⟩ := cat2 102 106 _ _ _ (by kernel_rfl) (by kernel_rfl) (by kernel_rfl)
        go_wp2_with (go_at_call 13; fail)
        refine ((create_g (HD.out.1.below (below_alloc (Below.refl _ _) _)) HD.out.2 (by omega) fj (show stepF (eT k b 9) (create1 · fj) = (eT k b 10, 0) from by rw [eT_le b (show 9 ≤ k by omega), eT_le b (show 9 + 1 ≤ k by omega)]; exact es9 b (by omega))).mono (fun _ _ h => h.take)).mono ?_
        rintro e w9 ⟨rfl, H9⟩
        clear hcv hcat
        go_wp2_with fail
        go_roundg (gk - 1)
        case measure => have := HK.out; omega
        case rel => exact ⟨9 + 1, tk + 1, _, by first | rfl | (simp; omega) | simp, by first | rfl | simp, ⟨by have := HK.out; omega⟩, ⟨⟨by have := HL.out.1; omega, by omega⟩⟩, ⟨⟨H9.out.1, H9.out.2.2⟩⟩, ⟨Kd.F_step (Kd.F_alloc HF.out (.cells #[.int .u8 106] 5)) (fun q hq hl => H9.out.2.1.2 q hl (fun e => e.elim (HOK.out q hq).1 (HOK.out q hq).2))⟩, ⟨below_kept (below_alloc HBr.out (.cells #[.int .u8 106] 5)) H9.out.2.1 HPM.out.1 HPM.out.2⟩⟩
      · have hik : decide ((9 : Int) < (k : Int)) = false := decide_eq_false (by omega)
        have hcv := one_byte wr 106 ⟨#[106]⟩ (by kernel_rfl)
        have hcat : (⟨#[102]⟩ : ByteArray) ++ ⟨#[106]⟩ = ⟨#[102, 106]⟩ := cat2 102 106 _ _ _ (by kernel_rfl) (by kernel_rfl) (by kernel_rfl)
        go_wp2_with (go_at_call 13; fail)
        refine ((create_g (HD.out.1.below (below_alloc (Below.refl _ _) _)) HD.out.2 (by omega) fj (show stepF (eT k b 9) (create1 · fj) = (eT k b 10, 34) from by rw [← eT_dead b (show k ≤ 9 by omega)]; exact stepF_end (eT_ended b hk10 (by omega)))).mono (fun _ _ h => h.take)).mono ?_
        rintro e w9 ⟨rfl, H9⟩
        clear hcv hcat
        go_wp2_with fail
        go_roundg (gk - 1)
        case measure => have := HK.out; omega
        case rel => exact ⟨9 + 1, tk, _, by first | rfl | (simp; omega) | simp, by first | rfl | simp, ⟨by have := HK.out; omega⟩, ⟨⟨by have := HL.out.1; omega, by omega⟩⟩, ⟨⟨H9.out.1, H9.out.2.2⟩⟩, ⟨Kd.F_step (Kd.F_alloc HF.out (.cells #[.int .u8 106] 5)) (fun q hq hl => H9.out.2.1.2 q hl (fun e => e.elim (HOK.out q hq).1 (HOK.out q hq).2))⟩, ⟨below_kept (below_alloc HBr.out (.cells #[.int .u8 106] 5)) H9.out.2.1 HPM.out.1 HPM.out.2⟩⟩
    · have hik : decide ((10 : Int) < (k : Int)) = false := decide_eq_false (by omega)
      have hcv := one_byte wr 106 ⟨#[106]⟩ (by kernel_rfl)
      have hcat : (⟨#[102]⟩ : ByteArray) ++ ⟨#[106]⟩ = ⟨#[102, 106]⟩ := cat2 102 106 _ _ _ (by kernel_rfl) (by kernel_rfl) (by kernel_rfl)
      go_wp2_with (go_at_call 14; fail)
      refine ((append_g (HD.out.1.below (below_alloc (Below.refl _ _) _)) HD.out.2 (by omega) fj b A c _ (Kd.F_alloc HF.out (.cells #[.int .u8 106] 5)) HOK.out HC.out.1 (by omega) (show append1 (eT k b 10) fj b = (eT k b 11, 34) from by rw [← eT_dead b (show k ≤ 10 by omega)]; exact append1_end (eT_ended b hk10 (by omega)))).mono (fun _ _ h => h.take)).mono ?_
      rintro e w9 ⟨rfl, H9⟩
      clear hcv hcat
      go_wp2_with fail
      go_roundg (gk - 1)
      case measure => have := HK.out; omega
      case rel => exact ⟨10 + 1, tk, _, by first | rfl | (simp; omega) | simp, by first | rfl | simp, ⟨by have := HK.out; omega⟩, ⟨⟨by have := HL.out.1; omega, by omega⟩⟩, ⟨⟨H9.out.1, H9.out.2.2⟩⟩, ⟨Kd.F_step (Kd.F_alloc HF.out (.cells #[.int .u8 106] 5)) (fun q hq hl => H9.out.2.1.2 q hl (fun e => e.elim (HOK.out q hq).1 (HOK.out q hq).2))⟩, ⟨below_kept (below_alloc HBr.out (.cells #[.int .u8 106] 5)) H9.out.2.1 HPM.out.1 HPM.out.2⟩⟩
    · have hik : decide ((11 : Int) < (k : Int)) = false := decide_eq_false (by omega)
      go_wp2_with (go_at_call 16; fail)
      refine ((syncdir_g HD.out.1 HD.out.2 (by omega) (show stepF (eT k b 11) syncdir1 = (eT k b 12, 34) from by rw [← eT_dead b (show k ≤ 11 by omega)]; exact stepF_end (eT_ended b hk10 (by omega)))).mono (fun _ _ h => h.take)).mono ?_
      rintro e w9 ⟨rfl, H9⟩
      go_wp2_with fail
      go_roundg (gk - 1)
      case measure => have := HK.out; omega
      case rel => exact ⟨11 + 1, tk, _, by first | rfl | (simp; omega) | simp, by first | rfl | simp, ⟨by have := HK.out; omega⟩, ⟨⟨by have := HL.out.1; omega, by omega⟩⟩, ⟨⟨H9.out.1, H9.out.2.2⟩⟩, ⟨Kd.F_step HF.out (fun q hq hl => H9.out.2.1.2 q hl (fun e => e.elim (HOK.out q hq).1 (HOK.out q hq).2))⟩, ⟨below_kept HBr.out H9.out.2.1 HPM.out.1 HPM.out.2⟩⟩
    · obtain rfl : tk = k := by have := HL.out.1; omega
      clear HF
      go_wp2_with (go_at_call 21; fail)
      refine (limit_g HD.out.1 HD.out.2 100 (show _ = eZ tk b from by rw [show max (100 : Int) 0 = 100 by omega]; exact eZ_eq b hk10)).mono ?_
      rintro e w1 ⟨rfl, H1⟩
      go_wp2_with (go_at_call 16; fail)
      refine ((syncdir_g H1.out.1 H1.out.2.2 (by omega) (eZ_sync tk b)).mono (fun _ _ h => h.take)).mono ?_
      rintro e w2 ⟨rfl, H2⟩
      have HB2 := Aside0.mk (below_kept (below_kept HBr.out H1.out.2.1 HPM.out.1 HPM.out.2) H2.out.2.1 HPM.out.1 HPM.out.2)
      go_wp2_with (go_at_call 18; fail)
      refine (read_g H2.out.1 H2.out.2.2 (by omega) fa (eZ_read tk b)).mono ?_
      rintro e w3 ⟨Ar, cr, rfl, hcr, hF, hb⟩
      have H3 := Aside0.mk hb
      clear hF hb
      go_wp2_with (go_at_call 17; fail)
      obtain ⟨X, hX⟩ : ∃ X, crash (eZ tk b) 9 [a2] = X := ⟨_, rfl⟩
      have HX := Aside0.mk hX
      have hti := ints_C (l := [a2]) (blk_new w3 (.cells #[.int .i64 a2] 3)) rfl (by simp)
      refine (crash_g ((H2.out.1.below H3.out).below (below_alloc (Below.refl _ _) _)) H2.out.2.2 (by omega) 9 [a2] _ 1 hti (by simp) (by simp) hX).mono ?_
      rintro e w4 ⟨px, mx, rfl, hD, hb⟩
      have H4 := Aside0.mk (And.intro hD (below_step (below_alloc (Below.refl w3.heap.size w3) (.cells #[.int .i64 a2] 3)) hb))
      clear hD hb hX hti
      obtain ⟨L, hL⟩ : ∃ L, namesOf X.names = L := ⟨_, rfl⟩
      have hLl : (L.length : Int) = ((tk : Int) + 2) / 3 := by rw [← hL, ← HX.out, eZ_names b [a2] hk10]; omega
      obtain ⟨u1, hu1⟩ : ∃ u, used X = u := ⟨_, rfl⟩
      obtain ⟨u2, hu2⟩ : ∃ u, used (eZ tk b) = u := ⟨_, rfl⟩
      have hle : decide (u1 ≤ u2) = true := decide_eq_true (by rw [← hu1, ← hu2, ← HX.out]; exact eZ_used b [a2] hk10)
      obtain ⟨X', hX'⟩ : ∃ X', stepF X syncdir1 = (X', 0) := by rw [← HX.out]; exact crash_live _ _ _
      have HU := Aside0.mk (And.intro hL (And.intro hu1 (And.intro hu2 hX')))
      clear hL hu1 hu2 hX'
      have H2d := Aside0.mk ((H2.out.1.below H3.out).below H4.out.2)
      have hw2 : IntKind.i64.wrap ((tk : Int) + 2) = (tk : Int) + 2 := i64w (by omega) (by omega)
      go_wp2_with (go_at_call 19; fail)
      have hS : Calls Try.prog 19 #[.pointer (some ⟨p, 0, none⟩)] w4 fun e w' => e = .returned (.int .i64 (tk : Int)) ∧ w' = w4 := by
        have := steps_any H2d.out
        rwa [show (eZ tk b).steps = (tk : Int) from eS_steps tk hk10 _ _] at this
      refine hS.mono ?_
      rintro e w4' ⟨rfl, rfl⟩
      clear hS
      go_wp2_with (go_at_call 20; fail)
      refine (names_g H4.out.1.hd H4.out.1.g HU.out.1).mono ?_
      rintro e w5 ⟨An, cn, rfl, hcn, hRn, hb⟩
      have H5 := Aside0.mk hb
      clear hRn hb hcn
      go_wp2_with (go_at_call 22; fail)
      refine (used_g (H4.out.1.kept (Kept.of_below H5.out (fun _ => False)) (fun q hq => hq.elim)).hd H4.out.1.g (by omega) HU.out.2.1).mono ?_
      rintro e w6 ⟨rfl, hb⟩
      have H6 := Aside0.mk hb
      clear hb
      go_wp2_with (go_at_call 22; fail)
      refine (used_g ((H2d.out.below H5.out).below H6.out) H2.out.2.2 (by omega) HU.out.2.2.1).mono ?_
      rintro e w7 ⟨rfl, hb⟩
      have H7 := Aside0.mk hb
      clear hb
      go_wp2_with (go_at_call 16; fail)
      refine ((syncdir_g (((H4.out.1.kept (Kept.of_below H5.out (fun _ => False)) (fun q hq => hq.elim)).kept (Kept.of_below H6.out (fun _ => False)) (fun q hq => hq.elim)).kept (Kept.of_below H7.out (fun _ => False)) (fun q hq => hq.elim)).far H4.out.1.g (by omega) HU.out.2.2.2).mono (fun _ _ h => h.take)).mono ?_
      rintro e w8 ⟨rfl, H8⟩
      go_wp2_with fail
      go_ret
      refine ⟨by simp, ?_⟩
      have k3 := HB2.out.trans (H3.out.mono HB2.out.size)
      have k4 := k3.trans (H4.out.2.mono k3.size)
      have k5 := k4.trans (H5.out.mono k4.size)
      have k6 := k5.trans (H6.out.mono k5.size)
      have k7 := k6.trans (H7.out.mono k6.size)
      have hpx := H4.out.1.hp
      have hmx := H4.out.1.hm
      have hs3 := k3.size
      rw [World.size_alloc] at hpx hmx
      exact below_kept k7 H8.out.2.1 (by omega) (by omega)
end Go.Proofs.Ytfbpplgpmgnmjaa.P

/- DiskEnds: the walk, as its row wants it. -/
namespace Go.Proofs.Ytfbpplgpmgnmjaa.P
open Go.RowKit Go.Proofs.YtfbpplgpmgnmjaaW.PrintWords Go.Proofs.YtfbpplgpmgnmjaaW.PrintLast Go.Proofs.YtfbpplgpmgnmjaaW.PrintMore
set_option linter.unusedVariables false
def thresherlaw08_DiskEnds.g (a0 : Int) (l1 : List Int) (a2 : Int) : Prop := 0 ≤ a0 ∧ a0 ≤ 255
theorem u8_bnd {a : Int} (h : (Lit.int .u8 a).wf = true) : 0 ≤ a ∧ a ≤ 255 := by
  simp [Lit.wf, IntKind.min, IntKind.max, IntKind.signed, IntKind.bits] at h
  omega
theorem thresherlaw08_DiskEnds.calls (a0 : Int) (A1 : Option Addr) (c1 : Nat) (l1 : List Int) (a2 : Int) (r : Bool) (w : World) (hr1 : Kd.C (Kd.int .u8) w A1 l1.length l1) (hc1 : l1.length ≤ c1) (h : thresherlaw08_DiskEnds.g a0 l1 a2) :
    Calls Try.prog 4 #[.int .u8 a0, .slice A1 l1.length c1, .int .i64 a2] w fun e w' => e = .returned (.bool true) ∧ Below w.heap.size w w' :=
  ends_go a0 A1 c1 l1 a2 w hr1 hc1 h.1 h.2
end Go.Proofs.Ytfbpplgpmgnmjaa.P

-- Written by wip/tools/myprint.py: the plain statement of DiskEnds.
namespace Go.Proofs.Ytfbpplgpmgnmjaa.P
open Go.RowKit Go.Proofs.YtfbpplgpmgnmjaaW.PrintWords
def thresherlaw08_DiskEnds.PureG : Prop := ∀ (x0 : Int) (x1 : List Int) (x2 : Int), (Lit.int .u8 x0).wf = true → (x1.length ≤ maxLen ∧ ∀ a ∈ x1, (Lit.int .u8 a).wf = true) → (Lit.int .i64 x2).wf = true → thresherlaw08_DiskEnds.g x0 x1 x2
end Go.Proofs.Ytfbpplgpmgnmjaa.P

/- DiskEnds: what is known of the arguments. -/
namespace Go.Proofs.Ytfbpplgpmgnmjaa.Pure
open Go.RowKit Go.Proofs.Ytfbpplgpmgnmjaa.P Go.Proofs.YtfbpplgpmgnmjaaW.PrintWords
theorem DiskEnds : thresherlaw08_DiskEnds.PureG := fun _ _ _ h _ _ => u8_bnd h
end Go.Proofs.Ytfbpplgpmgnmjaa.Pure

-- Written by wip/tools/myprint.py: the row of DiskEnds, out of its plain law and its walk.
namespace Go.Proofs.Ytfbpplgpmgnmjaa.diskEnds
open Go.ChangeShapes Go.WideShapes Go.ChangeAt Go.RowKit Go.Proofs.Ytfbpplgpmgnmjaa.P Go.Proofs.YtfbpplgpmgnmjaaW.PrintWords
set_option linter.unusedVariables false
set_option linter.unusedSimpArgs false
theorem own : ownKnob Try.prog.godebug = none := by kernel_rfl
theorem laidOut : laidOutB Try.prog = true := by kernel_rfl
set_option maxRecDepth 100000 in
theorem lifted (os : Os) (started : os.Started) (H : Type) (enc : TypeId × Value → H) :
    ReturnsInHanded {} Try.checked os 4 .any (Rows.diskEndsSpec.pre6 enc Try.prog Try.f4 Rows.diskEndsRow.domain false) (Rows.diskEndsSpec.post enc Try.prog Try.f4 false true false false) := by
  refine returnsInHanded_of_change_sized (C := Try.checked) own started (by kernel_rfl) Try.func4
    (ChangeSpec.witness6 (enc := enc) (C := Try.checked) false ⟨#[], #[.int .u8 0, .slice none 0 0, .int .i64 0], []⟩ 8 (by kernel_rfl) (by kernel_rfl) (by kernel_rfl) (by kernel_rfl)) ?_
  intro W base args ds gs before hval0 hW hcnd hsz0 _
  have hval : ∀ (j : Nat) t v, Try.f4.params[j]? = some t → args[j]? = some v → Value.okWide Try.prog W .any base t v := hval0
  have hW' := hW
  obtain ⟨p, q, hA0, hV, rfl, hfz, hnd⟩ := hW
  have hA : DataW.TrodAll enc Try.prog W 0 (fun _ => true) true Try.f4.params.toList args.toList ds p := hA0
  rw [Try.params4] at hA hval
  obtain ⟨v0, vs0, d0, ds0, p0, q0, hargs, rfl, rfl, h0, r0⟩ := trodAll_cons hA
  obtain ⟨v1, vs1, d1, ds1, p1, q1, rfl, rfl, rfl, h1, r1⟩ := trodAll_cons r0
  obtain ⟨v2, vs2, d2, ds2, p2, q2, rfl, rfl, rfl, h2, r2⟩ := trodAll_cons r1
  obtain ⟨rfl, rfl, rfl⟩ := trodAll_nil r2
  obtain rfl : args = #[v0, v1, v2] := by cases args; simp_all
  obtain ⟨rfl, rfl⟩ := trodVars_none hV
  have lt0 : ∀ x ∈ p0, x.block < W.heap.size := by obtain ⟨m, hm⟩ := h0; exact DataW.trod_lt m _ _ _ hm
  obtain ⟨x0, K0, g0⟩ := ((opens_int Try.underlying5)).arg h0
  obtain ⟨b0, rfl⟩ := okWide_int Try.underlying5 (hval 0 5 v0 rfl rfl)
  have e0 : b0 = x0 := by simpa [Value.cells, Kd.int, Kd.scalar] using K0
  subst e0
  have lt1 : ∀ x ∈ p1, x.block < W.heap.size := by obtain ⟨m, hm⟩ := h1; exact DataW.trod_lt m _ _ _ hm
  obtain ⟨x1, K1, g1⟩ := ((opens_slice Try.underlying22 (by kernel_rfl) (opens_int Try.underlying5))).arg h1
  obtain ⟨a1, len1, cap1, rfl⟩ := okWide_slice Try.underlying22 (hval 1 22 v1 rfl rfl)
  obtain ⟨A1, c1, e1, hl1, hr1⟩ := K1
  simp [Value.cells] at e1
  obtain ⟨rfl, rfl, rfl⟩ := e1
  have lt2 : ∀ x ∈ p2, x.block < W.heap.size := by obtain ⟨m, hm⟩ := h2; exact DataW.trod_lt m _ _ _ hm
  obtain ⟨x2, K2, g2⟩ := ((opens_int Try.underlying3)).arg h2
  obtain ⟨b2, rfl⟩ := okWide_int Try.underlying3 (hval 2 3 v2 rfl rfl)
  have e2 : b2 = x2 := by simpa [Value.cells, Kd.int, Kd.scalar] using K2
  subst e2
  have hk := Pure.DiskEnds b0 x1 b2 g0 g1 g2
  have call : Calls Try.prog 4 #[.int .u8 b0, .slice a1 x1.length cap1, .int .i64 b2] W fun e W' => e = .returned (.bool true) ∧ Below W.heap.size W W' := by
    refine (thresherlaw08_DiskEnds.calls _ _ _ _ _ true W hr1 hl1 hk).mono ?_
    rintro e w' ⟨rfl, hd⟩
    exact ⟨rfl, hd⟩
  refine call.mono fun e W' ⟨he, bel⟩ => ?_
  subst he
  exact ⟨_, rfl, _, _, _, [], _, [], hW', trodAll_mk1 (shut_bool Try.underlying4 _), (trodAll_cons_mk (Below.trod laidOut (by kernel_rfl) (of_decide_eq_true (by kernel_rfl)) h0 bel lt0) (trodAll_cons_mk (Below.trod laidOut (by kernel_rfl) (of_decide_eq_true (by kernel_rfl)) h1 bel lt1) (trodAll_cons_mk (Below.trod laidOut (by kernel_rfl) (of_decide_eq_true (by kernel_rfl)) h2 bel lt2) trodAll_mk0))), rfl, bel.frame _, fun h => by cases h⟩
theorem over : Rows.diskEndsRow.holds Try.pinned (OpenSpec.ofChange Rows.diskEndsSpec) :=
  OpenClaim.holds_of_wide 4 Try.f4 rfl rfl rfl rfl rfl rfl rfl ⟨rfl, rfl, rfl, rfl, rfl⟩ rfl rfl rfl rfl rfl (by kernel_rfl) Try.func4 (by kernel_rfl)
    (of_decide_eq_true (by kernel_rfl)) (by unfold Func.isWrapper; first | (rw [if_pos (by decide +kernel)]; kernel_rfl) | (rw [if_neg (by decide +kernel)]; exact ⟨rfl, rfl⟩))
    (fun os started H enc _ => lifted os started H enc)
theorem proved : Rows.DiskEndsSaid := over
#print axioms proved
end Go.Proofs.Ytfbpplgpmgnmjaa.diskEnds
namespace Go.Proofs.Ytfbpplgpmgnmjaa
/-- The row, under a short name, for the claim. -/
theorem diskEnds_holds : Rows.DiskEndsSaid := diskEnds.proved
end Go.Proofs.Ytfbpplgpmgnmjaa

