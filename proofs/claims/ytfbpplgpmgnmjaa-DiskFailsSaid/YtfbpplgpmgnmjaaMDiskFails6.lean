/- The row of DiskFails. Merged: HLFailsP, HLShw, HLFails1, HLFails2, HLFails3, HLFails4, HLDiskFails, SDiskFails, PureDiskFails, RDiskFails. -/
import Derived.Test.YtfbpplgpmgnmjaaQDiskFailsHLShown
import Derived.Test.YtfbpplgpmgnmjaaQDiskFailsHDskZ
import Derived.Lib.SlBytesConst
import Derived.Test.YtfbpplgpmgnmjaaPx2
import Derived.Test.YtfbpplgpmgnmjaaO
import Derived.Test.YtfbpplgpmgnmjaaRows
import Derived.WalkKit
import Derived.ProofKit
import Derived.OpenShut
import Derived.ShutString
import Derived.ChangeOld
import Derived.Below
import Derived.SizedLaws
/- DiskFails: the states of the disk. -/
namespace Go.Proofs.Ytfbpplgpmgnmjaa.P
open Go.RowKit Go.Proofs.YtfbpplgpmgnmjaaW.PrintWords Go.Proofs.YtfbpplgpmgnmjaaW.PrintLast Go.Proofs.YtfbpplgpmgnmjaaW.PrintMore
set_option linter.unusedVariables false
set_option linter.unusedSimpArgs false
theorem append1_go {d : DS} {s : ByteArray} {b : List Int} {i : Nat} (he : ended d = false) (hf : fault d = false) (ht : tget d.names s = some (i : Int)) (hq : used d + (b.length : Int) ≤ d.quota) : append1 d s b = ({ one d with files := growF d.files i b }, 0) := by
  have hu : used (one d) = used d := rfl
  unfold append1
  rw [if_neg (by rw [he]; simp), if_neg (by rw [hf]; simp)]
  unfold grow1
  rw [show (one d).names = d.names from rfl, ht]
  simp only [Int.toNat_natCast]
  rw [if_neg (show ¬ (one d).quota < used (one d) + (b.length : Int) from by rw [hu]; show ¬ d.quota < _; omega), List.take_length]
  rfl
theorem append1_bad {d : DS} {s : ByteArray} {b : List Int} {i : Nat} (he : ended d = false) (hf : fault d = true) (ht : tget d.names s = some (i : Int)) (hq : used d + (b.length : Int) ≤ d.quota) : append1 d s b = ({ one d with files := growF d.files i (b.take (b.length / 2)) }, 33) := by
  have hu : used (one d) = used d := rfl
  unfold append1
  rw [if_neg (by rw [he]; simp), if_pos hf]
  unfold grow1
  rw [show (one d).names = d.names from rfl, ht]
  simp only [Int.toNat_natCast]
  rw [if_neg (show ¬ (one d).quota < used (one d) + (b.length : Int) from by rw [hu]; show ¬ d.quota < _; omega)]
  rfl
theorem append1_full {d : DS} {s : ByteArray} {b : List Int} {i : Nat} (he : ended d = false) (hf : fault d = false) (ht : tget d.names s = some (i : Int)) (hq : d.quota < used d + (b.length : Int)) : append1 d s b = (one d, 32) := by
  have hu : used (one d) = used d := rfl
  unfold append1
  rw [if_neg (by rw [he]; simp), if_neg (by rw [hf]; simp)]
  unfold grow1
  rw [show (one d).names = d.names from rfl, ht]
  simp only
  rw [if_pos (show (one d).quota < used (one d) + (b.length : Int) from by rw [hu]; exact hq)]
def nf : ByteArray := ⟨#[102]⟩
def kf (n : Int) : List Int := [n, 9, n]
def c0f : DC := (noName, nf, 0)
-- which step fails: the first
def f10 : DS := ⟨1000, 0, [], [], [], [], kf 1, -1, false⟩
def f11 : DS := ⟨1000, 1, [], [], [], [], kf 1, -1, false⟩
def f12 : DS := ⟨1000, 2, [], [], [], [], kf 1, -1, false⟩
def f13 : DS := ⟨1000, 3, [], [], [], [], kf 1, -1, false⟩
def f14 : DS := ⟨1000, 4, [], [], [], [], kf 1, -1, false⟩
def fX0 : DS := ⟨1000, 0, [], [], [], [], [], -1, false⟩
theorem f10_eq : ({ DS.new 1000 with fails := kf 1 } : DS) = f10 := by kernel_rfl
theorem f11_eq : stepF f10 (create1 · nf) = (f11, 33) := by kernel_rfl
theorem f12_eq (b : List Int) : append1 f11 nf b = (f12, 30) := by kernel_rfl
theorem f13_eq : stepF f12 (sync1 · nf) = (f13, 30) := by kernel_rfl
theorem f14_eq : stepF f13 syncdir1 = (f14, 0) := by kernel_rfl
theorem f1X_eq : crash f14 0 [] = fX0 := by
  have h : leftNames f14 (leftN f14 0) = [] := by kernel_rfl
  rw [crash_of h, crashFiles_nil, crashNames_nil]
  rfl
theorem f1r_eq : read1 f14 nf = ([], 30) := by kernel_rfl
theorem f1x_eq : read1 fX0 nf = ([], 30) := by kernel_rfl
-- the second
def f20 : DS := ⟨1000, 0, [], [], [], [], kf 2, -1, false⟩
def f21 : DS := ⟨1000, 1, [([], 0)], [(nf, 0)], [], [c0f], kf 2, -1, false⟩
def f22 (b : List Int) : DS := ⟨1000, 2, [(b, 0)], [(nf, 0)], [], [c0f], kf 2, -1, false⟩
def f23 (b : List Int) : DS := ⟨1000, 3, [(b, b.length)], [(nf, 0)], [], [c0f], kf 2, -1, false⟩
def f24 (b : List Int) : DS := ⟨1000, 4, [(b, b.length)], [(nf, 0)], [(nf, 0)], [], kf 2, -1, false⟩
def fX1 (b : List Int) : DS := ⟨1000, 0, [(b, b.length)], [(nf, 0)], [(nf, 0)], [], [], -1, false⟩
theorem f20_eq : ({ DS.new 1000 with fails := kf 2 } : DS) = f20 := by kernel_rfl
theorem f21_eq : stepF f20 (create1 · nf) = (f21, 0) := by kernel_rfl
theorem f22_eq (b : List Int) (hb : b.length ≤ 100) : append1 f21 nf b = (f22 (b.take (b.length / 2)), 33) := append1_bad (i := 0) (by kernel_rfl) (by kernel_rfl) (by kernel_rfl) (by rw [show used f21 = 0 by kernel_rfl]; show 0 + (b.length : Int) ≤ 1000; omega)
theorem f23_eq (b : List Int) : stepF (f22 b) (sync1 · nf) = (f23 b, 0) := by kernel_rfl
theorem f24_eq (b : List Int) : stepF (f23 b) syncdir1 = (f24 b, 0) := by kernel_rfl
theorem take_all (b : List Int) : crashFile (b, (b.length : Int)) [] 0 = (b, (b.length : Int)) := by simp [crashFile, crashEnd]
theorem f2X_eq (b : List Int) : crash (f24 b) 0 [] = fX1 b := by
  have h : leftNames (f24 b) (leftN (f24 b) 0) = [(nf, 0)] := by kernel_rfl
  rw [crash_of h, crashFiles_one, crashNames_one]
  show (⟨1000, 0, [crashFile (b, (b.length : Int)) [] 0], _, _, _, _, _, _⟩ : DS) = _
  rw [take_all]
  rfl
theorem f2r_eq (b : List Int) : read1 (f24 b) nf = (b, 0) := by kernel_rfl
theorem f2x_eq (b : List Int) : read1 (fX1 b) nf = (b, 0) := by kernel_rfl
-- the third
def f30 : DS := ⟨1000, 0, [], [], [], [], kf 3, -1, false⟩
def f31 : DS := ⟨1000, 1, [([], 0)], [(nf, 0)], [], [c0f], kf 3, -1, false⟩
def f32 (b : List Int) : DS := ⟨1000, 2, [(b, 0)], [(nf, 0)], [], [c0f], kf 3, -1, false⟩
def f33 (b : List Int) : DS := ⟨1000, 3, [(b, 0)], [(nf, 0)], [], [c0f], kf 3, -1, false⟩
def f34 (b : List Int) : DS := ⟨1000, 4, [(b, 0)], [(nf, 0)], [(nf, 0)], [], kf 3, -1, false⟩
def fX2 : DS := ⟨1000, 0, [([], 0)], [(nf, 0)], [(nf, 0)], [], [], -1, false⟩
theorem f30_eq : ({ DS.new 1000 with fails := kf 3 } : DS) = f30 := by kernel_rfl
theorem f31_eq : stepF f30 (create1 · nf) = (f31, 0) := by kernel_rfl
theorem f32_eq (b : List Int) (hb : b.length ≤ 100) : append1 f31 nf b = (f32 b, 0) := append1_go (i := 0) (by kernel_rfl) (by kernel_rfl) (by kernel_rfl) (by rw [show used f31 = 0 by kernel_rfl]; show 0 + (b.length : Int) ≤ 1000; omega)
theorem f33_eq (b : List Int) : stepF (f32 b) (sync1 · nf) = (f33 b, 33) := by kernel_rfl
theorem f34_eq (b : List Int) : stepF (f33 b) syncdir1 = (f34 b, 0) := by kernel_rfl
theorem f3X_eq (b : List Int) : crash (f34 b) 0 [] = fX2 := by
  have h : leftNames (f34 b) (leftN (f34 b) 0) = [(nf, 0)] := by kernel_rfl
  rw [crash_of h, crashFiles_one, crashNames_one]
  show (⟨1000, 0, [crashFile (b, 0) [] 0], _, _, _, _, _, _⟩ : DS) = _
  rw [show crashFile (b, 0) [] 0 = ([], 0) by simp [crashFile, crashEnd]]
  rfl
theorem f3r_eq (b : List Int) : read1 (f34 b) nf = (b, 0) := by kernel_rfl
theorem f3x_eq : read1 fX2 nf = ([], 0) := by kernel_rfl
-- the fourth
def f40 : DS := ⟨1000, 0, [], [], [], [], kf 4, -1, false⟩
def f41 : DS := ⟨1000, 1, [([], 0)], [(nf, 0)], [], [c0f], kf 4, -1, false⟩
def f42 (b : List Int) : DS := ⟨1000, 2, [(b, 0)], [(nf, 0)], [], [c0f], kf 4, -1, false⟩
def f43 (b : List Int) : DS := ⟨1000, 3, [(b, b.length)], [(nf, 0)], [], [c0f], kf 4, -1, false⟩
def f44 (b : List Int) : DS := ⟨1000, 4, [(b, b.length)], [(nf, 0)], [], [c0f], kf 4, -1, false⟩
theorem f40_eq : ({ DS.new 1000 with fails := kf 4 } : DS) = f40 := by kernel_rfl
theorem f41_eq : stepF f40 (create1 · nf) = (f41, 0) := by kernel_rfl
theorem f42_eq (b : List Int) (hb : b.length ≤ 100) : append1 f41 nf b = (f42 b, 0) := append1_go (i := 0) (by kernel_rfl) (by kernel_rfl) (by kernel_rfl) (by rw [show used f41 = 0 by kernel_rfl]; show 0 + (b.length : Int) ≤ 1000; omega)
theorem f43_eq (b : List Int) : stepF (f42 b) (sync1 · nf) = (f43 b, 0) := by kernel_rfl
theorem f44_eq (b : List Int) : stepF (f43 b) syncdir1 = (f44 b, 33) := by kernel_rfl
theorem f4X_eq (b : List Int) : crash (f44 b) 0 [] = fX0 := by
  have h : leftNames (f44 b) (leftN (f44 b) 0) = [] := by kernel_rfl
  rw [crash_of h, crashFiles_nil, crashNames_nil]
  rfl
theorem f4r_eq (b : List Int) : read1 (f44 b) nf = (b, 0) := by kernel_rfl
end Go.Proofs.Ytfbpplgpmgnmjaa.P

/- shown: the walk. -/
namespace Go.Proofs.Ytfbpplgpmgnmjaa.P
open Go.RowKit Go.Proofs.YtfbpplgpmgnmjaaW.PrintWords Go.Proofs.YtfbpplgpmgnmjaaW.PrintLast Go.Proofs.YtfbpplgpmgnmjaaW.PrintMore
set_option linter.unusedVariables false
set_option linter.unusedSimpArgs false
theorem reps_bytes (W : World) : ∀ l : List Int, Reps ((Kd.int .u8).K W) 1 l (l.map (Value.int .u8))
  | [] => Reps.none _ _
  | x :: l => Reps.one rfl (reps_bytes W l)
/-- Bytes in a block, however it is marked. -/
theorem row_C {α : Type} {d : Kd α} {w : World} {g : Nat} {cs : Array Value} {l : List Value} {t : Nat} {fr : Nat × Nat} {xs : List α} (h : w.heap[g]? = some (.cells cs t fr)) (hr : Reps (d.K w) d.sz xs l) (hl : cs.toList = l) (hn : xs.length ≤ 9223372036854775807) : Kd.C d w (some ⟨g, 0, none⟩) xs.length xs := by
  subst hl
  refine ⟨rfl, hn, fun _ => ⟨_, rfl, fun j p hj => ⟨(cs.toList.drop (j * d.sz)).take d.sz, ?_, hr.2 j p hj, fun i u hu => ?_⟩⟩⟩
  · have hjl := (List.getElem?_eq_some_iff.1 hj).1
    have h1 : j * d.sz + d.sz ≤ cs.toList.length := by rw [hr.1, ← Nat.succ_mul]; exact Nat.mul_le_mul_right _ hjl
    rw [List.length_take, List.length_drop]
    omega
  · rw [List.getElem?_take] at hu
    split at hu
    · rw [List.getElem?_drop] at hu
      rw [add_plain, cell_of_row w g _ cs t fr h]
      simpa using hu
    · cases hu
theorem bytes_F {W : World} {g : Nat} {cs : Array Value} {fr : Nat × Nat} {l : List Int} (h : W.heap[g]? = some (.cells cs 5 fr)) (hcs : cs.toList = l.map (Value.int .u8)) (hl : l.length ≤ 1000000) : Kd.F (Kd.int .u8) W (fun q => q = g) (some ⟨g, 0, none⟩) l.length l :=
  fun W' hW => row_C ((hW g rfl (Array.getElem?_eq_some_iff.1 h).1).trans h) (reps_bytes W' l) hcs (by omega)
theorem str_of {w : World} {A : Option Addr} {n c : Nat} {xs : List Int} (h : Kd.C (Kd.int .u8) w A n xs) : (convert 22 9 (.slice A n c)).run Try.prog w = .ok (.string (strOfNums xs)) w :=
  Kd.C_string Try.underlying22 Try.underlying5 Try.underlying9 h
theorem ptr_nil (W : World) (a : Option Addr) : (binOp .eql 24 (.pointer a) (.pointer none)).run Try.prog W = .ok (.bool a.isNone) W := by
  cases a <;> kernel_rfl
theorem Did.take {w : World} {p m : Nat} {d' : DS} {N : Nat} {r : Int} {e : Ending} {w' : World} (h : Did w p m d' N r e w') : e = .returned (.int .i64 r) ∧ Aside0 (Dk w' p m (far p m) d' ∧ Kept w w' (mutS p m) ∧ Good d' N) := ⟨h.e, ⟨h.d, h.k, h.g⟩⟩
set_option maxHeartbeats 8000000 in
set_option maxRecDepth 100000 in
theorem shown_any (w : World) : Calls Try.prog 9 #[] w fun e w' => e = .returned (.bool true) ∧ Below w.heap.size w w' := by
  have kc := fun (w : World) (C : Array Value) (n c : Nat) => Lib.run_convert_bytes_const (P := Try.prog) w 22 5 C n c Try.underlying22 Try.underlying5
  go_enter Try.func9, Try.ntmps9
  go_wp2_with (go_at_call 10; refine (new_g 9 w).mono ?_; rintro e w1 ⟨p, m, rfl, hD, hb⟩; have H0 := Aside0.mk (And.intro hD hb); clear hD hb)
  go_wp2_with (go_at_call 13; refine (create_g H0.out.1.far H0.out.1.g (by omega) _ sh1_eq).mono ?_; rintro e w2 ⟨rfl, hd, hk, hg⟩; have H1 := Aside0.mk (And.intro hd (And.intro hk hg)); clear hd hk hg)
  go_wp2_with (go_at_call 14; fail)
  have hb2 := bytes_F (l := [120, 121]) (World.alloc_heap_new w2 (.cells #[.int .u8 120, .int .u8 121] 5 (2, 3))) rfl (by simp)
  have hd2 := H1.out.1.below (below_alloc (Below.refl _ _) (.cells #[.int .u8 120, .int .u8 121] 5 (2, 3)))
  have hc2 := append_g hd2 H1.out.2.2 (by omega) na [120, 121] _ 2 _ hb2 (fun q hq => by subst hq; exact ⟨(Nat.ne_of_lt H1.out.1.lt).symm, (Nat.ne_of_lt H1.out.1.ltm).symm⟩) (Nat.le_refl _) (by simp) sh2_eq
  have HC2 := Aside0.mk hc2
  clear hb2 hd2 hc2
  go_wp2_with (go_at_call 14; refine HC2.out.mono ?_; rintro e w3 ⟨rfl, hd, hk, hg⟩; have H2 := Aside0.mk (And.intro hd (And.intro hk hg)); clear hd hk hg)
  go_wp2_with (go_at_call 15; refine (sync_g H2.out.1 H2.out.2.2 (by omega) _ sh3_eq).mono ?_; rintro e w4 ⟨rfl, hd, hk, hg⟩; have H3 := Aside0.mk (And.intro hd (And.intro hk hg)); clear hd hk hg)
  go_wp2_with (go_at_call 17; refine (crash0_g H3.out.1 H3.out.2.2 (by omega) 0 shC_eq).mono ?_; rintro e w5 ⟨pc, mc, rfl, hD, hb⟩; have HC := Aside0.mk (And.intro hD hb); clear hD hb)
  go_wp2_with (go_at_call 16; refine (syncdir_g (H3.out.1.below HC.out.2) H3.out.2.2 (by omega) sh4_eq).mono ?_; rintro e w6 ⟨rfl, hd, hk, hg⟩; have H4 := Aside0.mk (And.intro hd (And.intro hk hg)); clear hd hk hg)
  go_wp2_with (go_at_call 14; fail)
  have hb5 := bytes_F (l := [122]) (World.alloc_heap_new w6 (.cells #[.int .u8 122] 5 (1, 2))) rfl (by simp)
  have hd5 := H4.out.1.below (below_alloc (Below.refl _ _) (.cells #[.int .u8 122] 5 (1, 2)))
  have hc5 := append_g hd5 H4.out.2.2 (by omega) na [122] _ 1 _ hb5 (fun q hq => by subst hq; exact ⟨(Nat.ne_of_lt H4.out.1.lt).symm, (Nat.ne_of_lt H4.out.1.ltm).symm⟩) (Nat.le_refl _) (by simp) sh5_eq
  have HC5 := Aside0.mk hc5
  clear hb5 hd5 hc5
  go_wp2_with (go_at_call 14; refine HC5.out.mono ?_; rintro e w7 ⟨rfl, hd, hk, hg⟩; have H5 := Aside0.mk (And.intro hd (And.intro hk hg)); clear hd hk hg)
  go_wp2_with (go_at_call 17; refine (crash0_g H5.out.1 H5.out.2.2 (by omega) 0 shE_eq).mono ?_; rintro e w8 ⟨pe, me, rfl, hD, hb⟩; have HE := Aside0.mk (And.intro hD hb); clear hD hb)
  have HCn := Aside0.mk (show Newd w4 w8 pc mc shC _ from by
    have hl := H3.out.1.lt
    have hm := H3.out.1.ltm
    have k1 := HC.out.1.kept H4.out.2.1 (fun q hq => by rcases hq with rfl | rfl <;> omega)
    have k2 := k1.kept ((Kept.refl w6 (fun _ => False)).alloc (.cells #[.int .u8 122] 5 (1, 2))) (fun q hq => hq.elim)
    have k3 := k2.kept H5.out.2.1 (fun q hq => by rcases hq with rfl | rfl <;> omega)
    exact k3.kept (Kept.of_below HE.out.2 (fun _ => False)) (fun q hq => hq.elim))
  go_wp2_with (go_at_call 18; refine (read_g HE.out.1.hd HE.out.1.g (by omega) _ shE_read).mono ?_; rintro e w9 ⟨Ar, cr, rfl, hcr, hF, hb⟩; have HR := Aside0.mk (And.intro hF hb); clear hF hb)
  go_wp2_with (go_at_call 20; fail)
  refine (names_g (HCn.out.kept (Kept.of_below HR.out.2 (fun _ => False)) (fun q hq => hq.elim)).hd HCn.out.g (l := []) namesOf_nil).mono ?_
  rintro e wa ⟨An, cn, rfl, hcn, hRn, hbn⟩
  have HN := Aside0.mk hbn
  clear hRn hbn hcn
  simp only [List.length_nil]
  go_wp2_with (go_at_call 20; fail)
  refine (names_g ((HE.out.1.kept (Kept.of_below HR.out.2 (fun _ => False)) (fun q hq => hq.elim)).kept (Kept.of_below HN.out (fun _ => False)) (fun q hq => hq.elim)).hd HE.out.1.g (l := [na]) (namesOf_one _)).mono ?_
  rintro e wb ⟨Am, cm, rfl, hcm, hRm, hbm⟩
  have HN2 := Aside0.mk hbm
  clear hRm hbm hcm
  simp only [List.length_cons, List.length_nil, Nat.zero_add]
  have hstr : (convert 22 9 (.slice Ar 2 cr)).run Try.prog wb = .ok (.string ⟨#[120, 121]⟩) wb := by
    have := str_of (c := cr) (Kd.F_now (Kd.F_below (Kd.F_below HR.out.1 HN.out) HN2.out))
    rwa [show strOfNums [120, 121] = ⟨#[120, 121]⟩ by kernel_rfl] at this
  go_wp2_with fail
  all_goals go_ret
  refine ⟨rfl, ?_⟩
  have hp := H0.out.1.hp
  have hm := H0.out.1.hm
  have S : ∀ q, mutS p m q → False ∨ w.heap.size ≤ q := fun q hq => .inr (by rcases hq with rfl | rfl <;> omega)
  have k0 := (Kept.of_below H0.out.2 (fun _ => False)).then_ H1.out.2.1 S
  have k1 := (k0.alloc (.cells #[.int .u8 120, .int .u8 121] 5 (2, 3))).then_ H2.out.2.1 S
  have k2 := ((k1.then_ H3.out.2.1 S).below HC.out.2).then_ H4.out.2.1 S
  have k3 := (k2.alloc (.cells #[.int .u8 122] 5 (1, 2))).then_ H5.out.2.1 S
  exact ((((k3.below HE.out.2).below HR.out.2).below HN.out).below HN2.out).to_below (fun q hq => hq.elim)
end Go.Proofs.Ytfbpplgpmgnmjaa.P

/- DiskFails: the walk, where the first step fails. -/
namespace Go.Proofs.Ytfbpplgpmgnmjaa.P
open Go.RowKit Go.Proofs.YtfbpplgpmgnmjaaW.PrintWords Go.Proofs.YtfbpplgpmgnmjaaW.PrintLast Go.Proofs.YtfbpplgpmgnmjaaW.PrintMore
set_option linter.unusedVariables false
set_option linter.unusedSimpArgs false
theorem few_f (l : List Int) : thresherlaw08_few.f l = some (l.take 100) := by
  unfold thresherlaw08_few.f
  split
  · rw [if_pos (by omega)]
  · rw [List.take_of_length_le (by omega)]
/-- few, of bytes that came in (they lie below B). -/
theorem few_g {w w1 : World} {A : Option Addr} {c : Nat} {l b : List Int} (hbq : b = l.take 100) (h : Kd.C (Kd.int .u8) w A l.length l) (hc : l.length ≤ c) (hb : Below w.heap.size w w1) :
    Calls Try.prog 11 #[.slice A l.length c] w1 fun e w2 => ∃ A' c', e = .returned (.slice A' b.length c') ∧ b.length ≤ c' ∧ Kd.F (Kd.int .u8) w2 (fun q => q < w.heap.size ∨ w1.heap.size ≤ q) A' b.length b ∧ Below w1.heap.size w1 w2 := by
  subst hbq
  have hF : Kd.F (Kd.int .u8) w (fun q => q < w.heap.size) A l.length l := Kd.C_F (Kd.heap_int _) h
  have hV : Kd.V (Kd.int .u8) 5 w1 w1.heap.size (fun q => q < w.heap.size) (.slice A l.length c) l := ⟨A, c, rfl, hc, Kd.F_step hF (fun q hq hl => hb.block q hl)⟩
  refine (thresherlaw08_few.calls (fun q => q < w.heap.size) A c l (l.take 100) w1 hV (few_f l)).mono ?_
  rintro e w2 ⟨v, rfl, hv, hb2⟩
  obtain ⟨A', c', rfl⟩ := Kd.V_slice hv
  exact ⟨A', c', rfl, (Kd.V_at hv).2.1, (Kd.V_at hv).2.2, hb2⟩
theorem ints_C {W : World} {g : Nat} {cs : Array Value} {l : List Int} (h : W.heap[g]? = some (.cells cs 3 (0, 0))) (hcs : cs.toList = l.map (Value.int .i64)) (hl : l.length ≤ 1000000) : Kd.C (Kd.int .i64) W (some ⟨g, 0, none⟩) l.length l := by
  have hr : ∀ l : List Int, Reps ((Kd.int .i64).K W) 1 l (l.map (Value.int .i64)) := fun l => by
    induction l with
    | nil => exact Reps.none _ _
    | cons x l ih => exact Reps.one rfl ih
  exact arr_row h (hr l) hcs (by omega)
theorem fail_g {w : World} {p m : Nat} {d d' : DS} {N : Nat} (h : Dk w p m (far p m) d) (g : Good d N) (l : List Int) (A : Option Addr) (c : Nat) (hl : Kd.C (Kd.int .i64) w A l.length l) (hc : l.length ≤ c) (hlen : l.length ≤ 100) (e : ({ d with fails := l } : DS) = d') :
    Calls Try.prog 12 #[.pointer (some ⟨p, 0, none⟩), .slice A l.length c] w fun e w' => e = .returned (.tuple #[]) ∧ Dk w' p m (far p m) d' ∧ Kept w w' (mutS p m) ∧ Good d' N := by
  refine (fail_any h l A c hl hc (by omega)).mono ?_
  rintro e' w' ⟨rfl, hd, hk⟩
  have hg := g.fail l hlen
  rw [e] at hd hg
  exact ⟨rfl, hd, hk, hg⟩
set_option maxHeartbeats 8000000 in
set_option maxRecDepth 100000 in
theorem fails_1 (A0 : Option Addr) (c0 : Nat) (l0 : List Int) (a1 : Int) (w : World) (hr0 : Kd.C (Kd.int .u8) w A0 l0.length l0) (hc0 : l0.length ≤ c0) (hk : a1.tmod 4 = 0) (h0 : 0 ≤ a1) (h1 : a1 ≤ 255) :
    Calls Try.prog 3 #[.slice A0 l0.length c0, .int .u8 a1] w fun e w' => e = .returned (.bool true) ∧ Below w.heap.size w w' := by
  have mixed : Try.prog.follows Departure.mixedOrders = true := rfl
  have HR := Aside0.mk (And.intro hr0 hc0)
  clear hr0 hc0
  obtain ⟨b, hbq⟩ : ∃ b, b = l0.take 100 := ⟨_, rfl⟩
  have hbl : b.length ≤ 100 := by rw [hbq, List.length_take]; omega
  have HBQ := Aside0.mk hbq
  clear hbq
  obtain ⟨bh, hbh⟩ : ∃ bh, bh = b.take (b.length / 2) := ⟨_, rfl⟩
  have hbhl : bh.length = b.length / 2 := by rw [hbh, List.length_take]; omega
  have HBH := Aside0.mk hbh
  clear hbh
  go_enter Try.func3, Try.ntmps3
  go_wp2_with (go_at_call 9; fail)
  refine (shown_any w).mono ?_
  rintro e wa ⟨rfl, hba⟩
  have HA := Aside0.mk hba
  clear hba
  go_wp2_with (go_at_call 10; fail)
  refine (new_g 1000 wa).mono ?_
  rintro e wb ⟨p, m, rfl, hD, hb⟩
  have HB := Aside0.mk (And.intro hD (HA.out.trans (hb.mono HA.out.size)))
  clear hD hb
  go_wp2_with (go_at_call 11; fail)
  refine (few_g HBQ.out HR.out.1 HR.out.2 HB.out.2).mono ?_
  rintro e wc ⟨A, c, rfl, hcc, hF, hb⟩
  have HC := Aside0.mk (And.intro hcc (And.intro hF hb))
  clear hcc hF hb
  have HOK := Aside0.mk (show ∀ q, (q < w.heap.size ∨ wb.heap.size ≤ q) → q ≠ p ∧ q ≠ m from fun q hq => by
    have h1 := HB.out.1.hp
    have h2 := HB.out.1.hm
    have h3 := HA.out.size
    have h4 := HB.out.1.far.lt
    have h5 := HB.out.1.far.ltm
    exact ⟨by omega, by omega⟩)
  go_wp2_with (go_at_call 12; fail)
  have hfl := ints_C (l := kf 1) (blk_new wc (.cells #[.int .i64 1, .int .i64 9, .int .i64 1] 3)) rfl (by decide)
  refine (fail_g (HB.out.1.far.below (below_step HC.out.2.2 (below_alloc (Below.refl _ _) _))) HB.out.1.g (kf 1) _ 3 hfl (by decide) (by decide) f10_eq).mono ?_
  rintro e w0 ⟨rfl, hd, hk, hg⟩
  have HF0 := Aside0.mk (Kd.F_step (Kd.F_alloc HC.out.2.1 (.cells #[.int .i64 1, .int .i64 9, .int .i64 1] 3)) (fun q hq hl => hk.2 q hl (fun e => e.elim (HOK.out q hq).1 (HOK.out q hq).2)))
  have H0 := Aside0.mk (And.intro hd (And.intro hk hg))
  clear hd hk hg hfl
  go_wp2_with (go_at_call 13; fail)
  refine ((create_g H0.out.1 H0.out.2.2 (by omega) nf f11_eq).mono (fun _ _ h => (⟨h.e, h.d, h.k, h.g⟩ : _ ∧ _ ∧ _ ∧ _))).mono ?_
  rintro e w1 ⟨rfl, hd, hk, hg⟩
  have HF1 := Aside0.mk (Kd.F_step HF0.out (fun q hq hl => hk.2 q hl (fun e => e.elim (HOK.out q hq).1 (HOK.out q hq).2)))
  have H1 := Aside0.mk (And.intro hd (And.intro hk hg))
  clear hd hk hg
  go_wp2_with (go_at_call 14; fail)
  refine ((append_g H1.out.1 H1.out.2.2 (by omega) nf b A c _ HF1.out HOK.out HC.out.1 (by omega) (f12_eq b)).mono (fun _ _ h => (⟨h.e, h.d, h.k, h.g⟩ : _ ∧ _ ∧ _ ∧ _))).mono ?_
  rintro e w2 ⟨rfl, hd, hk, hg⟩
  have HF2 := Aside0.mk (Kd.F_step HF1.out (fun q hq hl => hk.2 q hl (fun e => e.elim (HOK.out q hq).1 (HOK.out q hq).2)))
  have H2 := Aside0.mk (And.intro hd (And.intro hk hg))
  clear hd hk hg
  go_wp2_with (go_at_call 15; fail)
  refine ((sync_g H2.out.1 H2.out.2.2 (by omega) nf (f13_eq)).mono (fun _ _ h => (⟨h.e, h.d, h.k, h.g⟩ : _ ∧ _ ∧ _ ∧ _))).mono ?_
  rintro e w3 ⟨rfl, hd, hk, hg⟩
  have HF3 := Aside0.mk (Kd.F_step HF2.out (fun q hq hl => hk.2 q hl (fun e => e.elim (HOK.out q hq).1 (HOK.out q hq).2)))
  have H3 := Aside0.mk (And.intro hd (And.intro hk hg))
  clear hd hk hg
  go_wp2_with (go_at_call 16; fail)
  refine ((syncdir_g H3.out.1 H3.out.2.2 (by omega) (f14_eq)).mono (fun _ _ h => (⟨h.e, h.d, h.k, h.g⟩ : _ ∧ _ ∧ _ ∧ _))).mono ?_
  rintro e w4 ⟨rfl, hd, hk, hg⟩
  have HF4 := Aside0.mk (Kd.F_step HF3.out (fun q hq hl => hk.2 q hl (fun e => e.elim (HOK.out q hq).1 (HOK.out q hq).2)))
  have H4 := Aside0.mk (And.intro hd (And.intro hk hg))
  clear hd hk hg
  go_wp2_with fail
  generalize hW5 : w4.alloc (.cells #[.int .i64 33, .int .i64 30, .int .i64 30, .int .i64 0] 29) = w5
  have hb5 : w5.heap[w4.heap.size]? = some (.cells #[.int .i64 33, .int .i64 30, .int .i64 30, .int .i64 0] 29 (0, 0)) := by rw [← hW5]; exact blk_new _ _
  have hc0 : w5.cell? ⟨w4.heap.size, 0, none⟩ = some (.int .i64 33) := (blk_cell hb5 0).trans rfl
  have hc1 : w5.cell? ⟨w4.heap.size, 1, none⟩ = some (.int .i64 30) := (blk_cell hb5 1).trans rfl
  have hc2 : w5.cell? ⟨w4.heap.size, 2, none⟩ = some (.int .i64 30) := (blk_cell hb5 2).trans rfl
  have hc3 : w5.cell? ⟨w4.heap.size, 3, none⟩ = some (.int .i64 0) := (blk_cell hb5 3).trans rfl
  have HB5 := Aside0.mk (show Below w4.heap.size w4 w5 by rw [← hW5]; exact below_alloc (Below.refl _ _) _)
  clear hW5 hb5
  refine wp_loop_rounds 5 ?_
  rw [rounds_succ]
  go_wp2_with fail
  rw [rounds_succ]
  go_wp2_with fail
  rw [rounds_succ]
  go_wp2_with fail
  rw [rounds_succ]
  go_wp2_with fail
  rw [rounds_succ]
  go_wp2_with (go_at_call 17; fail)
  refine (crash0_g (H4.out.1.below HB5.out) H4.out.2.2 (by omega) 0 (f1X_eq)).mono ?_
  rintro e w6 ⟨px, mx, rfl, hD, hb⟩
  have H6 := Aside0.mk (And.intro hD (And.intro hb ((H4.out.1.below HB5.out).below hb)))
  clear hD hb hc0 hc1 hc2 hc3
  go_wp2_with (go_at_call 18; fail)
  refine (read_g H6.out.2.2 H4.out.2.2 (by omega) nf (f1r_eq)).mono ?_
  rintro e w7 ⟨Ar, cr, rfl, hcr, hF, hb⟩
  have H7 := Aside0.mk (And.intro hF (And.intro hb (H6.out.2.2.below hb)))
  clear hF hb
  go_wp2_with (go_at_call 19; fail)
  have hS : Calls Try.prog 19 #[.pointer (some ⟨p, 0, none⟩)] w7 fun e w' => e = .returned (.int .i64 4) ∧ w' = w7 := steps_any H7.out.2.2
  refine hS.mono ?_
  rintro e w7' ⟨rfl, rfl⟩
  clear hS
  go_wp2_with (go_at_call 18; fail)
  refine (read_g (H6.out.1.kept (Kept.of_below H7.out.2.1 (fun _ => False)) (fun q hq => hq.elim)).hd H6.out.1.g (by omega) nf (f1x_eq)).mono ?_
  rintro e w8 ⟨Ax, cx, rfl, hcx, hF, hb⟩
  have H8 := Aside0.mk (And.intro hF (And.intro hb (H7.out.2.2.below hb)))
  clear hF hb
  have HFb := Aside0.mk (show Kd.F (Kd.int .u8) w8 (fun q => q < w.heap.size ∨ wb.heap.size ≤ q) A b.length b from Kd.F_below (Kd.F_below (Kd.F_below (Kd.F_below HF4.out HB5.out) H6.out.2.1) H7.out.2.1) H8.out.2.1)
  go_wp2_with (go_at_call 20; fail)
  refine (names_g H8.out.2.2 H4.out.2.2 (l := []) namesOf_nil).mono ?_
  rintro e w9 ⟨An, cn, rfl, hcn, hRn, hbn⟩
  have H9 := Aside0.mk hbn
  clear hRn hbn hcn
  simp only [List.length_nil]
  go_wp2_with fail
  go_ret
  have HZ := Aside0.mk (H8.out.2.1.trans (H9.out.mono H8.out.2.1.size))
  refine ⟨rfl, ?_⟩
  have hp := HB.out.1.hp
  have hm := HB.out.1.hm
  have hz := HA.out.size
  have S : ∀ q, mutS p m q → False ∨ w.heap.size ≤ q := fun q hq => .inr (by rcases hq with rfl | rfl <;> omega)
  have k0 := (((Kept.of_below HB.out.2 (fun _ => False)).below HC.out.2.2).alloc (.cells #[.int .i64 1, .int .i64 9, .int .i64 1] 3)).then_ H0.out.2.1 S
  have k4 := (((k0.then_ H1.out.2.1 S).then_ H2.out.2.1 S).then_ H3.out.2.1 S).then_ H4.out.2.1 S
  exact ((((k4.below HB5.out).below H6.out.2.1).below H7.out.2.1).below HZ.out).to_below (fun q hq => hq.elim)
end Go.Proofs.Ytfbpplgpmgnmjaa.P

/- DiskFails: the walk, where step 2 fails. -/
namespace Go.Proofs.Ytfbpplgpmgnmjaa.P
open Go.RowKit Go.Proofs.YtfbpplgpmgnmjaaW.PrintWords Go.Proofs.YtfbpplgpmgnmjaaW.PrintLast Go.Proofs.YtfbpplgpmgnmjaaW.PrintMore
set_option linter.unusedVariables false
set_option linter.unusedSimpArgs false
set_option maxHeartbeats 8000000 in
set_option maxRecDepth 100000 in
theorem fails_2 (A0 : Option Addr) (c0 : Nat) (l0 : List Int) (a1 : Int) (w : World) (hr0 : Kd.C (Kd.int .u8) w A0 l0.length l0) (hc0 : l0.length ≤ c0) (hk : a1.tmod 4 = 1) (h0 : 0 ≤ a1) (h1 : a1 ≤ 255) :
    Calls Try.prog 3 #[.slice A0 l0.length c0, .int .u8 a1] w fun e w' => e = .returned (.bool true) ∧ Below w.heap.size w w' := by
  have mixed : Try.prog.follows Departure.mixedOrders = true := rfl
  have HR := Aside0.mk (And.intro hr0 hc0)
  clear hr0 hc0
  obtain ⟨b, hbq⟩ : ∃ b, b = l0.take 100 := ⟨_, rfl⟩
  have hbl : b.length ≤ 100 := by rw [hbq, List.length_take]; omega
  have HBQ := Aside0.mk hbq
  clear hbq
  obtain ⟨bh, hbh⟩ : ∃ bh, bh = b.take (b.length / 2) := ⟨_, rfl⟩
  have hbhl : bh.length = b.length / 2 := by rw [hbh, List.length_take]; omega
  have HBH := Aside0.mk hbh
  have HBL := Aside0.mk hbhl
  clear hbh hbhl
  go_enter Try.func3, Try.ntmps3
  go_wp2_with (go_at_call 9; fail)
  refine (shown_any w).mono ?_
  rintro e wa ⟨rfl, hba⟩
  have HA := Aside0.mk hba
  clear hba
  go_wp2_with (go_at_call 10; fail)
  refine (new_g 1000 wa).mono ?_
  rintro e wb ⟨p, m, rfl, hD, hb⟩
  have HB := Aside0.mk (And.intro hD (HA.out.trans (hb.mono HA.out.size)))
  clear hD hb
  go_wp2_with (go_at_call 11; fail)
  refine (few_g HBQ.out HR.out.1 HR.out.2 HB.out.2).mono ?_
  rintro e wc ⟨A, c, rfl, hcc, hF, hb⟩
  have HC := Aside0.mk (And.intro hcc (And.intro hF hb))
  clear hcc hF hb
  have HOK := Aside0.mk (show ∀ q, (q < w.heap.size ∨ wb.heap.size ≤ q) → q ≠ p ∧ q ≠ m from fun q hq => by
    have h1 := HB.out.1.hp
    have h2 := HB.out.1.hm
    have h3 := HA.out.size
    have h4 := HB.out.1.far.lt
    have h5 := HB.out.1.far.ltm
    exact ⟨by omega, by omega⟩)
  go_wp2_with (go_at_call 12; fail)
  have hfl := ints_C (l := kf 2) (blk_new wc (.cells #[.int .i64 2, .int .i64 9, .int .i64 2] 3)) rfl (by decide)
  refine (fail_g (HB.out.1.far.below (below_step HC.out.2.2 (below_alloc (Below.refl _ _) _))) HB.out.1.g (kf 2) _ 3 hfl (by decide) (by decide) f20_eq).mono ?_
  rintro e w0 ⟨rfl, hd, hk, hg⟩
  have HF0 := Aside0.mk (Kd.F_step (Kd.F_alloc HC.out.2.1 (.cells #[.int .i64 2, .int .i64 9, .int .i64 2] 3)) (fun q hq hl => hk.2 q hl (fun e => e.elim (HOK.out q hq).1 (HOK.out q hq).2)))
  have H0 := Aside0.mk (And.intro hd (And.intro hk hg))
  clear hd hk hg hfl
  go_wp2_with (go_at_call 13; fail)
  refine ((create_g H0.out.1 H0.out.2.2 (by omega) nf f21_eq).mono (fun _ _ h => (⟨h.e, h.d, h.k, h.g⟩ : _ ∧ _ ∧ _ ∧ _))).mono ?_
  rintro e w1 ⟨rfl, hd, hk, hg⟩
  have HF1 := Aside0.mk (Kd.F_step HF0.out (fun q hq hl => hk.2 q hl (fun e => e.elim (HOK.out q hq).1 (HOK.out q hq).2)))
  have H1 := Aside0.mk (And.intro hd (And.intro hk hg))
  clear hd hk hg
  go_wp2_with (go_at_call 14; fail)
  refine ((append_g H1.out.1 H1.out.2.2 (by omega) nf b A c _ HF1.out HOK.out HC.out.1 (by omega) ((show append1 f21 nf b = (f22 bh, 33) by rw [HBH.out]; exact f22_eq b hbl))).mono (fun _ _ h => (⟨h.e, h.d, h.k, h.g⟩ : _ ∧ _ ∧ _ ∧ _))).mono ?_
  rintro e w2 ⟨rfl, hd, hk, hg⟩
  have HF2 := Aside0.mk (Kd.F_step HF1.out (fun q hq hl => hk.2 q hl (fun e => e.elim (HOK.out q hq).1 (HOK.out q hq).2)))
  have H2 := Aside0.mk (And.intro hd (And.intro hk hg))
  clear hd hk hg
  go_wp2_with (go_at_call 15; fail)
  refine ((sync_g H2.out.1 H2.out.2.2 (by omega) nf (f23_eq bh)).mono (fun _ _ h => (⟨h.e, h.d, h.k, h.g⟩ : _ ∧ _ ∧ _ ∧ _))).mono ?_
  rintro e w3 ⟨rfl, hd, hk, hg⟩
  have HF3 := Aside0.mk (Kd.F_step HF2.out (fun q hq hl => hk.2 q hl (fun e => e.elim (HOK.out q hq).1 (HOK.out q hq).2)))
  have H3 := Aside0.mk (And.intro hd (And.intro hk hg))
  clear hd hk hg
  go_wp2_with (go_at_call 16; fail)
  refine ((syncdir_g H3.out.1 H3.out.2.2 (by omega) (f24_eq bh)).mono (fun _ _ h => (⟨h.e, h.d, h.k, h.g⟩ : _ ∧ _ ∧ _ ∧ _))).mono ?_
  rintro e w4 ⟨rfl, hd, hk, hg⟩
  have HF4 := Aside0.mk (Kd.F_step HF3.out (fun q hq hl => hk.2 q hl (fun e => e.elim (HOK.out q hq).1 (HOK.out q hq).2)))
  have H4 := Aside0.mk (And.intro hd (And.intro hk hg))
  clear hd hk hg
  go_wp2_with fail
  generalize hW5 : w4.alloc (.cells #[.int .i64 0, .int .i64 33, .int .i64 0, .int .i64 0] 29) = w5
  have hb5 : w5.heap[w4.heap.size]? = some (.cells #[.int .i64 0, .int .i64 33, .int .i64 0, .int .i64 0] 29 (0, 0)) := by rw [← hW5]; exact blk_new _ _
  have hc0 : w5.cell? ⟨w4.heap.size, 0, none⟩ = some (.int .i64 0) := (blk_cell hb5 0).trans rfl
  have hc1 : w5.cell? ⟨w4.heap.size, 1, none⟩ = some (.int .i64 33) := (blk_cell hb5 1).trans rfl
  have hc2 : w5.cell? ⟨w4.heap.size, 2, none⟩ = some (.int .i64 0) := (blk_cell hb5 2).trans rfl
  have hc3 : w5.cell? ⟨w4.heap.size, 3, none⟩ = some (.int .i64 0) := (blk_cell hb5 3).trans rfl
  have HB5 := Aside0.mk (show Below w4.heap.size w4 w5 by rw [← hW5]; exact below_alloc (Below.refl _ _) _)
  clear hW5 hb5
  refine wp_loop_rounds 5 ?_
  rw [rounds_succ]
  go_wp2_with fail
  rw [rounds_succ]
  go_wp2_with fail
  rw [rounds_succ]
  go_wp2_with fail
  rw [rounds_succ]
  go_wp2_with fail
  rw [rounds_succ]
  go_wp2_with (go_at_call 17; fail)
  refine (crash0_g (H4.out.1.below HB5.out) H4.out.2.2 (by omega) 0 (f2X_eq bh)).mono ?_
  rintro e w6 ⟨px, mx, rfl, hD, hb⟩
  have H6 := Aside0.mk (And.intro hD (And.intro hb ((H4.out.1.below HB5.out).below hb)))
  clear hD hb hc0 hc1 hc2 hc3
  go_wp2_with (go_at_call 18; fail)
  refine (read_g H6.out.2.2 H4.out.2.2 (by omega) nf (f2r_eq bh)).mono ?_
  rintro e w7 ⟨Ar, cr, rfl, hcr, hF, hb⟩
  have H7 := Aside0.mk (And.intro hF (And.intro hb (H6.out.2.2.below hb)))
  clear hF hb
  go_wp2_with (go_at_call 19; fail)
  have hS : Calls Try.prog 19 #[.pointer (some ⟨p, 0, none⟩)] w7 fun e w' => e = .returned (.int .i64 4) ∧ w' = w7 := steps_any H7.out.2.2
  refine hS.mono ?_
  rintro e w7' ⟨rfl, rfl⟩
  clear hS
  go_wp2_with (go_at_call 18; fail)
  refine (read_g (H6.out.1.kept (Kept.of_below H7.out.2.1 (fun _ => False)) (fun q hq => hq.elim)).hd H6.out.1.g (by omega) nf (f2x_eq bh)).mono ?_
  rintro e w8 ⟨Ax, cx, rfl, hcx, hF, hb⟩
  have H8 := Aside0.mk (And.intro hF (And.intro hb (H7.out.2.2.below hb)))
  clear hF hb
  have HFb := Aside0.mk (show Kd.F (Kd.int .u8) w8 (fun q => q < w.heap.size ∨ wb.heap.size ≤ q) A b.length b from Kd.F_below (Kd.F_below (Kd.F_below (Kd.F_below HF4.out HB5.out) H6.out.2.1) H7.out.2.1) H8.out.2.1)
  have hs1 : (convert 22 9 (.slice Ar bh.length cr)).run Try.prog w8.drew = .ok (.string (strOfNums bh)) w8.drew := str_of (Kd.C_drew (Kd.F_now (Kd.F_below H7.out.1 H8.out.2.1)))
  have hs2 : (convert 22 9 (.slice A (b.length / 2) c)).run Try.prog w8.drew = .ok (.string (strOfNums bh)) w8.drew := by
    have := Kd.C_drew (Kd.C_take (Kd.F_now HFb.out) (show b.length / 2 ≤ b.length by omega))
    rw [← HBH.out, HBL.out] at this
    exact str_of this
  have hs3 : (convert 22 9 (.slice Ax bh.length cx)).run Try.prog w8.drew = .ok (.string (strOfNums bh)) w8.drew := str_of (Kd.C_drew (Kd.F_now H8.out.1))
  have hcut : ∀ W, (Instr.slice 22 (.slice A b.length c) none (some (.int .i64 ((b.length / 2 : Nat) : Int))) none).run Try.prog W = .ok (.slice A (b.length / 2) c) W := fun W => by
    obtain ⟨i0, hi0, _, hsz0, _⟩ := info_parts info5
    have := cut_to (P := Try.prog) 22 5 .i64 Try.underlying22 hi0 A b.length c ((b.length / 2 : Nat) : Int) (by omega) (by omega) HC.out.1 W
    have e : (((b.length / 2 : Nat) : Int)).toNat = b.length / 2 := rfl
    rw [e] at this
    exact this
  have hcut2 := hcut
  rw [show (((b.length / 2 : Nat) : Int)) = (b.length : Int) / 2 by omega] at hcut2
  go_wp2_with fail
  go_big_region_o
  go_wp2_with fail
  go_ret
  have HZ := Aside0.mk (below_drew1 H8.out.2.1)
  refine ⟨rfl, ?_⟩
  have hp := HB.out.1.hp
  have hm := HB.out.1.hm
  have hz := HA.out.size
  have S : ∀ q, mutS p m q → False ∨ w.heap.size ≤ q := fun q hq => .inr (by rcases hq with rfl | rfl <;> omega)
  have k0 := (((Kept.of_below HB.out.2 (fun _ => False)).below HC.out.2.2).alloc (.cells #[.int .i64 2, .int .i64 9, .int .i64 2] 3)).then_ H0.out.2.1 S
  have k4 := (((k0.then_ H1.out.2.1 S).then_ H2.out.2.1 S).then_ H3.out.2.1 S).then_ H4.out.2.1 S
  exact ((((k4.below HB5.out).below H6.out.2.1).below H7.out.2.1).below HZ.out).to_below (fun q hq => hq.elim)
end Go.Proofs.Ytfbpplgpmgnmjaa.P

/- DiskFails: the walk, where step 3 fails. -/
namespace Go.Proofs.Ytfbpplgpmgnmjaa.P
open Go.RowKit Go.Proofs.YtfbpplgpmgnmjaaW.PrintWords Go.Proofs.YtfbpplgpmgnmjaaW.PrintLast Go.Proofs.YtfbpplgpmgnmjaaW.PrintMore
set_option linter.unusedVariables false
set_option linter.unusedSimpArgs false
set_option maxHeartbeats 8000000 in
set_option maxRecDepth 100000 in
theorem fails_3 (A0 : Option Addr) (c0 : Nat) (l0 : List Int) (a1 : Int) (w : World) (hr0 : Kd.C (Kd.int .u8) w A0 l0.length l0) (hc0 : l0.length ≤ c0) (hk : a1.tmod 4 = 2) (h0 : 0 ≤ a1) (h1 : a1 ≤ 255) :
    Calls Try.prog 3 #[.slice A0 l0.length c0, .int .u8 a1] w fun e w' => e = .returned (.bool true) ∧ Below w.heap.size w w' := by
  have mixed : Try.prog.follows Departure.mixedOrders = true := rfl
  have HR := Aside0.mk (And.intro hr0 hc0)
  clear hr0 hc0
  obtain ⟨b, hbq⟩ : ∃ b, b = l0.take 100 := ⟨_, rfl⟩
  have hbl : b.length ≤ 100 := by rw [hbq, List.length_take]; omega
  have HBQ := Aside0.mk hbq
  clear hbq
  obtain ⟨bh, hbh⟩ : ∃ bh, bh = b.take (b.length / 2) := ⟨_, rfl⟩
  have hbhl : bh.length = b.length / 2 := by rw [hbh, List.length_take]; omega
  have HBH := Aside0.mk hbh
  have HBL := Aside0.mk hbhl
  clear hbh hbhl
  go_enter Try.func3, Try.ntmps3
  go_wp2_with (go_at_call 9; fail)
  refine (shown_any w).mono ?_
  rintro e wa ⟨rfl, hba⟩
  have HA := Aside0.mk hba
  clear hba
  go_wp2_with (go_at_call 10; fail)
  refine (new_g 1000 wa).mono ?_
  rintro e wb ⟨p, m, rfl, hD, hb⟩
  have HB := Aside0.mk (And.intro hD (HA.out.trans (hb.mono HA.out.size)))
  clear hD hb
  go_wp2_with (go_at_call 11; fail)
  refine (few_g HBQ.out HR.out.1 HR.out.2 HB.out.2).mono ?_
  rintro e wc ⟨A, c, rfl, hcc, hF, hb⟩
  have HC := Aside0.mk (And.intro hcc (And.intro hF hb))
  clear hcc hF hb
  have HOK := Aside0.mk (show ∀ q, (q < w.heap.size ∨ wb.heap.size ≤ q) → q ≠ p ∧ q ≠ m from fun q hq => by
    have h1 := HB.out.1.hp
    have h2 := HB.out.1.hm
    have h3 := HA.out.size
    have h4 := HB.out.1.far.lt
    have h5 := HB.out.1.far.ltm
    exact ⟨by omega, by omega⟩)
  go_wp2_with (go_at_call 12; fail)
  have hfl := ints_C (l := kf 3) (blk_new wc (.cells #[.int .i64 3, .int .i64 9, .int .i64 3] 3)) rfl (by decide)
  refine (fail_g (HB.out.1.far.below (below_step HC.out.2.2 (below_alloc (Below.refl _ _) _))) HB.out.1.g (kf 3) _ 3 hfl (by decide) (by decide) f30_eq).mono ?_
  rintro e w0 ⟨rfl, hd, hk, hg⟩
  have HF0 := Aside0.mk (Kd.F_step (Kd.F_alloc HC.out.2.1 (.cells #[.int .i64 3, .int .i64 9, .int .i64 3] 3)) (fun q hq hl => hk.2 q hl (fun e => e.elim (HOK.out q hq).1 (HOK.out q hq).2)))
  have H0 := Aside0.mk (And.intro hd (And.intro hk hg))
  clear hd hk hg hfl
  go_wp2_with (go_at_call 13; fail)
  refine ((create_g H0.out.1 H0.out.2.2 (by omega) nf f31_eq).mono (fun _ _ h => (⟨h.e, h.d, h.k, h.g⟩ : _ ∧ _ ∧ _ ∧ _))).mono ?_
  rintro e w1 ⟨rfl, hd, hk, hg⟩
  have HF1 := Aside0.mk (Kd.F_step HF0.out (fun q hq hl => hk.2 q hl (fun e => e.elim (HOK.out q hq).1 (HOK.out q hq).2)))
  have H1 := Aside0.mk (And.intro hd (And.intro hk hg))
  clear hd hk hg
  go_wp2_with (go_at_call 14; fail)
  refine ((append_g H1.out.1 H1.out.2.2 (by omega) nf b A c _ HF1.out HOK.out HC.out.1 (by omega) (f32_eq b hbl)).mono (fun _ _ h => (⟨h.e, h.d, h.k, h.g⟩ : _ ∧ _ ∧ _ ∧ _))).mono ?_
  rintro e w2 ⟨rfl, hd, hk, hg⟩
  have HF2 := Aside0.mk (Kd.F_step HF1.out (fun q hq hl => hk.2 q hl (fun e => e.elim (HOK.out q hq).1 (HOK.out q hq).2)))
  have H2 := Aside0.mk (And.intro hd (And.intro hk hg))
  clear hd hk hg
  go_wp2_with (go_at_call 15; fail)
  refine ((sync_g H2.out.1 H2.out.2.2 (by omega) nf (f33_eq b)).mono (fun _ _ h => (⟨h.e, h.d, h.k, h.g⟩ : _ ∧ _ ∧ _ ∧ _))).mono ?_
  rintro e w3 ⟨rfl, hd, hk, hg⟩
  have HF3 := Aside0.mk (Kd.F_step HF2.out (fun q hq hl => hk.2 q hl (fun e => e.elim (HOK.out q hq).1 (HOK.out q hq).2)))
  have H3 := Aside0.mk (And.intro hd (And.intro hk hg))
  clear hd hk hg
  go_wp2_with (go_at_call 16; fail)
  refine ((syncdir_g H3.out.1 H3.out.2.2 (by omega) (f34_eq b)).mono (fun _ _ h => (⟨h.e, h.d, h.k, h.g⟩ : _ ∧ _ ∧ _ ∧ _))).mono ?_
  rintro e w4 ⟨rfl, hd, hk, hg⟩
  have HF4 := Aside0.mk (Kd.F_step HF3.out (fun q hq hl => hk.2 q hl (fun e => e.elim (HOK.out q hq).1 (HOK.out q hq).2)))
  have H4 := Aside0.mk (And.intro hd (And.intro hk hg))
  clear hd hk hg
  go_wp2_with fail
  generalize hW5 : w4.alloc (.cells #[.int .i64 0, .int .i64 0, .int .i64 33, .int .i64 0] 29) = w5
  have hb5 : w5.heap[w4.heap.size]? = some (.cells #[.int .i64 0, .int .i64 0, .int .i64 33, .int .i64 0] 29 (0, 0)) := by rw [← hW5]; exact blk_new _ _
  have hc0 : w5.cell? ⟨w4.heap.size, 0, none⟩ = some (.int .i64 0) := (blk_cell hb5 0).trans rfl
  have hc1 : w5.cell? ⟨w4.heap.size, 1, none⟩ = some (.int .i64 0) := (blk_cell hb5 1).trans rfl
  have hc2 : w5.cell? ⟨w4.heap.size, 2, none⟩ = some (.int .i64 33) := (blk_cell hb5 2).trans rfl
  have hc3 : w5.cell? ⟨w4.heap.size, 3, none⟩ = some (.int .i64 0) := (blk_cell hb5 3).trans rfl
  have HB5 := Aside0.mk (show Below w4.heap.size w4 w5 by rw [← hW5]; exact below_alloc (Below.refl _ _) _)
  clear hW5 hb5
  refine wp_loop_rounds 5 ?_
  rw [rounds_succ]
  go_wp2_with fail
  rw [rounds_succ]
  go_wp2_with fail
  rw [rounds_succ]
  go_wp2_with fail
  rw [rounds_succ]
  go_wp2_with fail
  rw [rounds_succ]
  go_wp2_with (go_at_call 17; fail)
  refine (crash0_g (H4.out.1.below HB5.out) H4.out.2.2 (by omega) 0 (f3X_eq b)).mono ?_
  rintro e w6 ⟨px, mx, rfl, hD, hb⟩
  have H6 := Aside0.mk (And.intro hD (And.intro hb ((H4.out.1.below HB5.out).below hb)))
  clear hD hb hc0 hc1 hc2 hc3
  go_wp2_with (go_at_call 18; fail)
  refine (read_g H6.out.2.2 H4.out.2.2 (by omega) nf (f3r_eq b)).mono ?_
  rintro e w7 ⟨Ar, cr, rfl, hcr, hF, hb⟩
  have H7 := Aside0.mk (And.intro hF (And.intro hb (H6.out.2.2.below hb)))
  clear hF hb
  go_wp2_with (go_at_call 19; fail)
  have hS : Calls Try.prog 19 #[.pointer (some ⟨p, 0, none⟩)] w7 fun e w' => e = .returned (.int .i64 4) ∧ w' = w7 := steps_any H7.out.2.2
  refine hS.mono ?_
  rintro e w7' ⟨rfl, rfl⟩
  clear hS
  go_wp2_with (go_at_call 18; fail)
  refine (read_g (H6.out.1.kept (Kept.of_below H7.out.2.1 (fun _ => False)) (fun q hq => hq.elim)).hd H6.out.1.g (by omega) nf (f3x_eq)).mono ?_
  rintro e w8 ⟨Ax, cx, rfl, hcx, hF, hb⟩
  have H8 := Aside0.mk (And.intro hF (And.intro hb (H7.out.2.2.below hb)))
  clear hF hb
  have HFb := Aside0.mk (show Kd.F (Kd.int .u8) w8 (fun q => q < w.heap.size ∨ wb.heap.size ≤ q) A b.length b from Kd.F_below (Kd.F_below (Kd.F_below (Kd.F_below HF4.out HB5.out) H6.out.2.1) H7.out.2.1) H8.out.2.1)
  have hs1 : (convert 22 9 (.slice Ar b.length cr)).run Try.prog w8 = .ok (.string (strOfNums b)) w8 := str_of (Kd.F_now (Kd.F_below H7.out.1 H8.out.2.1))
  have hs2 : (convert 22 9 (.slice A b.length c)).run Try.prog w8 = .ok (.string (strOfNums b)) w8 := str_of (Kd.F_now HFb.out)
  go_wp2_with fail
  go_ret
  have HZ := Aside0.mk H8.out.2.1
  refine ⟨rfl, ?_⟩
  have hp := HB.out.1.hp
  have hm := HB.out.1.hm
  have hz := HA.out.size
  have S : ∀ q, mutS p m q → False ∨ w.heap.size ≤ q := fun q hq => .inr (by rcases hq with rfl | rfl <;> omega)
  have k0 := (((Kept.of_below HB.out.2 (fun _ => False)).below HC.out.2.2).alloc (.cells #[.int .i64 3, .int .i64 9, .int .i64 3] 3)).then_ H0.out.2.1 S
  have k4 := (((k0.then_ H1.out.2.1 S).then_ H2.out.2.1 S).then_ H3.out.2.1 S).then_ H4.out.2.1 S
  exact ((((k4.below HB5.out).below H6.out.2.1).below H7.out.2.1).below HZ.out).to_below (fun q hq => hq.elim)
end Go.Proofs.Ytfbpplgpmgnmjaa.P

/- DiskFails: the walk, where step 4 fails. -/
namespace Go.Proofs.Ytfbpplgpmgnmjaa.P
open Go.RowKit Go.Proofs.YtfbpplgpmgnmjaaW.PrintWords Go.Proofs.YtfbpplgpmgnmjaaW.PrintLast Go.Proofs.YtfbpplgpmgnmjaaW.PrintMore
set_option linter.unusedVariables false
set_option linter.unusedSimpArgs false
set_option maxHeartbeats 8000000 in
set_option maxRecDepth 100000 in
theorem fails_4 (A0 : Option Addr) (c0 : Nat) (l0 : List Int) (a1 : Int) (w : World) (hr0 : Kd.C (Kd.int .u8) w A0 l0.length l0) (hc0 : l0.length ≤ c0) (hk : a1.tmod 4 = 3) (h0 : 0 ≤ a1) (h1 : a1 ≤ 255) :
    Calls Try.prog 3 #[.slice A0 l0.length c0, .int .u8 a1] w fun e w' => e = .returned (.bool true) ∧ Below w.heap.size w w' := by
  have mixed : Try.prog.follows Departure.mixedOrders = true := rfl
  have HR := Aside0.mk (And.intro hr0 hc0)
  clear hr0 hc0
  obtain ⟨b, hbq⟩ : ∃ b, b = l0.take 100 := ⟨_, rfl⟩
  have hbl : b.length ≤ 100 := by rw [hbq, List.length_take]; omega
  have HBQ := Aside0.mk hbq
  clear hbq
  obtain ⟨bh, hbh⟩ : ∃ bh, bh = b.take (b.length / 2) := ⟨_, rfl⟩
  have hbhl : bh.length = b.length / 2 := by rw [hbh, List.length_take]; omega
  have HBH := Aside0.mk hbh
  have HBL := Aside0.mk hbhl
  clear hbh hbhl
  go_enter Try.func3, Try.ntmps3
  go_wp2_with (go_at_call 9; fail)
  refine (shown_any w).mono ?_
  rintro e wa ⟨rfl, hba⟩
  have HA := Aside0.mk hba
  clear hba
  go_wp2_with (go_at_call 10; fail)
  refine (new_g 1000 wa).mono ?_
  rintro e wb ⟨p, m, rfl, hD, hb⟩
  have HB := Aside0.mk (And.intro hD (HA.out.trans (hb.mono HA.out.size)))
  clear hD hb
  go_wp2_with (go_at_call 11; fail)
  refine (few_g HBQ.out HR.out.1 HR.out.2 HB.out.2).mono ?_
  rintro e wc ⟨A, c, rfl, hcc, hF, hb⟩
  have HC := Aside0.mk (And.intro hcc (And.intro hF hb))
  clear hcc hF hb
  have HOK := Aside0.mk (show ∀ q, (q < w.heap.size ∨ wb.heap.size ≤ q) → q ≠ p ∧ q ≠ m from fun q hq => by
    have h1 := HB.out.1.hp
    have h2 := HB.out.1.hm
    have h3 := HA.out.size
    have h4 := HB.out.1.far.lt
    have h5 := HB.out.1.far.ltm
    exact ⟨by omega, by omega⟩)
  go_wp2_with (go_at_call 12; fail)
  have hfl := ints_C (l := kf 4) (blk_new wc (.cells #[.int .i64 4, .int .i64 9, .int .i64 4] 3)) rfl (by decide)
  refine (fail_g (HB.out.1.far.below (below_step HC.out.2.2 (below_alloc (Below.refl _ _) _))) HB.out.1.g (kf 4) _ 3 hfl (by decide) (by decide) f40_eq).mono ?_
  rintro e w0 ⟨rfl, hd, hk, hg⟩
  have HF0 := Aside0.mk (Kd.F_step (Kd.F_alloc HC.out.2.1 (.cells #[.int .i64 4, .int .i64 9, .int .i64 4] 3)) (fun q hq hl => hk.2 q hl (fun e => e.elim (HOK.out q hq).1 (HOK.out q hq).2)))
  have H0 := Aside0.mk (And.intro hd (And.intro hk hg))
  clear hd hk hg hfl
  go_wp2_with (go_at_call 13; fail)
  refine ((create_g H0.out.1 H0.out.2.2 (by omega) nf f41_eq).mono (fun _ _ h => (⟨h.e, h.d, h.k, h.g⟩ : _ ∧ _ ∧ _ ∧ _))).mono ?_
  rintro e w1 ⟨rfl, hd, hk, hg⟩
  have HF1 := Aside0.mk (Kd.F_step HF0.out (fun q hq hl => hk.2 q hl (fun e => e.elim (HOK.out q hq).1 (HOK.out q hq).2)))
  have H1 := Aside0.mk (And.intro hd (And.intro hk hg))
  clear hd hk hg
  go_wp2_with (go_at_call 14; fail)
  refine ((append_g H1.out.1 H1.out.2.2 (by omega) nf b A c _ HF1.out HOK.out HC.out.1 (by omega) (f42_eq b hbl)).mono (fun _ _ h => (⟨h.e, h.d, h.k, h.g⟩ : _ ∧ _ ∧ _ ∧ _))).mono ?_
  rintro e w2 ⟨rfl, hd, hk, hg⟩
  have HF2 := Aside0.mk (Kd.F_step HF1.out (fun q hq hl => hk.2 q hl (fun e => e.elim (HOK.out q hq).1 (HOK.out q hq).2)))
  have H2 := Aside0.mk (And.intro hd (And.intro hk hg))
  clear hd hk hg
  go_wp2_with (go_at_call 15; fail)
  refine ((sync_g H2.out.1 H2.out.2.2 (by omega) nf (f43_eq b)).mono (fun _ _ h => (⟨h.e, h.d, h.k, h.g⟩ : _ ∧ _ ∧ _ ∧ _))).mono ?_
  rintro e w3 ⟨rfl, hd, hk, hg⟩
  have HF3 := Aside0.mk (Kd.F_step HF2.out (fun q hq hl => hk.2 q hl (fun e => e.elim (HOK.out q hq).1 (HOK.out q hq).2)))
  have H3 := Aside0.mk (And.intro hd (And.intro hk hg))
  clear hd hk hg
  go_wp2_with (go_at_call 16; fail)
  refine ((syncdir_g H3.out.1 H3.out.2.2 (by omega) (f44_eq b)).mono (fun _ _ h => (⟨h.e, h.d, h.k, h.g⟩ : _ ∧ _ ∧ _ ∧ _))).mono ?_
  rintro e w4 ⟨rfl, hd, hk, hg⟩
  have HF4 := Aside0.mk (Kd.F_step HF3.out (fun q hq hl => hk.2 q hl (fun e => e.elim (HOK.out q hq).1 (HOK.out q hq).2)))
  have H4 := Aside0.mk (And.intro hd (And.intro hk hg))
  clear hd hk hg
  go_wp2_with fail
  generalize hW5 : w4.alloc (.cells #[.int .i64 0, .int .i64 0, .int .i64 0, .int .i64 33] 29) = w5
  have hb5 : w5.heap[w4.heap.size]? = some (.cells #[.int .i64 0, .int .i64 0, .int .i64 0, .int .i64 33] 29 (0, 0)) := by rw [← hW5]; exact blk_new _ _
  have hc0 : w5.cell? ⟨w4.heap.size, 0, none⟩ = some (.int .i64 0) := (blk_cell hb5 0).trans rfl
  have hc1 : w5.cell? ⟨w4.heap.size, 1, none⟩ = some (.int .i64 0) := (blk_cell hb5 1).trans rfl
  have hc2 : w5.cell? ⟨w4.heap.size, 2, none⟩ = some (.int .i64 0) := (blk_cell hb5 2).trans rfl
  have hc3 : w5.cell? ⟨w4.heap.size, 3, none⟩ = some (.int .i64 33) := (blk_cell hb5 3).trans rfl
  have HB5 := Aside0.mk (show Below w4.heap.size w4 w5 by rw [← hW5]; exact below_alloc (Below.refl _ _) _)
  clear hW5 hb5
  refine wp_loop_rounds 5 ?_
  rw [rounds_succ]
  go_wp2_with fail
  rw [rounds_succ]
  go_wp2_with fail
  rw [rounds_succ]
  go_wp2_with fail
  rw [rounds_succ]
  go_wp2_with fail
  rw [rounds_succ]
  go_wp2_with (go_at_call 17; fail)
  refine (crash0_g (H4.out.1.below HB5.out) H4.out.2.2 (by omega) 0 (f4X_eq b)).mono ?_
  rintro e w6 ⟨px, mx, rfl, hD, hb⟩
  have H6 := Aside0.mk (And.intro hD (And.intro hb ((H4.out.1.below HB5.out).below hb)))
  clear hD hb hc0 hc1 hc2 hc3
  go_wp2_with (go_at_call 18; fail)
  refine (read_g H6.out.2.2 H4.out.2.2 (by omega) nf (f4r_eq b)).mono ?_
  rintro e w7 ⟨Ar, cr, rfl, hcr, hF, hb⟩
  have H7 := Aside0.mk (And.intro hF (And.intro hb (H6.out.2.2.below hb)))
  clear hF hb
  go_wp2_with (go_at_call 19; fail)
  have hS : Calls Try.prog 19 #[.pointer (some ⟨p, 0, none⟩)] w7 fun e w' => e = .returned (.int .i64 4) ∧ w' = w7 := steps_any H7.out.2.2
  refine hS.mono ?_
  rintro e w7' ⟨rfl, rfl⟩
  clear hS
  go_wp2_with (go_at_call 18; fail)
  refine (read_g (H6.out.1.kept (Kept.of_below H7.out.2.1 (fun _ => False)) (fun q hq => hq.elim)).hd H6.out.1.g (by omega) nf (f1x_eq)).mono ?_
  rintro e w8 ⟨Ax, cx, rfl, hcx, hF, hb⟩
  have H8 := Aside0.mk (And.intro hF (And.intro hb (H7.out.2.2.below hb)))
  clear hF hb
  have HFb := Aside0.mk (show Kd.F (Kd.int .u8) w8 (fun q => q < w.heap.size ∨ wb.heap.size ≤ q) A b.length b from Kd.F_below (Kd.F_below (Kd.F_below (Kd.F_below HF4.out HB5.out) H6.out.2.1) H7.out.2.1) H8.out.2.1)
  have hs1 : (convert 22 9 (.slice Ar b.length cr)).run Try.prog w8 = .ok (.string (strOfNums b)) w8 := str_of (Kd.F_now (Kd.F_below H7.out.1 H8.out.2.1))
  have hs2 : (convert 22 9 (.slice A b.length c)).run Try.prog w8 = .ok (.string (strOfNums b)) w8 := str_of (Kd.F_now HFb.out)
  go_wp2_with (go_at_call 20; fail)
  refine (names_g ((H6.out.1.kept (Kept.of_below H7.out.2.1 (fun _ => False)) (fun q hq => hq.elim)).kept (Kept.of_below H8.out.2.1 (fun _ => False)) (fun q hq => hq.elim)).hd H6.out.1.g (l := []) namesOf_nil).mono ?_
  rintro e w9 ⟨An, cn, rfl, hcn, hRn, hbn⟩
  have H9 := Aside0.mk hbn
  clear hRn hbn hcn hs1 hs2
  simp only [List.length_nil]
  go_wp2_with fail
  go_ret
  have HZ := Aside0.mk (H8.out.2.1.trans (H9.out.mono H8.out.2.1.size))
  refine ⟨rfl, ?_⟩
  have hp := HB.out.1.hp
  have hm := HB.out.1.hm
  have hz := HA.out.size
  have S : ∀ q, mutS p m q → False ∨ w.heap.size ≤ q := fun q hq => .inr (by rcases hq with rfl | rfl <;> omega)
  have k0 := (((Kept.of_below HB.out.2 (fun _ => False)).below HC.out.2.2).alloc (.cells #[.int .i64 4, .int .i64 9, .int .i64 4] 3)).then_ H0.out.2.1 S
  have k4 := (((k0.then_ H1.out.2.1 S).then_ H2.out.2.1 S).then_ H3.out.2.1 S).then_ H4.out.2.1 S
  exact ((((k4.below HB5.out).below H6.out.2.1).below H7.out.2.1).below HZ.out).to_below (fun q hq => hq.elim)
end Go.Proofs.Ytfbpplgpmgnmjaa.P

/- DiskFails: whichever step fails. -/
namespace Go.Proofs.Ytfbpplgpmgnmjaa.P
open Go.RowKit Go.Proofs.YtfbpplgpmgnmjaaW.PrintWords Go.Proofs.YtfbpplgpmgnmjaaW.PrintLast Go.Proofs.YtfbpplgpmgnmjaaW.PrintMore
set_option linter.unusedVariables false
set_option linter.unusedSimpArgs false
def thresherlaw08_DiskFails.g (l0 : List Int) (a1 : Int) : Prop := 0 ≤ a1 ∧ a1 ≤ 255
theorem u8_rng {a : Int} (h : (Lit.int .u8 a).wf = true) : 0 ≤ a ∧ a ≤ 255 := by
  simp [Lit.wf, IntKind.min, IntKind.max, IntKind.signed, IntKind.bits] at h
  omega
theorem thresherlaw08_DiskFails.calls (A0 : Option Addr) (c0 : Nat) (l0 : List Int) (a1 : Int) (r : Bool) (w : World) (hr0 : Kd.C (Kd.int .u8) w A0 l0.length l0) (hc0 : l0.length ≤ c0) (h : thresherlaw08_DiskFails.g l0 a1) :
    Calls Try.prog 3 #[.slice A0 l0.length c0, .int .u8 a1] w fun e w' => e = .returned (.bool true) ∧ Below w.heap.size w w' := by
  have h4 : 0 ≤ a1.tmod 4 ∧ a1.tmod 4 < 4 := ⟨Int.tmod_nonneg _ h.1, Int.tmod_lt_of_pos _ (by omega)⟩
  have hk : a1.tmod 4 = 0 ∨ a1.tmod 4 = 1 ∨ a1.tmod 4 = 2 ∨ a1.tmod 4 = 3 := by omega
  rcases hk with hk | hk | hk | hk
  · exact fails_1 A0 c0 l0 a1 w hr0 hc0 hk h.1 h.2
  · exact fails_2 A0 c0 l0 a1 w hr0 hc0 hk h.1 h.2
  · exact fails_3 A0 c0 l0 a1 w hr0 hc0 hk h.1 h.2
  · exact fails_4 A0 c0 l0 a1 w hr0 hc0 hk h.1 h.2
end Go.Proofs.Ytfbpplgpmgnmjaa.P

-- Written by wip/tools/myprint.py: the plain statement of DiskFails.
namespace Go.Proofs.Ytfbpplgpmgnmjaa.P
open Go.RowKit Go.Proofs.YtfbpplgpmgnmjaaW.PrintWords
def thresherlaw08_DiskFails.PureG : Prop := ∀ (x0 : List Int) (x1 : Int), (x0.length ≤ maxLen ∧ ∀ a ∈ x0, (Lit.int .u8 a).wf = true) → (Lit.int .u8 x1).wf = true → thresherlaw08_DiskFails.g x0 x1
end Go.Proofs.Ytfbpplgpmgnmjaa.P

/- A step that fails changes nothing, but of an append the first half: what is known of the arguments (the law itself is shown in the walk). -/
namespace Go.Proofs.Ytfbpplgpmgnmjaa.Pure
open Go.RowKit Go.Proofs.Ytfbpplgpmgnmjaa.P Go.Proofs.YtfbpplgpmgnmjaaW.PrintWords
theorem DiskFails : thresherlaw08_DiskFails.PureG := fun _ _ _ h => u8_rng h
end Go.Proofs.Ytfbpplgpmgnmjaa.Pure

-- Written by wip/tools/myprint.py: the row of DiskFails, out of its plain law and its walk.
namespace Go.Proofs.Ytfbpplgpmgnmjaa.diskFails
open Go.ChangeShapes Go.WideShapes Go.ChangeAt Go.RowKit Go.Proofs.Ytfbpplgpmgnmjaa.P Go.Proofs.YtfbpplgpmgnmjaaW.PrintWords
set_option linter.unusedVariables false
set_option linter.unusedSimpArgs false
theorem own : ownKnob Try.prog.godebug = none := by kernel_rfl
theorem laidOut : laidOutB Try.prog = true := by kernel_rfl
set_option maxRecDepth 100000 in
theorem lifted (os : Os) (started : os.Started) (H : Type) (enc : TypeId × Value → H) :
    ReturnsInHanded {} Try.checked os 3 .any (Rows.diskFailsSpec.pre6 enc Try.prog Try.f3 Rows.diskFailsRow.domain false) (Rows.diskFailsSpec.post enc Try.prog Try.f3 false true false false) := by
  refine returnsInHanded_of_change_sized (C := Try.checked) own started (by kernel_rfl) Try.func3
    (ChangeSpec.witness6 (enc := enc) (C := Try.checked) false ⟨#[], #[.slice none 0 0, .int .u8 0], []⟩ 8 (by kernel_rfl) (by kernel_rfl) (by kernel_rfl) (by kernel_rfl)) ?_
  intro W base args ds gs before hval0 hW hcnd hsz0 _
  have hval : ∀ (j : Nat) t v, Try.f3.params[j]? = some t → args[j]? = some v → Value.okWide Try.prog W .any base t v := hval0
  have hW' := hW
  obtain ⟨p, q, hA0, hV, rfl, hfz, hnd⟩ := hW
  have hA : DataW.TrodAll enc Try.prog W 0 (fun _ => true) true Try.f3.params.toList args.toList ds p := hA0
  rw [Try.params3] at hA hval
  obtain ⟨v0, vs0, d0, ds0, p0, q0, hargs, rfl, rfl, h0, r0⟩ := trodAll_cons hA
  obtain ⟨v1, vs1, d1, ds1, p1, q1, rfl, rfl, rfl, h1, r1⟩ := trodAll_cons r0
  obtain ⟨rfl, rfl, rfl⟩ := trodAll_nil r1
  obtain rfl : args = #[v0, v1] := by cases args; simp_all
  obtain ⟨rfl, rfl⟩ := trodVars_none hV
  have lt0 : ∀ x ∈ p0, x.block < W.heap.size := by obtain ⟨m, hm⟩ := h0; exact DataW.trod_lt m _ _ _ hm
  obtain ⟨x0, K0, g0⟩ := ((opens_slice Try.underlying22 (by kernel_rfl) (opens_int Try.underlying5))).arg h0
  obtain ⟨a0, len0, cap0, rfl⟩ := okWide_slice Try.underlying22 (hval 0 22 v0 rfl rfl)
  obtain ⟨A0, c0, e0, hl0, hr0⟩ := K0
  simp [Value.cells] at e0
  obtain ⟨rfl, rfl, rfl⟩ := e0
  have lt1 : ∀ x ∈ p1, x.block < W.heap.size := by obtain ⟨m, hm⟩ := h1; exact DataW.trod_lt m _ _ _ hm
  obtain ⟨x1, K1, g1⟩ := ((opens_int Try.underlying5)).arg h1
  obtain ⟨b1, rfl⟩ := okWide_int Try.underlying5 (hval 1 5 v1 rfl rfl)
  have e1 : b1 = x1 := by simpa [Value.cells, Kd.int, Kd.scalar] using K1
  subst e1
  have hk := Pure.DiskFails x0 b1 g0 g1
  have call : Calls Try.prog 3 #[.slice a0 x0.length cap0, .int .u8 b1] W fun e W' => e = .returned (.bool true) ∧ Below W.heap.size W W' := by
    refine (thresherlaw08_DiskFails.calls _ _ _ _ true W hr0 hl0 hk).mono ?_
    rintro e w' ⟨rfl, hd⟩
    exact ⟨rfl, hd⟩
  refine call.mono fun e W' ⟨he, bel⟩ => ?_
  subst he
  exact ⟨_, rfl, _, _, _, [], _, [], hW', trodAll_mk1 (shut_bool Try.underlying4 _), (trodAll_cons_mk (Below.trod laidOut (by kernel_rfl) (of_decide_eq_true (by kernel_rfl)) h0 bel lt0) (trodAll_cons_mk (Below.trod laidOut (by kernel_rfl) (of_decide_eq_true (by kernel_rfl)) h1 bel lt1) trodAll_mk0)), rfl, bel.frame _, fun h => by cases h⟩
theorem over : Rows.diskFailsRow.holds Try.pinned (OpenSpec.ofChange Rows.diskFailsSpec) :=
  OpenClaim.holds_of_wide 3 Try.f3 rfl rfl rfl rfl rfl rfl rfl ⟨rfl, rfl, rfl, rfl, rfl⟩ rfl rfl rfl rfl rfl (by kernel_rfl) Try.func3 (by kernel_rfl)
    (of_decide_eq_true (by kernel_rfl)) (by unfold Func.isWrapper; first | (rw [if_pos (by decide +kernel)]; kernel_rfl) | (rw [if_neg (by decide +kernel)]; exact ⟨rfl, rfl⟩))
    (fun os started H enc _ => lifted os started H enc)
theorem proved : Rows.DiskFailsSaid := over
#print axioms proved
end Go.Proofs.Ytfbpplgpmgnmjaa.diskFails
namespace Go.Proofs.Ytfbpplgpmgnmjaa
/-- The row, under a short name, for the claim. -/
theorem diskFails_holds : Rows.DiskFailsSaid := diskFails.proved
end Go.Proofs.Ytfbpplgpmgnmjaa

