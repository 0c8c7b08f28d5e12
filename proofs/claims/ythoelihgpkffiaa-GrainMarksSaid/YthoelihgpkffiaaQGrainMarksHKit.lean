/- Texts of GrainMarks. Merged: HKit. -/
import Derived.Test.YthoelihgpkffiaaQGrainMarksWMore
import Derived.WalkSpells
/- Words that the printed texts of this seat lean on besides the kit's. -/
namespace Go.Proofs.YthoelihgpkffiaaW.PrintWords
open Go.RowKit
theorem cells_rd (k : IntKind) (l : List Int) (J : Int) (h0 : 0 ≤ J) (h1 : J < (l.length : Int)) : ((l.map (Value.int k)).toArray)[J.toNat]? = some (.int k (rd l J)) := by
 have h : J.toNat < l.length := by omega
 simp [rd, h, List.getD]
/-- xs[lo:hi:hi] -/
theorem cut_mid3 {P : Program} (t e : TypeId) (kl kh km : IntKind) {i : TypeInfo} (ht : P.underlying t = some (.slice e)) (hi : P.info? e = some i) (size : Nat) (hsz : i.size = size) (A : Option Addr) (n c : Nat) (lo hi' : Int) (h0 : 0 ≤ lo) (h1 : lo ≤ hi') (h2 : hi' ≤ n) (hc : n ≤ c) :
  ∀ W : World, (Instr.slice t (.slice A n c) (some (.int kl lo)) (some (.int kh hi')) (some (.int km hi'))).run P W = .ok (.slice (if hi'.toNat = lo.toNat then A else A.map (·.add (lo.toNat * size))) (hi'.toNat - lo.toNat) (hi'.toNat - lo.toNat)) W := by
 intro W
 have hel : P.elem t = e := by simp [Program.elem, ht]
 have hu : P.underlying t = some (.slice (P.elem t)) := by rw [hel]; exact ht
 rw [run_slice_lhm W t A n c hu kl kh km lo hi' hi' h0 h1 (Int.le_refl _) (by omega), hel]
 simp [sizeOf, typeInfo, hi, hsz, sliced, Result.andThen]
namespace Kd
theorem C_mid3 {α : Type} {k : Kd α} {w : World} {A : Option Addr} {xs : List α} {lo hi : Nat} (h : k.C w A xs.length xs) (h1 : lo ≤ hi) (h2 : hi ≤ xs.length) : k.C w (if hi = lo then A else A.map (·.add (lo * k.sz))) ((xs.take hi).drop lo).length ((xs.take hi).drop lo) := by
 have hl : (xs.take hi).length = hi := by rw [List.length_take]; omega
 exact C_drop (C_take h h2) (by omega) (by omega)
theorem F_mid3 {α : Type} {d : Kd α} {W : World} {ok : Nat → Prop} {A : Option Addr} {xs : List α} {lo hi : Nat} (h : F d W ok A xs.length xs) (h1 : lo ≤ hi) (h2 : hi ≤ xs.length) : F d W ok (if hi = lo then A else A.map (·.add (lo * d.sz))) ((xs.take hi).drop lo).length ((xs.take hi).drop lo) := F_imp h (fun _ hC => C_mid3 hC h1 h2)
end Kd
end Go.Proofs.YthoelihgpkffiaaW.PrintWords

