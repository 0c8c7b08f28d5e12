-- Written by wip/tools/myprint.py: how the laws' arguments are read.
import Derived.Test.YtfbpplgpmgnmjaaPx0
import Derived.Test.YtfbpplgpmgnmjaaHOpen
import Derived.KernelRfl
namespace Go.Proofs.Ytfbpplgpmgnmjaa.P
open Go.RowKit Go.Proofs.YtfbpplgpmgnmjaaW.PrintWords
def gd46 (x : S46) : Prop := ((Lit.int .i64 x.f0).wf = true) ∧ ((x.f1.length ≤ maxLen ∧ ∀ a ∈ x.f1, (Lit.int .i64 a).wf = true))
theorem op46 : Opens Try.prog 46 k46 gd46 :=
  (opens_struct Try.underlying46 (l := [(3, 0), (28, 1)]) (by kernel_rfl) (by kernel_rfl) (opensF_cons (by kernel_rfl) (opens_int Try.underlying3) (opensF_one (by kernel_rfl) (opens_slice Try.underlying28 (by kernel_rfl) (opens_int Try.underlying3)))) (fun a => ⟨⟨a.1, a.2⟩, rfl⟩)).imp (fun _ h => h)
def gd54 (x : S54) : Prop := ((Lit.int .u8 x.f0).wf = true) ∧ (x.f1.size ≤ maxLen) ∧ (x.f2.size ≤ maxLen) ∧ ((x.f3.length ≤ maxLen ∧ ∀ a ∈ x.f3, (Lit.int .u8 a).wf = true)) ∧ ((Lit.int .i64 x.f4).wf = true) ∧ ((x.f5.length ≤ maxLen ∧ ∀ a ∈ x.f5, (Lit.int .i64 a).wf = true))
theorem op54 : Opens Try.prog 54 k54 gd54 :=
  (opens_struct Try.underlying54 (l := [(5, 0), (9, 1), (9, 2), (22, 3), (3, 4), (28, 5)]) (by kernel_rfl) (by kernel_rfl) (opensF_cons (by kernel_rfl) (opens_int Try.underlying5) (opensF_cons (by kernel_rfl) (opens_string Try.underlying9) (opensF_cons (by kernel_rfl) (opens_string Try.underlying9) (opensF_cons (by kernel_rfl) (opens_slice Try.underlying22 (by kernel_rfl) (opens_int Try.underlying5)) (opensF_cons (by kernel_rfl) (opens_int Try.underlying3) (opensF_one (by kernel_rfl) (opens_slice Try.underlying28 (by kernel_rfl) (opens_int Try.underlying3)))))))) (fun a => ⟨⟨a.1, a.2.1, a.2.2.1, a.2.2.2.1, a.2.2.2.2.1, a.2.2.2.2.2⟩, rfl⟩)).imp (fun _ h => h)
def gd52 (x : S52) : Prop := ((x.f0.length ≤ maxLen ∧ ∀ a ∈ x.f0, gd54 a)) ∧ ((x.f1.length ≤ maxLen ∧ ∀ a ∈ x.f1, gd54 a)) ∧ ((Lit.int .i64 x.f2).wf = true) ∧ ((x.f3.length ≤ maxLen ∧ ∀ a ∈ x.f3, (Lit.int .i64 a).wf = true))
theorem op52 : Opens Try.prog 52 k52 gd52 :=
  (opens_struct Try.underlying52 (l := [(50, 0), (50, 1), (3, 2), (28, 3)]) (by kernel_rfl) (by kernel_rfl) (opensF_cons (by kernel_rfl) (opens_slice Try.underlying50 (by kernel_rfl) op54) (opensF_cons (by kernel_rfl) (opens_slice Try.underlying50 (by kernel_rfl) op54) (opensF_cons (by kernel_rfl) (opens_int Try.underlying3) (opensF_one (by kernel_rfl) (opens_slice Try.underlying28 (by kernel_rfl) (opens_int Try.underlying3)))))) (fun a => ⟨⟨a.1, a.2.1, a.2.2.1, a.2.2.2⟩, rfl⟩)).imp (fun _ h => h)
end Go.Proofs.Ytfbpplgpmgnmjaa.P
