-- Written by wip/tools/myprint.py: how the laws' arguments are read.
import Derived.Test.YtcpdmbeilfpiiaaPx0
import Derived.Test.YtcpdmbeilfpiiaaHOpen
import Derived.KernelRfl
namespace Go.Proofs.Ytcpdmbeilfpiiaa.P
open Go.RowKit Go.Proofs.YtcpdmbeilfpiiaaW.PrintWords
def gd30 (x : S30) : Prop := ((Lit.int .i64 x.f0).wf = true) ∧ ((Lit.int .i64 x.f1).wf = true) ∧ ((Lit.int .i64 x.f2).wf = true)
theorem op30 : Opens Try.prog 30 k30 gd30 :=
  (opens_array Try.underlying30 (l := [(3, 0), (3, 1), (3, 2)]) (by kernel_rfl) (by kernel_rfl) (opensF_cons (by kernel_rfl) (opens_int Try.underlying3) (opensF_cons (by kernel_rfl) (opens_int Try.underlying3) (opensF_one (by kernel_rfl) (opens_int Try.underlying3)))) (fun a => ⟨⟨a.1, a.2.1, a.2.2⟩, rfl⟩)).imp (fun _ h => h)
def gd34 (x : S34) : Prop := ((Lit.int .u8 x.f0).wf = true) ∧ ((Lit.int .u8 x.f1).wf = true)
theorem op34 : Opens Try.prog 34 k34 gd34 :=
  (opens_array Try.underlying34 (l := [(5, 0), (5, 1)]) (by kernel_rfl) (by kernel_rfl) (opensF_cons (by kernel_rfl) (opens_int Try.underlying5) (opensF_one (by kernel_rfl) (opens_int Try.underlying5))) (fun a => ⟨⟨a.1, a.2⟩, rfl⟩)).imp (fun _ h => h)
end Go.Proofs.Ytcpdmbeilfpiiaa.P
