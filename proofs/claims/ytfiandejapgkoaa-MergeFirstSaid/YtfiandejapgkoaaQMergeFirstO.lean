/- Texts of MergeFirst. Merged: O. -/
import Derived.Test.YtfiandejapgkoaaQMergeFirstPx0
import Derived.Test.YtfiandejapgkoaaQMergeFirstHOpen
import Derived.KernelRfl
namespace Go.Proofs.Ytfiandejapgkoaa.P
open Go.RowKit Go.Proofs.YtfiandejapgkoaaW.PrintWords
def gd36 (x : S36) : Prop:=((Lit.int .u8 x.f0).wf=true)∧((Lit.int .u8 x.f1).wf=true)∧((Lit.int .u8 x.f2).wf=true)∧((Lit.int .u8 x.f3).wf=true)∧((Lit.int .u8 x.f4).wf=true)∧((Lit.int .u8 x.f5).wf=true)∧((Lit.int .u8 x.f6).wf=true)∧((Lit.int .u8 x.f7).wf=true)
theorem op36 : Opens Try.prog 36 k36 gd36 :=
 (opens_array Try.underlying36 (l:=[(5,0),(5,1),(5,2),(5,3),(5,4),(5,5),(5,6),(5,7)]) (by kernel_rfl) (by kernel_rfl) (opensF_cons (by kernel_rfl) (opens_int Try.underlying5) (opensF_cons (by kernel_rfl) (opens_int Try.underlying5) (opensF_cons (by kernel_rfl) (opens_int Try.underlying5) (opensF_cons (by kernel_rfl) (opens_int Try.underlying5) (opensF_cons (by kernel_rfl) (opens_int Try.underlying5) (opensF_cons (by kernel_rfl) (opens_int Try.underlying5) (opensF_cons (by kernel_rfl) (opens_int Try.underlying5) (opensF_one (by kernel_rfl) (opens_int Try.underlying5))))))))) (fun a=>⟨⟨a.1,a.2.1,a.2.2.1,a.2.2.2.1,a.2.2.2.2.1,a.2.2.2.2.2.1,a.2.2.2.2.2.2.1,a.2.2.2.2.2.2.2⟩,rfl⟩)).imp (fun _ h=>h)
def gd38 (x : S38) : Prop:=(gd36 x.f0)∧((Lit.int .u8 x.f1).wf=true)∧((Lit.int .u8 x.f2).wf=true)∧((Lit.int .u8 x.f3).wf=true)∧((Lit.int .u8 x.f4).wf=true)
theorem op38 : Opens Try.prog 38 k38 gd38 :=
 (opens_struct Try.underlying38 (l:=[(36,0),(5,8),(5,9),(5,10),(5,11)]) (by kernel_rfl) (by kernel_rfl) (opensF_cons (by kernel_rfl) op36 (opensF_cons (by kernel_rfl) (opens_int Try.underlying5) (opensF_cons (by kernel_rfl) (opens_int Try.underlying5) (opensF_cons (by kernel_rfl) (opens_int Try.underlying5) (opensF_one (by kernel_rfl) (opens_int Try.underlying5)))))) (fun a=>⟨⟨a.1,a.2.1,a.2.2.1,a.2.2.2.1,a.2.2.2.2⟩,rfl⟩)).imp (fun _ h=>h)
def gd31 (x : S31) : Prop:=((Lit.int .i64 x.f0).wf=true)∧(x.f1.size≤maxLen)
theorem op31 : Opens Try.prog 31 k31 gd31 :=
 (opens_struct Try.underlying31 (l:=[(2,0),(9,1)]) (by kernel_rfl) (by kernel_rfl) (opensF_cons (by kernel_rfl) (opens_int Try.underlying2) (opensF_one (by kernel_rfl) (opens_string Try.underlying9))) (fun a=>⟨⟨a.1,a.2⟩,rfl⟩)).imp (fun _ h=>h)
def gd43 (x : S43) : Prop:=((Lit.int .u8 x.f0).wf=true)∧((Lit.int .u8 x.f1).wf=true)
theorem op43 : Opens Try.prog 43 k43 gd43 :=
 (opens_array Try.underlying43 (l:=[(5,0),(5,1)]) (by kernel_rfl) (by kernel_rfl) (opensF_cons (by kernel_rfl) (opens_int Try.underlying5) (opensF_one (by kernel_rfl) (opens_int Try.underlying5))) (fun a=>⟨⟨a.1,a.2⟩,rfl⟩)).imp (fun _ h=>h)
end Go.Proofs.Ytfiandejapgkoaa.P

