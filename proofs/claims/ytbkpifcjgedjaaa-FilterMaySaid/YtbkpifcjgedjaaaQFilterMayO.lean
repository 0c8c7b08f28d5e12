/- Texts of FilterMay. Merged: O. -/
import Derived.Test.YtbkpifcjgedjaaaQFilterMayPx0
import Derived.Test.YtbkpifcjgedjaaaQFilterMayHOpen
import Derived.KernelRfl
namespace Go.Proofs.Ytbkpifcjgedjaaa.P
open Go.RowKit Go.Proofs.YtbkpifcjgedjaaaW.PrintWords
def gd22 (x : S22) : Prop:=((Lit.int .u8 x.f0).wf=true)∧((Lit.int .u8 x.f1).wf=true)∧((Lit.int .u8 x.f2).wf=true)∧((Lit.int .u8 x.f3).wf=true)∧((Lit.int .u8 x.f4).wf=true)∧((Lit.int .u8 x.f5).wf=true)∧((Lit.int .u8 x.f6).wf=true)∧((Lit.int .u8 x.f7).wf=true)
theorem op22 : Opens Try.prog 22 k22 gd22 :=
 (opens_array Try.underlying22 (l:=[(5,0),(5,1),(5,2),(5,3),(5,4),(5,5),(5,6),(5,7)]) (by kernel_rfl) (by kernel_rfl) (opensF_cons (by kernel_rfl) (opens_int Try.underlying5) (opensF_cons (by kernel_rfl) (opens_int Try.underlying5) (opensF_cons (by kernel_rfl) (opens_int Try.underlying5) (opensF_cons (by kernel_rfl) (opens_int Try.underlying5) (opensF_cons (by kernel_rfl) (opens_int Try.underlying5) (opensF_cons (by kernel_rfl) (opens_int Try.underlying5) (opensF_cons (by kernel_rfl) (opens_int Try.underlying5) (opensF_one (by kernel_rfl) (opens_int Try.underlying5))))))))) (fun a=>⟨⟨a.1,a.2.1,a.2.2.1,a.2.2.2.1,a.2.2.2.2.1,a.2.2.2.2.2.1,a.2.2.2.2.2.2.1,a.2.2.2.2.2.2.2⟩,rfl⟩)).imp (fun _ h=>h)
def gd24 (x : S24) : Prop:=(gd22 x.f0)∧((Lit.int .u8 x.f1).wf=true)∧((Lit.int .u8 x.f2).wf=true)∧((Lit.int .u8 x.f3).wf=true)∧((Lit.int .u8 x.f4).wf=true)
theorem op24 : Opens Try.prog 24 k24 gd24 :=
 (opens_struct Try.underlying24 (l:=[(22,0),(5,8),(5,9),(5,10),(5,11)]) (by kernel_rfl) (by kernel_rfl) (opensF_cons (by kernel_rfl) op22 (opensF_cons (by kernel_rfl) (opens_int Try.underlying5) (opensF_cons (by kernel_rfl) (opens_int Try.underlying5) (opensF_cons (by kernel_rfl) (opens_int Try.underlying5) (opensF_one (by kernel_rfl) (opens_int Try.underlying5)))))) (fun a=>⟨⟨a.1,a.2.1,a.2.2.1,a.2.2.2.1,a.2.2.2.2⟩,rfl⟩)).imp (fun _ h=>h)
def gd37 (x : S37) : Prop:=((Lit.int .i64 x.f0).wf=true)∧(x.f1.size≤maxLen)
theorem op37 : Opens Try.prog 37 k37 gd37 :=
 (opens_struct Try.underlying37 (l:=[(2,0),(9,1)]) (by kernel_rfl) (by kernel_rfl) (opensF_cons (by kernel_rfl) (opens_int Try.underlying2) (opensF_one (by kernel_rfl) (opens_string Try.underlying9))) (fun a=>⟨⟨a.1,a.2⟩,rfl⟩)).imp (fun _ h=>h)
def gd39 (x : S39) : Prop:=((Lit.int .i64 x.f0).wf=true)∧((Lit.int .i64 x.f1).wf=true)∧(gd37 x.f2)
theorem op39 : Opens Try.prog 39 k39 gd39 :=
 (opens_struct Try.underlying39 (l:=[(3,0),(3,1),(37,2)]) (by kernel_rfl) (by kernel_rfl) (opensF_cons (by kernel_rfl) (opens_int Try.underlying3) (opensF_cons (by kernel_rfl) (opens_int Try.underlying3) (opensF_one (by kernel_rfl) op37))) (fun a=>⟨⟨a.1,a.2.1,a.2.2⟩,rfl⟩)).imp (fun _ h=>h)
def gd29 (x : S29) : Prop:=((x.f0.length≤maxLen∧∀ a ∈ x.f0,(a.length≤maxLen∧∀ aa ∈ a,gd37 aa)))∧((x.f1.length≤maxLen∧∀ a ∈ x.f1,(Lit.int .i64 a).wf=true))
theorem op29 : Opens Try.prog 29 k29 gd29 :=
 (opens_struct Try.underlying29 (l:=[(26,0),(27,1)]) (by kernel_rfl) (by kernel_rfl) (opensF_cons (by kernel_rfl) (opens_slice Try.underlying26 (by kernel_rfl) (opens_slice Try.underlying41 (by kernel_rfl) op37)) (opensF_one (by kernel_rfl) (opens_slice Try.underlying27 (by kernel_rfl) (opens_int Try.underlying3)))) (fun a=>⟨⟨a.1,a.2⟩,rfl⟩)).imp (fun _ h=>h)
def gd47 (x : S47) : Prop:=(gd39 x.f0)∧(gd39 x.f1)
theorem op47 : Opens Try.prog 47 k47 gd47 :=
 (opens_array Try.underlying47 (l:=[(39,0),(39,4)]) (by kernel_rfl) (by kernel_rfl) (opensF_cons (by kernel_rfl) op39 (opensF_one (by kernel_rfl) op39)) (fun a=>⟨⟨a.1,a.2⟩,rfl⟩)).imp (fun _ h=>h)
end Go.Proofs.Ytbkpifcjgedjaaa.P

