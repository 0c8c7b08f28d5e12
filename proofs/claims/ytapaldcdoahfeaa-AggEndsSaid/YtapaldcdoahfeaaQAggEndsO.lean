/- Texts of AggEnds. Merged: O. -/
import Derived.Test.YtapaldcdoahfeaaQAggEndsPx0
import Derived.Test.YtapaldcdoahfeaaQAggEndsHOpen
import Derived.KernelRfl
namespace Go.Proofs.Ytapaldcdoahfeaa.P
open Go.RowKit Go.Proofs.YtapaldcdoahfeaaW.PrintWords
def gd22 (x : S22) : Prop:=((Lit.int .u8 x.f0).wf=true)∧((Lit.int .u8 x.f1).wf=true)∧((Lit.int .u8 x.f2).wf=true)∧((Lit.int .u8 x.f3).wf=true)∧((Lit.int .u8 x.f4).wf=true)∧((Lit.int .u8 x.f5).wf=true)∧((Lit.int .u8 x.f6).wf=true)∧((Lit.int .u8 x.f7).wf=true)
theorem op22 : Opens Try.prog 22 k22 gd22 :=
 (opens_array Try.underlying22 (l:=[(5,0),(5,1),(5,2),(5,3),(5,4),(5,5),(5,6),(5,7)]) (by kernel_rfl) (by kernel_rfl) (opensF_cons (by kernel_rfl) (opens_int Try.underlying5) (opensF_cons (by kernel_rfl) (opens_int Try.underlying5) (opensF_cons (by kernel_rfl) (opens_int Try.underlying5) (opensF_cons (by kernel_rfl) (opens_int Try.underlying5) (opensF_cons (by kernel_rfl) (opens_int Try.underlying5) (opensF_cons (by kernel_rfl) (opens_int Try.underlying5) (opensF_cons (by kernel_rfl) (opens_int Try.underlying5) (opensF_one (by kernel_rfl) (opens_int Try.underlying5))))))))) (fun a=>⟨⟨a.1,a.2.1,a.2.2.1,a.2.2.2.1,a.2.2.2.2.1,a.2.2.2.2.2.1,a.2.2.2.2.2.2.1,a.2.2.2.2.2.2.2⟩,rfl⟩)).imp (fun _ h=>h)
def gd24 (x : S24) : Prop:=(gd22 x.f0)∧((Lit.int .u8 x.f1).wf=true)∧((Lit.int .u8 x.f2).wf=true)∧((Lit.int .u8 x.f3).wf=true)∧((Lit.int .u8 x.f4).wf=true)
theorem op24 : Opens Try.prog 24 k24 gd24 :=
 (opens_struct Try.underlying24 (l:=[(22,0),(5,8),(5,9),(5,10),(5,11)]) (by kernel_rfl) (by kernel_rfl) (opensF_cons (by kernel_rfl) op22 (opensF_cons (by kernel_rfl) (opens_int Try.underlying5) (opensF_cons (by kernel_rfl) (opens_int Try.underlying5) (opensF_cons (by kernel_rfl) (opens_int Try.underlying5) (opensF_one (by kernel_rfl) (opens_int Try.underlying5)))))) (fun a=>⟨⟨a.1,a.2.1,a.2.2.1,a.2.2.2.1,a.2.2.2.2⟩,rfl⟩)).imp (fun _ h=>h)
def gd40 (x : S40) : Prop:=((Lit.int .i64 x.f0).wf=true)∧(x.f1.size≤maxLen)
theorem op40 : Opens Try.prog 40 k40 gd40 :=
 (opens_struct Try.underlying40 (l:=[(2,0),(9,1)]) (by kernel_rfl) (by kernel_rfl) (opensF_cons (by kernel_rfl) (opens_int Try.underlying2) (opensF_one (by kernel_rfl) (opens_string Try.underlying9))) (fun a=>⟨⟨a.1,a.2⟩,rfl⟩)).imp (fun _ h=>h)
def gd33 (x : S33) : Prop:=((Lit.int .i64 x.f0).wf=true)∧((Lit.int .i64 x.f1).wf=true)
theorem op33 : Opens Try.prog 33 k33 gd33 :=
 (opens_struct Try.underlying33 (l:=[(3,0),(3,1)]) (by kernel_rfl) (by kernel_rfl) (opensF_cons (by kernel_rfl) (opens_int Try.underlying3) (opensF_one (by kernel_rfl) (opens_int Try.underlying3))) (fun a=>⟨⟨a.1,a.2⟩,rfl⟩)).imp (fun _ h=>h)
def gd49 (x : S49) : Prop:=((x.f0.length≤maxLen∧∀ a ∈ x.f0,(a.length≤maxLen∧∀ aa ∈ a,gd40 aa)))∧((Lit.int .u8 x.f1).wf=true)
theorem op49 : Opens Try.prog 49 k49 gd49 :=
 (opens_struct Try.underlying49 (l:=[(25,0),(5,1)]) (by kernel_rfl) (by kernel_rfl) (opensF_cons (by kernel_rfl) (opens_slice Try.underlying25 (by kernel_rfl) (opens_slice Try.underlying44 (by kernel_rfl) op40)) (opensF_one (by kernel_rfl) (opens_int Try.underlying5))) (fun a=>⟨⟨a.1,a.2⟩,rfl⟩)).imp (fun _ h=>h)
end Go.Proofs.Ytapaldcdoahfeaa.P

