/- Texts of ValueAll. Merged: O. -/
import Derived.Test.YtifpjhghbafcjaaDoorQValueAllPx0
import Derived.Test.YtifpjhghbafcjaaDoorQValueAllHOpen
import Derived.KernelRfl
namespace Go.Proofs.YtifpjhghbafcjaaDoor.P
open Go.RowKit Go.Proofs.YtifpjhghbafcjaaDoorW.PrintWords
def gd23 (x : S23) : Prop:=((Lit.int .i64 x.f0).wf=true)∧(x.f1.size≤maxLen)
theorem op23 : Opens Tryd.prog 23 k23 gd23 :=
 (opens_struct Tryd.underlying23 (l:=[(2,0),(9,1)]) (by kernel_rfl) (by kernel_rfl) (opensF_cons (by kernel_rfl) (opens_int Tryd.underlying2) (opensF_one (by kernel_rfl) (opens_string Tryd.underlying9))) (fun a=>⟨⟨a.1,a.2⟩,rfl⟩)).imp (fun _ h=>h)
def gd24 (x : S24) : Prop:=(gd23 x.f0)∧(gd23 x.f1)∧(gd23 x.f2)
theorem op24 : Opens Tryd.prog 24 k24 gd24 :=
 (opens_array Tryd.underlying24 (l:=[(23,0),(23,2),(23,4)]) (by kernel_rfl) (by kernel_rfl) (opensF_cons (by kernel_rfl) op23 (opensF_cons (by kernel_rfl) op23 (opensF_one (by kernel_rfl) op23))) (fun a=>⟨⟨a.1,a.2.1,a.2.2⟩,rfl⟩)).imp (fun _ h=>h)
def gd30 (x : S30) : Prop:=((Lit.int .i64 x.f0).wf=true)∧((Lit.int .i64 x.f1).wf=true)
theorem op30 : Opens Tryd.prog 30 k30 gd30 :=
 (opens_array Tryd.underlying30 (l:=[(2,0),(2,1)]) (by kernel_rfl) (by kernel_rfl) (opensF_cons (by kernel_rfl) (opens_int Tryd.underlying2) (opensF_one (by kernel_rfl) (opens_int Tryd.underlying2))) (fun a=>⟨⟨a.1,a.2⟩,rfl⟩)).imp (fun _ h=>h)
def gd35 (x : S35) : Prop:=(gd23 x.f0)∧(gd23 x.f1)
theorem op35 : Opens Tryd.prog 35 k35 gd35 :=
 (opens_array Tryd.underlying35 (l:=[(23,0),(23,2)]) (by kernel_rfl) (by kernel_rfl) (opensF_cons (by kernel_rfl) op23 (opensF_one (by kernel_rfl) op23)) (fun a=>⟨⟨a.1,a.2⟩,rfl⟩)).imp (fun _ h=>h)
end Go.Proofs.YtifpjhghbafcjaaDoor.P

