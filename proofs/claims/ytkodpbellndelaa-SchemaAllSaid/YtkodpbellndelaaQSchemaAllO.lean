/- Texts of SchemaAll. Merged: O. -/
import Derived.Test.YtkodpbellndelaaQSchemaAllPx0
import Derived.Test.YtkodpbellndelaaQSchemaAllHOpen
import Derived.KernelRfl
namespace Go.Proofs.Ytkodpbellndelaa.P
open Go.RowKit Go.Proofs.YtkodpbellndelaaW.PrintWords
def gd22 (x : S22) : Prop:=((Lit.int .u8 x.f0).wf=true)∧((Lit.int .u8 x.f1).wf=true)∧((Lit.int .u8 x.f2).wf=true)∧((Lit.int .u8 x.f3).wf=true)∧((Lit.int .u8 x.f4).wf=true)∧((Lit.int .u8 x.f5).wf=true)∧((Lit.int .u8 x.f6).wf=true)∧((Lit.int .u8 x.f7).wf=true)
theorem op22 : Opens Try.prog 22 k22 gd22 :=
 (opens_array Try.underlying22 (l:=[(5,0),(5,1),(5,2),(5,3),(5,4),(5,5),(5,6),(5,7)]) (by kernel_rfl) (by kernel_rfl) (opensF_cons (by kernel_rfl) (opens_int Try.underlying5) (opensF_cons (by kernel_rfl) (opens_int Try.underlying5) (opensF_cons (by kernel_rfl) (opens_int Try.underlying5) (opensF_cons (by kernel_rfl) (opens_int Try.underlying5) (opensF_cons (by kernel_rfl) (opens_int Try.underlying5) (opensF_cons (by kernel_rfl) (opens_int Try.underlying5) (opensF_cons (by kernel_rfl) (opens_int Try.underlying5) (opensF_one (by kernel_rfl) (opens_int Try.underlying5))))))))) (fun a=>⟨⟨a.1,a.2.1,a.2.2.1,a.2.2.2.1,a.2.2.2.2.1,a.2.2.2.2.2.1,a.2.2.2.2.2.2.1,a.2.2.2.2.2.2.2⟩,rfl⟩)).imp (fun _ h=>h)
def gd24 (x : S24) : Prop:=(gd22 x.f0)∧((Lit.int .u8 x.f1).wf=true)∧((Lit.int .u8 x.f2).wf=true)∧((Lit.int .u8 x.f3).wf=true)∧((Lit.int .u8 x.f4).wf=true)
theorem op24 : Opens Try.prog 24 k24 gd24 :=
 (opens_struct Try.underlying24 (l:=[(22,0),(5,8),(5,9),(5,10),(5,11)]) (by kernel_rfl) (by kernel_rfl) (opensF_cons (by kernel_rfl) op22 (opensF_cons (by kernel_rfl) (opens_int Try.underlying5) (opensF_cons (by kernel_rfl) (opens_int Try.underlying5) (opensF_cons (by kernel_rfl) (opens_int Try.underlying5) (opensF_one (by kernel_rfl) (opens_int Try.underlying5)))))) (fun a=>⟨⟨a.1,a.2.1,a.2.2.1,a.2.2.2.1,a.2.2.2.2⟩,rfl⟩)).imp (fun _ h=>h)
def gd34 (x : S34) : Prop:=((Lit.int .i64 x.f0).wf=true)∧(x.f1.size≤maxLen)
theorem op34 : Opens Try.prog 34 k34 gd34 :=
 (opens_struct Try.underlying34 (l:=[(2,0),(9,1)]) (by kernel_rfl) (by kernel_rfl) (opensF_cons (by kernel_rfl) (opens_int Try.underlying2) (opensF_one (by kernel_rfl) (opens_string Try.underlying9))) (fun a=>⟨⟨a.1,a.2⟩,rfl⟩)).imp (fun _ h=>h)
def gd50 (x : S50) : Prop:=((x.f0.length≤maxLen∧∀ a ∈ x.f0,gd34 a))∧((x.f1.length≤maxLen∧∀ a ∈ x.f1,gd34 a))∧((x.f2.length≤maxLen∧∀ a ∈ x.f2,gd34 a))
theorem op50 : Opens Try.prog 50 k50 gd50 :=
 (opens_array Try.underlying50 (l:=[(26,0),(26,1),(26,2)]) (by kernel_rfl) (by kernel_rfl) (opensF_cons (by kernel_rfl) (opens_slice Try.underlying26 (by kernel_rfl) op34) (opensF_cons (by kernel_rfl) (opens_slice Try.underlying26 (by kernel_rfl) op34) (opensF_one (by kernel_rfl) (opens_slice Try.underlying26 (by kernel_rfl) op34)))) (fun a=>⟨⟨a.1,a.2.1,a.2.2⟩,rfl⟩)).imp (fun _ h=>h)
def gd52 (x : S52) : Prop:=((x.f0.length≤maxLen∧∀ a ∈ x.f0,gd34 a))∧((x.f1.length≤maxLen∧∀ a ∈ x.f1,gd34 a))
theorem op52 : Opens Try.prog 52 k52 gd52 :=
 (opens_array Try.underlying52 (l:=[(26,0),(26,1)]) (by kernel_rfl) (by kernel_rfl) (opensF_cons (by kernel_rfl) (opens_slice Try.underlying26 (by kernel_rfl) op34) (opensF_one (by kernel_rfl) (opens_slice Try.underlying26 (by kernel_rfl) op34))) (fun a=>⟨⟨a.1,a.2⟩,rfl⟩)).imp (fun _ h=>h)
def gd30 (x : S30) : Prop:=((x.f0.length≤maxLen∧∀ a ∈ x.f0,(Lit.int .i64 a).wf=true))∧((Lit.int .i64 x.f1).wf=true)∧((Lit.int .i64 x.f2).wf=true)∧((Lit.int .i64 x.f3).wf=true)
theorem op30 : Opens Try.prog 30 k30 gd30 :=
 (opens_struct Try.underlying30 (l:=[(28,0),(3,1),(3,2),(3,3)]) (by kernel_rfl) (by kernel_rfl) (opensF_cons (by kernel_rfl) (opens_slice Try.underlying28 (by kernel_rfl) (opens_int Try.underlying3)) (opensF_cons (by kernel_rfl) (opens_int Try.underlying3) (opensF_cons (by kernel_rfl) (opens_int Try.underlying3) (opensF_one (by kernel_rfl) (opens_int Try.underlying3))))) (fun a=>⟨⟨a.1,a.2.1,a.2.2.1,a.2.2.2⟩,rfl⟩)).imp (fun _ h=>h)
end Go.Proofs.Ytkodpbellndelaa.P

