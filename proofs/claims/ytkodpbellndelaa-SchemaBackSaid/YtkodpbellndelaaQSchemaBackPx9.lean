/- Texts of SchemaBack. Merged: Px9. -/
import Derived.Test.YtkodpbellndelaaQSchemaBackPx9a
import Derived.Test.YtkodpbellndelaaQSchemaBackPx9b
import Derived.Test.YtkodpbellndelaaQSchemaBackPx9c
import Derived.Test.YtkodpbellndelaaQSchemaBackPx0
import Derived.Test.YtkodpbellndelaaQSchemaBackPx2
import Derived.Test.YtkodpbellndelaaQSchemaBackPx3
import Derived.Test.YtkodpbellndelaaQSchemaBackPx7
import Derived.Test.YtkodpbellndelaaQSchemaBackPx8
namespace Go.Proofs.Ytkodpbellndelaa.P
open Go.RowKit Go.Proofs.YtkodpbellndelaaW.PrintWords Go.Proofs.YtkodpbellndelaaW.PrintLast Go.Proofs.YtkodpbellndelaaW.PrintMore
attribute [local go_sem] max2_int min2_int max_two min_two max_three min_three max_four min_four   -- for this text's walks alone
set_option linter.unusedVariables false
set_option linter.unusedSimpArgs false
theorem thresherlaw04_SchemaBack.calls (k : Nat) (a0_0 : Int) (a0_1 : Int) (a0_2 : Int) (a0_3 : Int) (a0_4 : Int) (a0_5 : Int) (a0_6 : Int) (a0_7 : Int) (a0_8 : Int) (a0_9 : Int) (a0_10 : Int) (a0_11 : Int) (a1 : Int) (A2 : Option Addr) (c2 : Nat) (l2 : List Int) (r : Bool) (w : World) (hr2 : Kd.C (Kd.int .u8) w A2 l2.length l2) (hc2 : l2.length≤c2) (h : thresherlaw04_SchemaBack.f k a0_0 a0_1 a0_2 a0_3 a0_4 a0_5 a0_6 a0_7 a0_8 a0_9 a0_10 a0_11 a1 l2=some r) :
 Calls Try.prog 4 #[.agg #[.int .u8 a0_0,.int .u8 a0_1,.int .u8 a0_2,.int .u8 a0_3,.int .u8 a0_4,.int .u8 a0_5,.int .u8 a0_6,.int .u8 a0_7,.int .u8 a0_8,.int .u8 a0_9,.int .u8 a0_10,.int .u8 a0_11],.int .u16 a1,.slice A2 l2.length c2] w fun e w'=>e=.returned (.bool r)∧Below w.heap.size w w':=
 thresherlaw04_SchemaBack.calls_part.2.2 ⟨thresherlaw04_SchemaBack.calls_rest0⟩ ⟨thresherlaw04_SchemaBack.calls_rest1⟩ k a0_0 a0_1 a0_2 a0_3 a0_4 a0_5 a0_6 a0_7 a0_8 a0_9 a0_10 a0_11 a1 A2 c2 l2 r w hr2 hc2 h
end Go.Proofs.Ytkodpbellndelaa.P

