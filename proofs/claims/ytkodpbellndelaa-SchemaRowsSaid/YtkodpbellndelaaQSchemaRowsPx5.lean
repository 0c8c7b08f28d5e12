/- Texts of SchemaRows. Merged: Px5. -/
import Derived.Test.YtkodpbellndelaaQSchemaRowsPx5a
import Derived.Test.YtkodpbellndelaaQSchemaRowsPx5b
import Derived.Test.YtkodpbellndelaaQSchemaRowsPx5c
import Derived.Test.YtkodpbellndelaaQSchemaRowsPx5d
import Derived.Test.YtkodpbellndelaaQSchemaRowsPx0
import Derived.Test.YtkodpbellndelaaQSchemaRowsPx3
import Derived.Test.YtkodpbellndelaaQSchemaRowsHBatch
import Derived.Test.YtkodpbellndelaaQSchemaRowsHRow
namespace Go.Proofs.Ytkodpbellndelaa.P
open Go.RowKit Go.Proofs.YtkodpbellndelaaW.PrintWords Go.Proofs.YtkodpbellndelaaW.PrintLast Go.Proofs.YtkodpbellndelaaW.PrintMore
attribute [local go_sem] max2_int min2_int max_two min_two max_three min_three max_four min_four   -- for this text's walks alone
set_option linter.unusedVariables false
set_option linter.unusedSimpArgs false
theorem thresherlaw04_SchemaRows.calls (k : Nat) (a0_0 : Int) (a0_1 : Int) (a0_2 : Int) (a0_3 : Int) (a0_4 : Int) (a0_5 : Int) (a0_6 : Int) (a0_7 : Int) (a0_8 : Int) (a0_9 : Int) (a0_10 : Int) (a0_11 : Int) (A1 : Option Addr) (c1 : Nat) (l1 : List (S34)) (a2 : Int) (r : Bool) (w : World) (hr1 : Kd.C k34 w A1 l1.length l1) (hc1 : l1.length≤c1) (h : thresherlaw04_SchemaRows.f k a0_0 a0_1 a0_2 a0_3 a0_4 a0_5 a0_6 a0_7 a0_8 a0_9 a0_10 a0_11 l1 a2=some r) :
 Calls Try.prog 3 #[.agg #[.int .u8 a0_0,.int .u8 a0_1,.int .u8 a0_2,.int .u8 a0_3,.int .u8 a0_4,.int .u8 a0_5,.int .u8 a0_6,.int .u8 a0_7,.int .u8 a0_8,.int .u8 a0_9,.int .u8 a0_10,.int .u8 a0_11],.slice A1 l1.length c1,.int .u8 a2] w fun e w'=>e=.returned (.bool r)∧Below w.heap.size w w':=
 thresherlaw04_SchemaRows.calls_part.2.2.2 ⟨thresherlaw04_SchemaRows.calls_rest0⟩ ⟨thresherlaw04_SchemaRows.calls_rest1⟩ ⟨thresherlaw04_SchemaRows.calls_rest2⟩ k a0_0 a0_1 a0_2 a0_3 a0_4 a0_5 a0_6 a0_7 a0_8 a0_9 a0_10 a0_11 A1 c1 l1 a2 r w hr1 hc1 h
end Go.Proofs.Ytkodpbellndelaa.P

