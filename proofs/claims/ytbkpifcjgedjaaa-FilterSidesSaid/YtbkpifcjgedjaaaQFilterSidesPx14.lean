/- Texts of FilterSides. Merged: Px14. -/
import Derived.Test.YtbkpifcjgedjaaaQFilterSidesPx14a
import Derived.Test.YtbkpifcjgedjaaaQFilterSidesPx14b
import Derived.Test.YtbkpifcjgedjaaaQFilterSidesPx0
import Derived.Test.YtbkpifcjgedjaaaQFilterSidesPx4
import Derived.Test.YtbkpifcjgedjaaaQFilterSidesPx5
import Derived.Test.YtbkpifcjgedjaaaQFilterSidesPx6
import Derived.Test.YtbkpifcjgedjaaaQFilterSidesPx7
import Derived.Test.YtbkpifcjgedjaaaQFilterSidesPx11
import Derived.Test.YtbkpifcjgedjaaaQFilterSidesPx13
namespace Go.Proofs.Ytbkpifcjgedjaaa.P
open Go.RowKit Go.Proofs.YtbkpifcjgedjaaaW.PrintWords Go.Proofs.YtbkpifcjgedjaaaW.PrintLast Go.Proofs.YtbkpifcjgedjaaaW.PrintMore
attribute [local go_sem] max2_int min2_int max_two min_two max_three min_three max_four min_four   -- for this text's walks alone
set_option linter.unusedVariables false
set_option linter.unusedSimpArgs false
theorem thresherlaw19_FilterSides.calls (k : Nat) (a0_0 : Int) (a0_1 : Int) (a0_2 : Int) (a0_3 : Int) (a0_4 : Int) (a0_5 : Int) (a0_6 : Int) (a0_7 : Int) (a0_8 : Int) (a0_9 : Int) (a0_10 : Int) (a0_11 : Int) (a1_0 : Int) (a1_1 : Int) (a1_2 : Int) (a1_3 : ByteArray) (a1_4 : Int) (a1_5 : Int) (a1_6 : Int) (a1_7 : ByteArray) (A2 : Option Addr) (c2 : Nat) (l2 : List (List (S37))) (r : Bool) (w : World) (hr2 : Kd.C (Kd.slice 37 k37) w A2 l2.length l2) (hc2 : l2.length≤c2) (h : thresherlaw19_FilterSides.f k a0_0 a0_1 a0_2 a0_3 a0_4 a0_5 a0_6 a0_7 a0_8 a0_9 a0_10 a0_11 a1_0 a1_1 a1_2 a1_3 a1_4 a1_5 a1_6 a1_7 l2=some r) :
 Calls Try.prog 4 #[.agg #[.int .u8 a0_0,.int .u8 a0_1,.int .u8 a0_2,.int .u8 a0_3,.int .u8 a0_4,.int .u8 a0_5,.int .u8 a0_6,.int .u8 a0_7,.int .u8 a0_8,.int .u8 a0_9,.int .u8 a0_10,.int .u8 a0_11],.agg #[.int .i64 a1_0,.int .i64 a1_1,.int .i64 a1_2,.string a1_3,.int .i64 a1_4,.int .i64 a1_5,.int .i64 a1_6,.string a1_7],.slice A2 l2.length c2] w fun e w'=>e=.returned (.bool r)∧Below w.heap.size w w':=
 thresherlaw19_FilterSides.calls_part.2 ⟨thresherlaw19_FilterSides.calls_rest0⟩ k a0_0 a0_1 a0_2 a0_3 a0_4 a0_5 a0_6 a0_7 a0_8 a0_9 a0_10 a0_11 a1_0 a1_1 a1_2 a1_3 a1_4 a1_5 a1_6 a1_7 A2 c2 l2 r w hr2 hc2 h
end Go.Proofs.Ytbkpifcjgedjaaa.P

