/- Texts of IndexGrows. Merged: Px14. -/
import Derived.Test.YtfccebnoflhkcaaQIndexGrowsPx14a
import Derived.Test.YtfccebnoflhkcaaQIndexGrowsPx14b
import Derived.Test.YtfccebnoflhkcaaQIndexGrowsPx14c
import Derived.Test.YtfccebnoflhkcaaQIndexGrowsPx0
import Derived.Test.YtfccebnoflhkcaaQIndexGrowsPx3
import Derived.Test.YtfccebnoflhkcaaQIndexGrowsPx6
import Derived.Test.YtfccebnoflhkcaaQIndexGrowsPx7
import Derived.Test.YtfccebnoflhkcaaQIndexGrowsPx8
import Derived.Test.YtfccebnoflhkcaaQIndexGrowsHFit12
import Derived.Test.YtfccebnoflhkcaaQIndexGrowsHMeets
namespace Go.Proofs.Ytfccebnoflhkcaa.P
open Go.RowKit Go.Proofs.YtfccebnoflhkcaaW.PrintWords Go.Proofs.YtfccebnoflhkcaaW.PrintLast Go.Proofs.YtfccebnoflhkcaaW.PrintMore
attribute [local go_sem] max2_int min2_int max_two min_two max_three min_three max_four min_four   -- for this text's walks alone
set_option linter.unusedVariables false
set_option linter.unusedSimpArgs false
theorem thresherlaw12_IndexGrows.calls (k : Nat) (a0_0 : Int) (a0_1 : Int) (a0_2 : Int) (a0_3 : Int) (a0_4 : Int) (a0_5 : Int) (a0_6 : Int) (a0_7 : Int) (a0_8 : Int) (a0_9 : Int) (a0_10 : Int) (a0_11 : Int) (A1 : Option Addr) (c1 : Nat) (l1 : List (List (S44))) (a2_0 : Bool) (a2_1 : Bool) (A2_2 : Option Addr) (c2_2 : Nat) (l2_2 : List (S44)) (A2_3 : Option Addr) (c2_3 : Nat) (l2_3 : List (S44)) (r : Bool) (w : World) (hr1 : Kd.C (Kd.slice 44 k44) w A1 l1.length l1) (hc1 : l1.length≤c1) (hr2_2 : Kd.C k44 w A2_2 l2_2.length l2_2) (hc2_2 : l2_2.length≤c2_2) (hr2_3 : Kd.C k44 w A2_3 l2_3.length l2_3) (hc2_3 : l2_3.length≤c2_3) (h : thresherlaw12_IndexGrows.f k a0_0 a0_1 a0_2 a0_3 a0_4 a0_5 a0_6 a0_7 a0_8 a0_9 a0_10 a0_11 l1 a2_0 a2_1 l2_2 l2_3=some r) :
 Calls Try.prog 6 #[.agg #[.int .u8 a0_0,.int .u8 a0_1,.int .u8 a0_2,.int .u8 a0_3,.int .u8 a0_4,.int .u8 a0_5,.int .u8 a0_6,.int .u8 a0_7,.int .u8 a0_8,.int .u8 a0_9,.int .u8 a0_10,.int .u8 a0_11],.slice A1 l1.length c1,.agg #[.bool a2_0,.bool a2_1,.slice A2_2 l2_2.length c2_2,.slice A2_3 l2_3.length c2_3]] w fun e w'=>e=.returned (.bool r)∧Below w.heap.size w w':=
 thresherlaw12_IndexGrows.calls_part.2.2 ⟨thresherlaw12_IndexGrows.calls_rest0⟩ ⟨thresherlaw12_IndexGrows.calls_rest1⟩ k a0_0 a0_1 a0_2 a0_3 a0_4 a0_5 a0_6 a0_7 a0_8 a0_9 a0_10 a0_11 A1 c1 l1 a2_0 a2_1 A2_2 c2_2 l2_2 A2_3 c2_3 l2_3 r w hr1 hc1 hr2_2 hc2_2 hr2_3 hc2_3 h
end Go.Proofs.Ytfccebnoflhkcaa.P

