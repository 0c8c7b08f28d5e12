/- Texts of GrainBack. Merged: Px13. -/
import Derived.Test.YthoelihgpkffiaaQGrainBackPx13a
import Derived.Test.YthoelihgpkffiaaQGrainBackPx13b
import Derived.Test.YthoelihgpkffiaaQGrainBackPx0
import Derived.Test.YthoelihgpkffiaaQGrainBackPx2
import Derived.Test.YthoelihgpkffiaaQGrainBackPx6
import Derived.Test.YthoelihgpkffiaaQGrainBackPx7
import Derived.Test.YthoelihgpkffiaaQGrainBackPx9
import Derived.Test.YthoelihgpkffiaaQGrainBackPx11
namespace Go.Proofs.Ythoelihgpkffiaa.P
open Go.RowKit Go.Proofs.YthoelihgpkffiaaW.PrintWords Go.Proofs.YthoelihgpkffiaaW.PrintLast Go.Proofs.YthoelihgpkffiaaW.PrintMore
attribute [local go_sem] max2_int min2_int max_two min_two max_three min_three max_four min_four   -- for this text's walks alone
set_option linter.unusedVariables false
set_option linter.unusedSimpArgs false
theorem thresherlaw10_GrainBack.calls (k : Nat) (a0_0 : Int) (a0_1 : Int) (a0_2 : Int) (a0_3 : Int) (a0_4 : Int) (a0_5 : Int) (a0_6 : Int) (a0_7 : Int) (a0_8 : Int) (a0_9 : Int) (a0_10 : Int) (a0_11 : Int) (A1 : Option Addr) (c1 : Nat) (l1 : List (List (S45))) (r : Bool) (w : World) (hr1 : Kd.C (Kd.slice 45 k45) w A1 l1.length l1) (hc1 : l1.length≤c1) (h : thresherlaw10_GrainBack.f k a0_0 a0_1 a0_2 a0_3 a0_4 a0_5 a0_6 a0_7 a0_8 a0_9 a0_10 a0_11 l1=some r) :
 Calls Try.prog 6 #[.agg #[.int .u8 a0_0,.int .u8 a0_1,.int .u8 a0_2,.int .u8 a0_3,.int .u8 a0_4,.int .u8 a0_5,.int .u8 a0_6,.int .u8 a0_7,.int .u8 a0_8,.int .u8 a0_9,.int .u8 a0_10,.int .u8 a0_11],.slice A1 l1.length c1] w fun e w'=>e=.returned (.bool r)∧Below w.heap.size w w':=
 thresherlaw10_GrainBack.calls_part.2 ⟨thresherlaw10_GrainBack.calls_rest0⟩ k a0_0 a0_1 a0_2 a0_3 a0_4 a0_5 a0_6 a0_7 a0_8 a0_9 a0_10 a0_11 A1 c1 l1 r w hr1 hc1 h
end Go.Proofs.Ythoelihgpkffiaa.P

