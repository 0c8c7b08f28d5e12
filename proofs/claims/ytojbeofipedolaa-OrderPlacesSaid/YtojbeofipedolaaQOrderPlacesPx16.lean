/- Texts of OrderPlaces. Merged: Px16. -/
import Derived.Test.YtojbeofipedolaaQOrderPlacesPx16a
import Derived.Test.YtojbeofipedolaaQOrderPlacesPx16b
import Derived.Test.YtojbeofipedolaaQOrderPlacesPx16c
import Derived.Test.YtojbeofipedolaaQOrderPlacesPx16d
import Derived.Test.YtojbeofipedolaaQOrderPlacesPx0
import Derived.Test.YtojbeofipedolaaQOrderPlacesPx4
import Derived.Test.YtojbeofipedolaaQOrderPlacesPx5
import Derived.Test.YtojbeofipedolaaQOrderPlacesPx10
import Derived.Test.YtojbeofipedolaaQOrderPlacesHOrdA
import Derived.Test.YtojbeofipedolaaQOrderPlacesHOrdE
import Derived.Test.YtojbeofipedolaaQOrderPlacesHOrdF
namespace Go.Proofs.Ytojbeofipedolaa.P
open Go.RowKit Go.Proofs.YtojbeofipedolaaW.PrintWords Go.Proofs.YtojbeofipedolaaW.PrintLast Go.Proofs.YtojbeofipedolaaW.PrintMore
attribute [local go_sem] max2_int min2_int max_two min_two max_three min_three max_four min_four   -- for this text's walks alone
set_option linter.unusedVariables false
set_option linter.unusedSimpArgs false
theorem thresherlaw09_OrderPlaces.calls (k : Nat) (a0_0 : Int) (a0_1 : Int) (a0_2 : Int) (a0_3 : Int) (a0_4 : Int) (a0_5 : Int) (a0_6 : Int) (a0_7 : Int) (a0_8 : Int) (a0_9 : Int) (a0_10 : Int) (a0_11 : Int) (A1 : Option Addr) (c1 : Nat) (l1 : List (List (S41))) (A2 : Option Addr) (c2 : Nat) (l2 : List (S41)) (r : Bool) (w : World) (hr1 : Kd.C (Kd.slice 41 k41) w A1 l1.length l1) (hc1 : l1.length≤c1) (hr2 : Kd.C k41 w A2 l2.length l2) (hc2 : l2.length≤c2) (h : thresherlaw09_OrderPlaces.f k a0_0 a0_1 a0_2 a0_3 a0_4 a0_5 a0_6 a0_7 a0_8 a0_9 a0_10 a0_11 l1 l2=some r) :
 Calls Try.prog 7 #[.agg #[.int .u8 a0_0,.int .u8 a0_1,.int .u8 a0_2,.int .u8 a0_3,.int .u8 a0_4,.int .u8 a0_5,.int .u8 a0_6,.int .u8 a0_7,.int .u8 a0_8,.int .u8 a0_9,.int .u8 a0_10,.int .u8 a0_11],.slice A1 l1.length c1,.slice A2 l2.length c2] w fun e w'=>e=.returned (.bool r)∧Below w.heap.size w w':=
 thresherlaw09_OrderPlaces.calls_part.2.2.2 ⟨thresherlaw09_OrderPlaces.calls_rest0⟩ ⟨thresherlaw09_OrderPlaces.calls_rest1⟩ ⟨thresherlaw09_OrderPlaces.calls_rest2⟩ k a0_0 a0_1 a0_2 a0_3 a0_4 a0_5 a0_6 a0_7 a0_8 a0_9 a0_10 a0_11 A1 c1 l1 A2 c2 l2 r w hr1 hc1 hr2 hc2 h
end Go.Proofs.Ytojbeofipedolaa.P

