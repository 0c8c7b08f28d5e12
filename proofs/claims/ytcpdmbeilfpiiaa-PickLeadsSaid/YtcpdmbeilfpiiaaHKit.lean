/- Words that the printed texts of this seat lean on besides the kit's. -/
import Derived.Test.YtcpdmbeilfpiiaaWWords
import Derived.WalkSpells
namespace Go.Proofs.YtcpdmbeilfpiiaaW.PrintWords
open Go.RowKit
theorem ReadsRow.len_to {α : Type} {R : α → List Value → Prop} {size : Nat} {w : World} {A : Option Addr} {n m : Nat} {ps : List α} (h : n = m) (H : ReadsRow R size w A n ps) : ReadsRow R size w A m ps := h ▸ H
end Go.Proofs.YtcpdmbeilfpiiaaW.PrintWords
