/-
  No cell of these rows narrows 'for every input' (looked for: loops, veiled, ifaces, maps, wideKeys, modest, calm, conditions, laid).
  DERIVED. THE GIVEN ROWS OF THIS SEAT. 5 by the template 'for every input the law returns true; each argument reads behind the call as it read before'; 0 by the template 'total and deterministic' (their statements: YtcpdmbeilfpiiaaTotals.lean).
  GIVEN WITH THE SEED: the statements are not yours to turn. If you find one false, say at which input.
  Laid BY PROGRAM, IN A SANDBOX (cutbox-rows.mjs): the forced cells as the released guide's own fill.sh prints them over the translation 251214b18bf1be73… (all of the seat's roots in one cut). By AI agents, Wed Nov 11 2026. No macro, syntax, notation, axiom, sorry.
-/
import Derived.Test.YtcpdmbeilfpiiaaChecked
import GoSem.Claim
import GoSem.ClaimJoined
import GoSem.ClaimMapViews
import Derived.JoinedTies
import Derived.KernelRfl
namespace Go.Proofs.Ytcpdmbeilfpiiaa
/- THE CELL 'sum', in the pinned program and in every row, IS THE sha256 OF THE DUMP (.gsa) THAT YtcpdmbeilfpiiaaProg.lean LOADS. Nothing in Lean hashes anything: it is a label: what it is worth is what the hold of that sum in a sandbox is worth. -/
noncomputable def Try.pinned : Pinned := { name := "ytcpdmbeilfpiiaa", sum := "251214b18bf1be730e8d5a86e8980d9ed9382a07975453534a1be8d2cf5d8f24", checked := Try.checked }
namespace Rows
def none {H : Type} : Left H := { results := [], args := [] }

/-- 'thresherlaw15.PickLeast': WHATEVER THE INPUT: true; the input reads as it did. -/
def pickLeastSpec : ChangeSpec := { name := "pickLeast", fn := fun _ => fun
  | [d] => { results := [.lit (.bool true)], args := [d] }
  | _ => none }
def pickLeastRow : OpenClaim := { program := "ytcpdmbeilfpiiaa", sum := "251214b18bf1be730e8d5a86e8980d9ed9382a07975453534a1be8d2cf5d8f24", func := "thresher/thresherlaw15.PickLeast", spec := "pickLeast", unfollowed := true, recurses := true, apart := false }
def PickLeastSaid : Prop := pickLeastRow.holds Try.pinned (OpenSpec.ofChange pickLeastSpec)

/-- ITS FALSE NEIGHBOUR: 'it returns false'. Refute it at one input. -/
def pickLeastWrong : ChangeSpec := { name := "pickLeast", fn := fun _ => fun
  | [d] => { results := [.lit (.bool false)], args := [d] }
  | _ => none }
def PickLeastWrongFalsely : Prop := pickLeastRow.holds Try.pinned (OpenSpec.ofChange pickLeastWrong)

/-- 'thresherlaw15.PickMays': WHATEVER THE INPUT: true; the input reads as it did. -/
def pickMaysSpec : ChangeSpec := { name := "pickMays", fn := fun _ => fun
  | [d] => { results := [.lit (.bool true)], args := [d] }
  | _ => none }
def pickMaysRow : OpenClaim := { program := "ytcpdmbeilfpiiaa", sum := "251214b18bf1be730e8d5a86e8980d9ed9382a07975453534a1be8d2cf5d8f24", func := "thresher/thresherlaw15.PickMays", spec := "pickMays", unfollowed := true, recurses := true, apart := false }
def PickMaysSaid : Prop := pickMaysRow.holds Try.pinned (OpenSpec.ofChange pickMaysSpec)

/-- ITS FALSE NEIGHBOUR: 'it returns false'. Refute it at one input. -/
def pickMaysWrong : ChangeSpec := { name := "pickMays", fn := fun _ => fun
  | [d] => { results := [.lit (.bool false)], args := [d] }
  | _ => none }
def PickMaysWrongFalsely : Prop := pickMaysRow.holds Try.pinned (OpenSpec.ofChange pickMaysWrong)

/-- 'thresherlaw15.PickAll': WHATEVER THE INPUT: true; the input reads as it did. -/
def pickAllSpec : ChangeSpec := { name := "pickAll", fn := fun _ => fun
  | [d1, d2] => { results := [.lit (.bool true)], args := [d1, d2] }
  | _ => none }
def pickAllRow : OpenClaim := { program := "ytcpdmbeilfpiiaa", sum := "251214b18bf1be730e8d5a86e8980d9ed9382a07975453534a1be8d2cf5d8f24", func := "thresher/thresherlaw15.PickAll", spec := "pickAll", unfollowed := true, recurses := true, apart := false }
def PickAllSaid : Prop := pickAllRow.holds Try.pinned (OpenSpec.ofChange pickAllSpec)

/-- ITS FALSE NEIGHBOUR: 'it returns false'. Refute it at one input. -/
def pickAllWrong : ChangeSpec := { name := "pickAll", fn := fun _ => fun
  | [d1, d2] => { results := [.lit (.bool false)], args := [d1, d2] }
  | _ => none }
def PickAllWrongFalsely : Prop := pickAllRow.holds Try.pinned (OpenSpec.ofChange pickAllWrong)

/-- 'thresherlaw15.PickLeads': WHATEVER THE INPUT: true; the input reads as it did. -/
def pickLeadsSpec : ChangeSpec := { name := "pickLeads", fn := fun _ => fun
  | [d] => { results := [.lit (.bool true)], args := [d] }
  | _ => none }
def pickLeadsRow : OpenClaim := { program := "ytcpdmbeilfpiiaa", sum := "251214b18bf1be730e8d5a86e8980d9ed9382a07975453534a1be8d2cf5d8f24", func := "thresher/thresherlaw15.PickLeads", spec := "pickLeads", unfollowed := true, recurses := true, apart := false }
def PickLeadsSaid : Prop := pickLeadsRow.holds Try.pinned (OpenSpec.ofChange pickLeadsSpec)

/-- ITS FALSE NEIGHBOUR: 'it returns false'. Refute it at one input. -/
def pickLeadsWrong : ChangeSpec := { name := "pickLeads", fn := fun _ => fun
  | [d] => { results := [.lit (.bool false)], args := [d] }
  | _ => none }
def PickLeadsWrongFalsely : Prop := pickLeadsRow.holds Try.pinned (OpenSpec.ofChange pickLeadsWrong)

/-- 'thresherlaw15.PickAfters': WHATEVER THE INPUT: true; the input reads as it did. -/
def pickAftersSpec : ChangeSpec := { name := "pickAfters", fn := fun _ => fun
  | [d1, d2, d3] => { results := [.lit (.bool true)], args := [d1, d2, d3] }
  | _ => none }
def pickAftersRow : OpenClaim := { program := "ytcpdmbeilfpiiaa", sum := "251214b18bf1be730e8d5a86e8980d9ed9382a07975453534a1be8d2cf5d8f24", func := "thresher/thresherlaw15.PickAfters", spec := "pickAfters", unfollowed := true, recurses := true, apart := false }
def PickAftersSaid : Prop := pickAftersRow.holds Try.pinned (OpenSpec.ofChange pickAftersSpec)

/-- ITS FALSE NEIGHBOUR: 'it returns false'. Refute it at one input. -/
def pickAftersWrong : ChangeSpec := { name := "pickAfters", fn := fun _ => fun
  | [d1, d2, d3] => { results := [.lit (.bool false)], args := [d1, d2, d3] }
  | _ => none }
def PickAftersWrongFalsely : Prop := pickAftersRow.holds Try.pinned (OpenSpec.ofChange pickAftersWrong)

/- THE SECOND FORM. 'bulk': how many values and letters a reading holds, each counted each time it is reached (what is shared counts as often as it is met; a slice's spare places count too). A statement '..UptoSaid' is the law's where the arguments, and the package variables that the reading takes, are together of bulk at most 1048576: NARROWER than '..Said'. Prove '..Said' where nothing that the law and all that it calls make is longer than what came in: it says more and counts as full. Else prove '..UptoSaid'. A law counts once. -/
mutual
def uptoBulk {H : Type} : DataW H → Nat
  | .lit (.string bytes) => bytes.length + 1
  | .lit _ => 1
  | .nil => 1
  | .ptr d => uptoBulk d + 1
  | .slice elems spare => uptoBulkAll elems + uptoBulkAll spare + 1
  | .agg parts => uptoBulkAll parts + 1
  | .iface _ d => uptoBulk d + 1
  | .map entries => uptoBulkEntries entries + 1
  | .held _ => 1
def uptoBulkAll {H : Type} : List (DataW H) → Nat
  | [] => 0
  | d :: r => uptoBulk d + uptoBulkAll r
def uptoBulkEntries {H : Type} : List (Lit × DataW H) → Nat
  | [] => 0
  | x :: r => uptoBulkEntry x + uptoBulkEntries r
def uptoBulkEntry {H : Type} : Lit × DataW H → Nat
  | (.string bytes, d) => bytes.length + uptoBulk d + 1
  | (_, d) => uptoBulk d + 1
 end
def uptoSmall : (H : Type) → List (DataW H) → Bool := fun _ ds => decide (uptoBulkAll ds ≤ 1048576)
def OpenSpec.upto (s : _root_.Go.ChangeSpec) : _root_.Go.OpenSpec := { _root_.Go.OpenSpec.ofChange s with cond := some uptoSmall }

/-- 'thresherlaw15.PickLeast', WHERE WHAT IT READS IS OF BULK AT MOST 1048576: true; the input reads as it did. -/
def pickLeastUptoRow : OpenClaim := { program := "ytcpdmbeilfpiiaa", sum := "251214b18bf1be730e8d5a86e8980d9ed9382a07975453534a1be8d2cf5d8f24", func := "thresher/thresherlaw15.PickLeast", spec := "pickLeast", unfollowed := true, recurses := true, apart := false, narrowed := true }
def PickLeastUptoSaid : Prop := pickLeastUptoRow.holds Try.pinned (OpenSpec.upto pickLeastSpec)

/-- 'thresherlaw15.PickMays', WHERE WHAT IT READS IS OF BULK AT MOST 1048576: true; the input reads as it did. -/
def pickMaysUptoRow : OpenClaim := { program := "ytcpdmbeilfpiiaa", sum := "251214b18bf1be730e8d5a86e8980d9ed9382a07975453534a1be8d2cf5d8f24", func := "thresher/thresherlaw15.PickMays", spec := "pickMays", unfollowed := true, recurses := true, apart := false, narrowed := true }
def PickMaysUptoSaid : Prop := pickMaysUptoRow.holds Try.pinned (OpenSpec.upto pickMaysSpec)

/-- 'thresherlaw15.PickAll', WHERE WHAT IT READS IS OF BULK AT MOST 1048576: true; the input reads as it did. -/
def pickAllUptoRow : OpenClaim := { program := "ytcpdmbeilfpiiaa", sum := "251214b18bf1be730e8d5a86e8980d9ed9382a07975453534a1be8d2cf5d8f24", func := "thresher/thresherlaw15.PickAll", spec := "pickAll", unfollowed := true, recurses := true, apart := false, narrowed := true }
def PickAllUptoSaid : Prop := pickAllUptoRow.holds Try.pinned (OpenSpec.upto pickAllSpec)

/-- 'thresherlaw15.PickLeads', WHERE WHAT IT READS IS OF BULK AT MOST 1048576: true; the input reads as it did. -/
def pickLeadsUptoRow : OpenClaim := { program := "ytcpdmbeilfpiiaa", sum := "251214b18bf1be730e8d5a86e8980d9ed9382a07975453534a1be8d2cf5d8f24", func := "thresher/thresherlaw15.PickLeads", spec := "pickLeads", unfollowed := true, recurses := true, apart := false, narrowed := true }
def PickLeadsUptoSaid : Prop := pickLeadsUptoRow.holds Try.pinned (OpenSpec.upto pickLeadsSpec)

/-- 'thresherlaw15.PickAfters', WHERE WHAT IT READS IS OF BULK AT MOST 1048576: true; the input reads as it did. -/
def pickAftersUptoRow : OpenClaim := { program := "ytcpdmbeilfpiiaa", sum := "251214b18bf1be730e8d5a86e8980d9ed9382a07975453534a1be8d2cf5d8f24", func := "thresher/thresherlaw15.PickAfters", spec := "pickAfters", unfollowed := true, recurses := true, apart := false, narrowed := true }
def PickAftersUptoSaid : Prop := pickAftersUptoRow.holds Try.pinned (OpenSpec.upto pickAftersSpec)

end Rows
end Go.Proofs.Ytcpdmbeilfpiiaa
