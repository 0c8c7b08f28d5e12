/-
  No cell of these rows narrows 'for every input' (looked for: loops, veiled, ifaces, maps, wideKeys, modest, calm, conditions, laid).
  DERIVED. THE GIVEN ROWS OF THIS SEAT. 5 by the template 'for every input the law returns true; each argument reads behind the call as it read before'; 0 by the template 'total and deterministic' (their statements: YtapaldcdoahfeaaTotals.lean).
  GIVEN WITH THE SEED: the statements are not yours to turn. If you find one false, say at which input.
  Laid BY PROGRAM, IN A SANDBOX (cutbox-rows.mjs): the forced cells as the released guide's own fill.sh prints them over the translation 0f247b311154ad11… (all of the seat's roots in one cut). By AI agents, Wed Nov 11 2026. No macro, syntax, notation, axiom, sorry.
-/
import Derived.Test.YtapaldcdoahfeaaChecked
import GoSem.Claim
import GoSem.ClaimJoined
import GoSem.ClaimMapViews
import Derived.JoinedTies
import Derived.KernelRfl
namespace Go.Proofs.Ytapaldcdoahfeaa
/- THE CELL 'sum', in the pinned program and in every row, IS THE sha256 OF THE DUMP (.gsa) THAT YtapaldcdoahfeaaProg.lean LOADS. Nothing in Lean hashes anything: it is a label: what it is worth is what the hold of that sum in a sandbox is worth. -/
noncomputable def Try.pinned : Pinned := { name := "ytapaldcdoahfeaa", sum := "0f247b311154ad11b5f54f98313591b11edd3175d822a973f4198fe7eda35028", checked := Try.checked }
namespace Rows
def none {H : Type} : Left H := { results := [], args := [] }

/-- 'thresherlaw20.AggEnds': WHATEVER THE INPUT: true; the input reads as it did. -/
def aggEndsSpec : ChangeSpec := { name := "aggEnds", fn := fun _ => fun
  | [d1, d2] => { results := [.lit (.bool true)], args := [d1, d2] }
  | _ => none }
def aggEndsRow : OpenClaim := { program := "ytapaldcdoahfeaa", sum := "0f247b311154ad11b5f54f98313591b11edd3175d822a973f4198fe7eda35028", func := "thresher/thresherlaw20.AggEnds", spec := "aggEnds", inPlace := ["internal/bytealg.abigen_runtime_cmpstring"], unfollowed := true, recurses := true, apart := false }
def AggEndsSaid : Prop := aggEndsRow.holds Try.pinned (OpenSpec.ofChange aggEndsSpec)

/-- ITS FALSE NEIGHBOUR: 'it returns false'. Refute it at one input. -/
def aggEndsWrong : ChangeSpec := { name := "aggEnds", fn := fun _ => fun
  | [d1, d2] => { results := [.lit (.bool false)], args := [d1, d2] }
  | _ => none }
def AggEndsWrongFalsely : Prop := aggEndsRow.holds Try.pinned (OpenSpec.ofChange aggEndsWrong)

/-- 'thresherlaw20.AggOrder': WHATEVER THE INPUT: true; the input reads as it did. -/
def aggOrderSpec : ChangeSpec := { name := "aggOrder", fn := fun _ => fun
  | [d1, d2, d3] => { results := [.lit (.bool true)], args := [d1, d2, d3] }
  | _ => none }
def aggOrderRow : OpenClaim := { program := "ytapaldcdoahfeaa", sum := "0f247b311154ad11b5f54f98313591b11edd3175d822a973f4198fe7eda35028", func := "thresher/thresherlaw20.AggOrder", spec := "aggOrder", inPlace := ["internal/bytealg.abigen_runtime_cmpstring"], unfollowed := true, recurses := true, apart := false }
def AggOrderSaid : Prop := aggOrderRow.holds Try.pinned (OpenSpec.ofChange aggOrderSpec)

/-- ITS FALSE NEIGHBOUR: 'it returns false'. Refute it at one input. -/
def aggOrderWrong : ChangeSpec := { name := "aggOrder", fn := fun _ => fun
  | [d1, d2, d3] => { results := [.lit (.bool false)], args := [d1, d2, d3] }
  | _ => none }
def AggOrderWrongFalsely : Prop := aggOrderRow.holds Try.pinned (OpenSpec.ofChange aggOrderWrong)

/-- 'thresherlaw20.AggParts': WHATEVER THE INPUT: true; the input reads as it did. -/
def aggPartsSpec : ChangeSpec := { name := "aggParts", fn := fun _ => fun
  | [d1, d2, d3] => { results := [.lit (.bool true)], args := [d1, d2, d3] }
  | _ => none }
def aggPartsRow : OpenClaim := { program := "ytapaldcdoahfeaa", sum := "0f247b311154ad11b5f54f98313591b11edd3175d822a973f4198fe7eda35028", func := "thresher/thresherlaw20.AggParts", spec := "aggParts", inPlace := ["internal/bytealg.abigen_runtime_cmpstring"], unfollowed := true, recurses := true, apart := false }
def AggPartsSaid : Prop := aggPartsRow.holds Try.pinned (OpenSpec.ofChange aggPartsSpec)

/-- ITS FALSE NEIGHBOUR: 'it returns false'. Refute it at one input. -/
def aggPartsWrong : ChangeSpec := { name := "aggParts", fn := fun _ => fun
  | [d1, d2, d3] => { results := [.lit (.bool false)], args := [d1, d2, d3] }
  | _ => none }
def AggPartsWrongFalsely : Prop := aggPartsRow.holds Try.pinned (OpenSpec.ofChange aggPartsWrong)

/-- 'thresherlaw20.AggAll': WHATEVER THE INPUT: true; the input reads as it did. -/
def aggAllSpec : ChangeSpec := { name := "aggAll", fn := fun _ => fun
  | [d1, d2, d3] => { results := [.lit (.bool true)], args := [d1, d2, d3] }
  | _ => none }
def aggAllRow : OpenClaim := { program := "ytapaldcdoahfeaa", sum := "0f247b311154ad11b5f54f98313591b11edd3175d822a973f4198fe7eda35028", func := "thresher/thresherlaw20.AggAll", spec := "aggAll", inPlace := ["internal/bytealg.abigen_runtime_cmpstring"], unfollowed := true, recurses := true, apart := false }
def AggAllSaid : Prop := aggAllRow.holds Try.pinned (OpenSpec.ofChange aggAllSpec)

/-- ITS FALSE NEIGHBOUR: 'it returns false'. Refute it at one input. -/
def aggAllWrong : ChangeSpec := { name := "aggAll", fn := fun _ => fun
  | [d1, d2, d3] => { results := [.lit (.bool false)], args := [d1, d2, d3] }
  | _ => none }
def AggAllWrongFalsely : Prop := aggAllRow.holds Try.pinned (OpenSpec.ofChange aggAllWrong)

/-- 'thresherlaw20.AggMay': WHATEVER THE INPUT: true; the input reads as it did. -/
def aggMaySpec : ChangeSpec := { name := "aggMay", fn := fun _ => fun
  | [d1, d2, d3] => { results := [.lit (.bool true)], args := [d1, d2, d3] }
  | _ => none }
def aggMayRow : OpenClaim := { program := "ytapaldcdoahfeaa", sum := "0f247b311154ad11b5f54f98313591b11edd3175d822a973f4198fe7eda35028", func := "thresher/thresherlaw20.AggMay", spec := "aggMay", inPlace := ["internal/bytealg.abigen_runtime_cmpstring"], unfollowed := true, recurses := true, apart := false }
def AggMaySaid : Prop := aggMayRow.holds Try.pinned (OpenSpec.ofChange aggMaySpec)

/-- ITS FALSE NEIGHBOUR: 'it returns false'. Refute it at one input. -/
def aggMayWrong : ChangeSpec := { name := "aggMay", fn := fun _ => fun
  | [d1, d2, d3] => { results := [.lit (.bool false)], args := [d1, d2, d3] }
  | _ => none }
def AggMayWrongFalsely : Prop := aggMayRow.holds Try.pinned (OpenSpec.ofChange aggMayWrong)

/- THE SECOND FORM. 'bulk': how many values and letters a reading holds, each counted each time it is reached (what is shared counts as often as it is met; a slice's spare places count too). A statement '..UptoSaid' is the law's where the arguments, and the package variables that the reading takes, are together of bulk at most 1048576: NARROWER than '..Said'. Prove '..Said' where nothing that the law and all that it calls make is longer than what came in: it says more and counts as full. Else prove '..UptoSaid'. A law counts once. -/
mutual
def uptoBulk {H : Type} : DataW H → Nat
  | .lit (.string bytes) => bytes.length + 1
  | .lit _ => 1
  | .nil => 1
  | .ptr d => uptoBulk d + 1
  | .slice elems spare => uptoBulkAll elems + uptoBulkAll spare + 1
  | .agg parts => uptoBulkAll parts + 1
  | .iface _ d => uptoBulk d + 1
  | .map entries => uptoBulkEntries entries + 1
  | .held _ => 1
def uptoBulkAll {H : Type} : List (DataW H) → Nat
  | [] => 0
  | d :: r => uptoBulk d + uptoBulkAll r
def uptoBulkEntries {H : Type} : List (Lit × DataW H) → Nat
  | [] => 0
  | x :: r => uptoBulkEntry x + uptoBulkEntries r
def uptoBulkEntry {H : Type} : Lit × DataW H → Nat
  | (.string bytes, d) => bytes.length + uptoBulk d + 1
  | (_, d) => uptoBulk d + 1
 end
def uptoSmall : (H : Type) → List (DataW H) → Bool := fun _ ds => decide (uptoBulkAll ds ≤ 1048576)
def OpenSpec.upto (s : _root_.Go.ChangeSpec) : _root_.Go.OpenSpec := { _root_.Go.OpenSpec.ofChange s with cond := some uptoSmall }

/-- 'thresherlaw20.AggEnds', WHERE WHAT IT READS IS OF BULK AT MOST 1048576: true; the input reads as it did. -/
def aggEndsUptoRow : OpenClaim := { program := "ytapaldcdoahfeaa", sum := "0f247b311154ad11b5f54f98313591b11edd3175d822a973f4198fe7eda35028", func := "thresher/thresherlaw20.AggEnds", spec := "aggEnds", inPlace := ["internal/bytealg.abigen_runtime_cmpstring"], unfollowed := true, recurses := true, apart := false, narrowed := true }
def AggEndsUptoSaid : Prop := aggEndsUptoRow.holds Try.pinned (OpenSpec.upto aggEndsSpec)

/-- 'thresherlaw20.AggOrder', WHERE WHAT IT READS IS OF BULK AT MOST 1048576: true; the input reads as it did. -/
def aggOrderUptoRow : OpenClaim := { program := "ytapaldcdoahfeaa", sum := "0f247b311154ad11b5f54f98313591b11edd3175d822a973f4198fe7eda35028", func := "thresher/thresherlaw20.AggOrder", spec := "aggOrder", inPlace := ["internal/bytealg.abigen_runtime_cmpstring"], unfollowed := true, recurses := true, apart := false, narrowed := true }
def AggOrderUptoSaid : Prop := aggOrderUptoRow.holds Try.pinned (OpenSpec.upto aggOrderSpec)

/-- 'thresherlaw20.AggParts', WHERE WHAT IT READS IS OF BULK AT MOST 1048576: true; the input reads as it did. -/
def aggPartsUptoRow : OpenClaim := { program := "ytapaldcdoahfeaa", sum := "0f247b311154ad11b5f54f98313591b11edd3175d822a973f4198fe7eda35028", func := "thresher/thresherlaw20.AggParts", spec := "aggParts", inPlace := ["internal/bytealg.abigen_runtime_cmpstring"], unfollowed := true, recurses := true, apart := false, narrowed := true }
def AggPartsUptoSaid : Prop := aggPartsUptoRow.holds Try.pinned (OpenSpec.upto aggPartsSpec)

/-- 'thresherlaw20.AggAll', WHERE WHAT IT READS IS OF BULK AT MOST 1048576: true; the input reads as it did. -/
def aggAllUptoRow : OpenClaim := { program := "ytapaldcdoahfeaa", sum := "0f247b311154ad11b5f54f98313591b11edd3175d822a973f4198fe7eda35028", func := "thresher/thresherlaw20.AggAll", spec := "aggAll", inPlace := ["internal/bytealg.abigen_runtime_cmpstring"], unfollowed := true, recurses := true, apart := false, narrowed := true }
def AggAllUptoSaid : Prop := aggAllUptoRow.holds Try.pinned (OpenSpec.upto aggAllSpec)

/-- 'thresherlaw20.AggMay', WHERE WHAT IT READS IS OF BULK AT MOST 1048576: true; the input reads as it did. -/
def aggMayUptoRow : OpenClaim := { program := "ytapaldcdoahfeaa", sum := "0f247b311154ad11b5f54f98313591b11edd3175d822a973f4198fe7eda35028", func := "thresher/thresherlaw20.AggMay", spec := "aggMay", inPlace := ["internal/bytealg.abigen_runtime_cmpstring"], unfollowed := true, recurses := true, apart := false, narrowed := true }
def AggMayUptoSaid : Prop := aggMayUptoRow.holds Try.pinned (OpenSpec.upto aggMaySpec)

end Rows
end Go.Proofs.Ytapaldcdoahfeaa
