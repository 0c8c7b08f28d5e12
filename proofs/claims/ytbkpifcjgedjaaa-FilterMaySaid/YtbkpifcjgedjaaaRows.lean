/-
  No cell of these rows narrows 'for every input' (looked for: loops, veiled, ifaces, maps, wideKeys, modest, calm, conditions, laid).
  DERIVED. THE GIVEN ROWS OF THIS SEAT. 5 by the template 'for every input the law returns true; each argument reads behind the call as it read before'; 0 by the template 'total and deterministic' (their statements: YtbkpifcjgedjaaaTotals.lean).
  GIVEN WITH THE SEED: the statements are not yours to turn. If you find one false, say at which input.
  Laid BY PROGRAM, IN A SANDBOX (cutbox-rows.mjs): the forced cells as the released guide's own fill.sh prints them over the translation 873d5668f1322041… (all of the seat's roots in one cut). By AI agents, Wed Nov 11 2026. No macro, syntax, notation, axiom, sorry.
-/
import Derived.Test.YtbkpifcjgedjaaaChecked
import GoSem.Claim
import GoSem.ClaimJoined
import GoSem.ClaimMapViews
import Derived.JoinedTies
import Derived.KernelRfl
namespace Go.Proofs.Ytbkpifcjgedjaaa
/- THE CELL 'sum', in the pinned program and in every row, IS THE sha256 OF THE DUMP (.gsa) THAT YtbkpifcjgedjaaaProg.lean LOADS. Nothing in Lean hashes anything: it is a label: what it is worth is what the hold of that sum in a sandbox is worth. -/
noncomputable def Try.pinned : Pinned := { name := "ytbkpifcjgedjaaa", sum := "873d5668f13220413037c427a53faa1abf988cb7ba86fc62412ac3d35ac61279", checked := Try.checked }
namespace Rows
def none {H : Type} : Left H := { results := [], args := [] }

/-- 'thresherlaw19.FilterSelects': WHATEVER THE INPUT: true; the input reads as it did. -/
def filterSelectsSpec : ChangeSpec := { name := "filterSelects", fn := fun _ => fun
  | [d1, d2, d3] => { results := [.lit (.bool true)], args := [d1, d2, d3] }
  | _ => none }
def filterSelectsRow : OpenClaim := { program := "ytbkpifcjgedjaaa", sum := "873d5668f13220413037c427a53faa1abf988cb7ba86fc62412ac3d35ac61279", func := "thresher/thresherlaw19.FilterSelects", spec := "filterSelects", inPlace := ["internal/bytealg.abigen_runtime_cmpstring"], apart := false }
def FilterSelectsSaid : Prop := filterSelectsRow.holds Try.pinned (OpenSpec.ofChange filterSelectsSpec)

/-- ITS FALSE NEIGHBOUR: 'it returns false'. Refute it at one input. -/
def filterSelectsWrong : ChangeSpec := { name := "filterSelects", fn := fun _ => fun
  | [d1, d2, d3] => { results := [.lit (.bool false)], args := [d1, d2, d3] }
  | _ => none }
def FilterSelectsWrongFalsely : Prop := filterSelectsRow.holds Try.pinned (OpenSpec.ofChange filterSelectsWrong)

/-- 'thresherlaw19.FilterSides': WHATEVER THE INPUT: true; the input reads as it did. -/
def filterSidesSpec : ChangeSpec := { name := "filterSides", fn := fun _ => fun
  | [d1, d2, d3] => { results := [.lit (.bool true)], args := [d1, d2, d3] }
  | _ => none }
def filterSidesRow : OpenClaim := { program := "ytbkpifcjgedjaaa", sum := "873d5668f13220413037c427a53faa1abf988cb7ba86fc62412ac3d35ac61279", func := "thresher/thresherlaw19.FilterSides", spec := "filterSides", inPlace := ["internal/bytealg.abigen_runtime_cmpstring"], apart := false }
def FilterSidesSaid : Prop := filterSidesRow.holds Try.pinned (OpenSpec.ofChange filterSidesSpec)

/-- ITS FALSE NEIGHBOUR: 'it returns false'. Refute it at one input. -/
def filterSidesWrong : ChangeSpec := { name := "filterSides", fn := fun _ => fun
  | [d1, d2, d3] => { results := [.lit (.bool false)], args := [d1, d2, d3] }
  | _ => none }
def FilterSidesWrongFalsely : Prop := filterSidesRow.holds Try.pinned (OpenSpec.ofChange filterSidesWrong)

/-- 'thresherlaw19.FilterMay': WHATEVER THE INPUT: true; the input reads as it did. -/
def filterMaySpec : ChangeSpec := { name := "filterMay", fn := fun _ => fun
  | [d1, d2, d3] => { results := [.lit (.bool true)], args := [d1, d2, d3] }
  | _ => none }
def filterMayRow : OpenClaim := { program := "ytbkpifcjgedjaaa", sum := "873d5668f13220413037c427a53faa1abf988cb7ba86fc62412ac3d35ac61279", func := "thresher/thresherlaw19.FilterMay", spec := "filterMay", inPlace := ["internal/bytealg.abigen_runtime_cmpstring"], unfollowed := true, recurses := true, apart := false }
def FilterMaySaid : Prop := filterMayRow.holds Try.pinned (OpenSpec.ofChange filterMaySpec)

/-- ITS FALSE NEIGHBOUR: 'it returns false'. Refute it at one input. -/
def filterMayWrong : ChangeSpec := { name := "filterMay", fn := fun _ => fun
  | [d1, d2, d3] => { results := [.lit (.bool false)], args := [d1, d2, d3] }
  | _ => none }
def FilterMayWrongFalsely : Prop := filterMayRow.holds Try.pinned (OpenSpec.ofChange filterMayWrong)

/-- 'thresherlaw19.FilterAll': WHATEVER THE INPUT: true; the input reads as it did. -/
def filterAllSpec : ChangeSpec := { name := "filterAll", fn := fun _ => fun
  | [d1, d2, d3] => { results := [.lit (.bool true)], args := [d1, d2, d3] }
  | _ => none }
def filterAllRow : OpenClaim := { program := "ytbkpifcjgedjaaa", sum := "873d5668f13220413037c427a53faa1abf988cb7ba86fc62412ac3d35ac61279", func := "thresher/thresherlaw19.FilterAll", spec := "filterAll", inPlace := ["internal/bytealg.abigen_runtime_cmpstring"], apart := false }
def FilterAllSaid : Prop := filterAllRow.holds Try.pinned (OpenSpec.ofChange filterAllSpec)

/-- ITS FALSE NEIGHBOUR: 'it returns false'. Refute it at one input. -/
def filterAllWrong : ChangeSpec := { name := "filterAll", fn := fun _ => fun
  | [d1, d2, d3] => { results := [.lit (.bool false)], args := [d1, d2, d3] }
  | _ => none }
def FilterAllWrongFalsely : Prop := filterAllRow.holds Try.pinned (OpenSpec.ofChange filterAllWrong)

/-- 'thresherlaw19.FilterBegins': WHATEVER THE INPUT: true; the input reads as it did. -/
def filterBeginsSpec : ChangeSpec := { name := "filterBegins", fn := fun _ => fun
  | [d1, d2] => { results := [.lit (.bool true)], args := [d1, d2] }
  | _ => none }
def filterBeginsRow : OpenClaim := { program := "ytbkpifcjgedjaaa", sum := "873d5668f13220413037c427a53faa1abf988cb7ba86fc62412ac3d35ac61279", func := "thresher/thresherlaw19.FilterBegins", spec := "filterBegins", inPlace := ["internal/bytealg.abigen_runtime_cmpstring"], apart := false }
def FilterBeginsSaid : Prop := filterBeginsRow.holds Try.pinned (OpenSpec.ofChange filterBeginsSpec)

/-- ITS FALSE NEIGHBOUR: 'it returns false'. Refute it at one input. -/
def filterBeginsWrong : ChangeSpec := { name := "filterBegins", fn := fun _ => fun
  | [d1, d2] => { results := [.lit (.bool false)], args := [d1, d2] }
  | _ => none }
def FilterBeginsWrongFalsely : Prop := filterBeginsRow.holds Try.pinned (OpenSpec.ofChange filterBeginsWrong)

/- THE SECOND FORM. 'bulk': how many values and letters a reading holds, each counted each time it is reached (what is shared counts as often as it is met; a slice's spare places count too). A statement '..UptoSaid' is the law's where the arguments, and the package variables that the reading takes, are together of bulk at most 1048576: NARROWER than '..Said'. Prove '..Said' where nothing that the law and all that it calls make is longer than what came in: it says more and counts as full. Else prove '..UptoSaid'. A law counts once. -/
mutual
def uptoBulk {H : Type} : DataW H → Nat
  | .lit (.string bytes) => bytes.length + 1
  | .lit _ => 1
  | .nil => 1
  | .ptr d => uptoBulk d + 1
  | .slice elems spare => uptoBulkAll elems + uptoBulkAll spare + 1
  | .agg parts => uptoBulkAll parts + 1
  | .iface _ d => uptoBulk d + 1
  | .map entries => uptoBulkEntries entries + 1
  | .held _ => 1
def uptoBulkAll {H : Type} : List (DataW H) → Nat
  | [] => 0
  | d :: r => uptoBulk d + uptoBulkAll r
def uptoBulkEntries {H : Type} : List (Lit × DataW H) → Nat
  | [] => 0
  | x :: r => uptoBulkEntry x + uptoBulkEntries r
def uptoBulkEntry {H : Type} : Lit × DataW H → Nat
  | (.string bytes, d) => bytes.length + uptoBulk d + 1
  | (_, d) => uptoBulk d + 1
 end
def uptoSmall : (H : Type) → List (DataW H) → Bool := fun _ ds => decide (uptoBulkAll ds ≤ 1048576)
def OpenSpec.upto (s : _root_.Go.ChangeSpec) : _root_.Go.OpenSpec := { _root_.Go.OpenSpec.ofChange s with cond := some uptoSmall }

/-- 'thresherlaw19.FilterSelects', WHERE WHAT IT READS IS OF BULK AT MOST 1048576: true; the input reads as it did. -/
def filterSelectsUptoRow : OpenClaim := { program := "ytbkpifcjgedjaaa", sum := "873d5668f13220413037c427a53faa1abf988cb7ba86fc62412ac3d35ac61279", func := "thresher/thresherlaw19.FilterSelects", spec := "filterSelects", inPlace := ["internal/bytealg.abigen_runtime_cmpstring"], apart := false, narrowed := true }
def FilterSelectsUptoSaid : Prop := filterSelectsUptoRow.holds Try.pinned (OpenSpec.upto filterSelectsSpec)

/-- 'thresherlaw19.FilterSides', WHERE WHAT IT READS IS OF BULK AT MOST 1048576: true; the input reads as it did. -/
def filterSidesUptoRow : OpenClaim := { program := "ytbkpifcjgedjaaa", sum := "873d5668f13220413037c427a53faa1abf988cb7ba86fc62412ac3d35ac61279", func := "thresher/thresherlaw19.FilterSides", spec := "filterSides", inPlace := ["internal/bytealg.abigen_runtime_cmpstring"], apart := false, narrowed := true }
def FilterSidesUptoSaid : Prop := filterSidesUptoRow.holds Try.pinned (OpenSpec.upto filterSidesSpec)

/-- 'thresherlaw19.FilterMay', WHERE WHAT IT READS IS OF BULK AT MOST 1048576: true; the input reads as it did. -/
def filterMayUptoRow : OpenClaim := { program := "ytbkpifcjgedjaaa", sum := "873d5668f13220413037c427a53faa1abf988cb7ba86fc62412ac3d35ac61279", func := "thresher/thresherlaw19.FilterMay", spec := "filterMay", inPlace := ["internal/bytealg.abigen_runtime_cmpstring"], unfollowed := true, recurses := true, apart := false, narrowed := true }
def FilterMayUptoSaid : Prop := filterMayUptoRow.holds Try.pinned (OpenSpec.upto filterMaySpec)

/-- 'thresherlaw19.FilterAll', WHERE WHAT IT READS IS OF BULK AT MOST 1048576: true; the input reads as it did. -/
def filterAllUptoRow : OpenClaim := { program := "ytbkpifcjgedjaaa", sum := "873d5668f13220413037c427a53faa1abf988cb7ba86fc62412ac3d35ac61279", func := "thresher/thresherlaw19.FilterAll", spec := "filterAll", inPlace := ["internal/bytealg.abigen_runtime_cmpstring"], apart := false, narrowed := true }
def FilterAllUptoSaid : Prop := filterAllUptoRow.holds Try.pinned (OpenSpec.upto filterAllSpec)

/-- 'thresherlaw19.FilterBegins', WHERE WHAT IT READS IS OF BULK AT MOST 1048576: true; the input reads as it did. -/
def filterBeginsUptoRow : OpenClaim := { program := "ytbkpifcjgedjaaa", sum := "873d5668f13220413037c427a53faa1abf988cb7ba86fc62412ac3d35ac61279", func := "thresher/thresherlaw19.FilterBegins", spec := "filterBegins", inPlace := ["internal/bytealg.abigen_runtime_cmpstring"], apart := false, narrowed := true }
def FilterBeginsUptoSaid : Prop := filterBeginsUptoRow.holds Try.pinned (OpenSpec.upto filterBeginsSpec)

end Rows
end Go.Proofs.Ytbkpifcjgedjaaa
