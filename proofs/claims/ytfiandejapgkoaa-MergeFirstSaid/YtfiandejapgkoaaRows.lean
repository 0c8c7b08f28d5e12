/-
  No cell of these rows narrows 'for every input' (looked for: loops, veiled, ifaces, maps, wideKeys, modest, calm, conditions, laid).
  DERIVED. THE GIVEN ROWS OF THIS SEAT. 5 by the template 'for every input the law returns true; each argument reads behind the call as it read before'; 0 by the template 'total and deterministic' (their statements: YtfiandejapgkoaaTotals.lean).
  GIVEN WITH THE SEED: the statements are not yours to turn. If you find one false, say at which input.
  Laid BY PROGRAM, IN A SANDBOX (cutbox-rows.mjs): the forced cells as the released guide's own fill.sh prints them over the translation e7a7f22a48abf6c9… (all of the seat's roots in one cut). By AI agents, Wed Nov 11 2026. No macro, syntax, notation, axiom, sorry.
-/
import Derived.Test.YtfiandejapgkoaaChecked
import GoSem.Claim
import GoSem.ClaimJoined
import GoSem.ClaimMapViews
import Derived.JoinedTies
import Derived.KernelRfl
namespace Go.Proofs.Ytfiandejapgkoaa
/- THE CELL 'sum', in the pinned program and in every row, IS THE sha256 OF THE DUMP (.gsa) THAT YtfiandejapgkoaaProg.lean LOADS. Nothing in Lean hashes anything: it is a label: what it is worth is what the hold of that sum in a sandbox is worth. -/
noncomputable def Try.pinned : Pinned := { name := "ytfiandejapgkoaa", sum := "e7a7f22a48abf6c9a2677e0dc37ca07e9b93244612b94302cfd180fc44ce2d2e", checked := Try.checked }
namespace Rows
def none {H : Type} : Left H := { results := [], args := [] }

/-- 'thresherlaw14.MergeStable': WHATEVER THE INPUT: true; the input reads as it did. -/
def mergeStableSpec : ChangeSpec := { name := "mergeStable", fn := fun _ => fun
  | [d] => { results := [.lit (.bool true)], args := [d] }
  | _ => none }
def mergeStableRow : OpenClaim := { program := "ytfiandejapgkoaa", sum := "e7a7f22a48abf6c9a2677e0dc37ca07e9b93244612b94302cfd180fc44ce2d2e", func := "thresher/thresherlaw14.MergeStable", spec := "mergeStable", unfollowed := true, recurses := true, plainKeys := false, apart := false }
def MergeStableSaid : Prop := mergeStableRow.holds Try.pinned (OpenSpec.ofChange mergeStableSpec)

/-- ITS FALSE NEIGHBOUR: 'it returns false'. Refute it at one input. -/
def mergeStableWrong : ChangeSpec := { name := "mergeStable", fn := fun _ => fun
  | [d] => { results := [.lit (.bool false)], args := [d] }
  | _ => none }
def MergeStableWrongFalsely : Prop := mergeStableRow.holds Try.pinned (OpenSpec.ofChange mergeStableWrong)

/-- 'thresherlaw14.MergeAll': WHATEVER THE INPUT: true; the input reads as it did. -/
def mergeAllSpec : ChangeSpec := { name := "mergeAll", fn := fun _ => fun
  | [d1, d2] => { results := [.lit (.bool true)], args := [d1, d2] }
  | _ => none }
def mergeAllRow : OpenClaim := { program := "ytfiandejapgkoaa", sum := "e7a7f22a48abf6c9a2677e0dc37ca07e9b93244612b94302cfd180fc44ce2d2e", func := "thresher/thresherlaw14.MergeAll", spec := "mergeAll", inPlace := ["internal/bytealg.abigen_runtime_cmpstring"], unfollowed := true, recurses := true, plainKeys := false, apart := false }
def MergeAllSaid : Prop := mergeAllRow.holds Try.pinned (OpenSpec.ofChange mergeAllSpec)

/-- ITS FALSE NEIGHBOUR: 'it returns false'. Refute it at one input. -/
def mergeAllWrong : ChangeSpec := { name := "mergeAll", fn := fun _ => fun
  | [d1, d2] => { results := [.lit (.bool false)], args := [d1, d2] }
  | _ => none }
def MergeAllWrongFalsely : Prop := mergeAllRow.holds Try.pinned (OpenSpec.ofChange mergeAllWrong)

/-- 'thresherlaw14.MergeFirst': WHATEVER THE INPUT: true; the input reads as it did. -/
def mergeFirstSpec : ChangeSpec := { name := "mergeFirst", fn := fun _ => fun
  | [d1, d2, d3] => { results := [.lit (.bool true)], args := [d1, d2, d3] }
  | _ => none }
def mergeFirstRow : OpenClaim := { program := "ytfiandejapgkoaa", sum := "e7a7f22a48abf6c9a2677e0dc37ca07e9b93244612b94302cfd180fc44ce2d2e", func := "thresher/thresherlaw14.MergeFirst", spec := "mergeFirst", inPlace := ["internal/bytealg.abigen_runtime_cmpstring"], unfollowed := true, recurses := true, plainKeys := false, apart := false }
def MergeFirstSaid : Prop := mergeFirstRow.holds Try.pinned (OpenSpec.ofChange mergeFirstSpec)

/-- ITS FALSE NEIGHBOUR: 'it returns false'. Refute it at one input. -/
def mergeFirstWrong : ChangeSpec := { name := "mergeFirst", fn := fun _ => fun
  | [d1, d2, d3] => { results := [.lit (.bool false)], args := [d1, d2, d3] }
  | _ => none }
def MergeFirstWrongFalsely : Prop := mergeFirstRow.holds Try.pinned (OpenSpec.ofChange mergeFirstWrong)

/-- 'thresherlaw14.MergeCounts': WHATEVER THE INPUT: true; the input reads as it did. -/
def mergeCountsSpec : ChangeSpec := { name := "mergeCounts", fn := fun _ => fun
  | [d1, d2] => { results := [.lit (.bool true)], args := [d1, d2] }
  | _ => none }
def mergeCountsRow : OpenClaim := { program := "ytfiandejapgkoaa", sum := "e7a7f22a48abf6c9a2677e0dc37ca07e9b93244612b94302cfd180fc44ce2d2e", func := "thresher/thresherlaw14.MergeCounts", spec := "mergeCounts", inPlace := ["internal/bytealg.abigen_runtime_cmpstring"], unfollowed := true, recurses := true, plainKeys := false, apart := false }
def MergeCountsSaid : Prop := mergeCountsRow.holds Try.pinned (OpenSpec.ofChange mergeCountsSpec)

/-- ITS FALSE NEIGHBOUR: 'it returns false'. Refute it at one input. -/
def mergeCountsWrong : ChangeSpec := { name := "mergeCounts", fn := fun _ => fun
  | [d1, d2] => { results := [.lit (.bool false)], args := [d1, d2] }
  | _ => none }
def MergeCountsWrongFalsely : Prop := mergeCountsRow.holds Try.pinned (OpenSpec.ofChange mergeCountsWrong)

/-- 'thresherlaw14.MergeHalves': WHATEVER THE INPUT: true; the input reads as it did. -/
def mergeHalvesSpec : ChangeSpec := { name := "mergeHalves", fn := fun _ => fun
  | [d1, d2, d3] => { results := [.lit (.bool true)], args := [d1, d2, d3] }
  | _ => none }
def mergeHalvesRow : OpenClaim := { program := "ytfiandejapgkoaa", sum := "e7a7f22a48abf6c9a2677e0dc37ca07e9b93244612b94302cfd180fc44ce2d2e", func := "thresher/thresherlaw14.MergeHalves", spec := "mergeHalves", inPlace := ["internal/bytealg.abigen_runtime_cmpstring"], unfollowed := true, recurses := true, plainKeys := false, apart := false }
def MergeHalvesSaid : Prop := mergeHalvesRow.holds Try.pinned (OpenSpec.ofChange mergeHalvesSpec)

/-- ITS FALSE NEIGHBOUR: 'it returns false'. Refute it at one input. -/
def mergeHalvesWrong : ChangeSpec := { name := "mergeHalves", fn := fun _ => fun
  | [d1, d2, d3] => { results := [.lit (.bool false)], args := [d1, d2, d3] }
  | _ => none }
def MergeHalvesWrongFalsely : Prop := mergeHalvesRow.holds Try.pinned (OpenSpec.ofChange mergeHalvesWrong)

/- THE SECOND FORM. 'bulk': how many values and letters a reading holds, each counted each time it is reached (what is shared counts as often as it is met; a slice's spare places count too). A statement '..UptoSaid' is the law's where the arguments, and the package variables that the reading takes, are together of bulk at most 1048576: NARROWER than '..Said'. Prove '..Said' where nothing that the law and all that it calls make is longer than what came in: it says more and counts as full. Else prove '..UptoSaid'. A law counts once. -/
mutual
def uptoBulk {H : Type} : DataW H → Nat
  | .lit (.string bytes) => bytes.length + 1
  | .lit _ => 1
  | .nil => 1
  | .ptr d => uptoBulk d + 1
  | .slice elems spare => uptoBulkAll elems + uptoBulkAll spare + 1
  | .agg parts => uptoBulkAll parts + 1
  | .iface _ d => uptoBulk d + 1
  | .map entries => uptoBulkEntries entries + 1
  | .held _ => 1
def uptoBulkAll {H : Type} : List (DataW H) → Nat
  | [] => 0
  | d :: r => uptoBulk d + uptoBulkAll r
def uptoBulkEntries {H : Type} : List (Lit × DataW H) → Nat
  | [] => 0
  | x :: r => uptoBulkEntry x + uptoBulkEntries r
def uptoBulkEntry {H : Type} : Lit × DataW H → Nat
  | (.string bytes, d) => bytes.length + uptoBulk d + 1
  | (_, d) => uptoBulk d + 1
 end
def uptoSmall : (H : Type) → List (DataW H) → Bool := fun _ ds => decide (uptoBulkAll ds ≤ 1048576)
def OpenSpec.upto (s : _root_.Go.ChangeSpec) : _root_.Go.OpenSpec := { _root_.Go.OpenSpec.ofChange s with cond := some uptoSmall }

/-- 'thresherlaw14.MergeStable', WHERE WHAT IT READS IS OF BULK AT MOST 1048576: true; the input reads as it did. -/
def mergeStableUptoRow : OpenClaim := { program := "ytfiandejapgkoaa", sum := "e7a7f22a48abf6c9a2677e0dc37ca07e9b93244612b94302cfd180fc44ce2d2e", func := "thresher/thresherlaw14.MergeStable", spec := "mergeStable", unfollowed := true, recurses := true, plainKeys := false, apart := false, narrowed := true }
def MergeStableUptoSaid : Prop := mergeStableUptoRow.holds Try.pinned (OpenSpec.upto mergeStableSpec)

/-- 'thresherlaw14.MergeAll', WHERE WHAT IT READS IS OF BULK AT MOST 1048576: true; the input reads as it did. -/
def mergeAllUptoRow : OpenClaim := { program := "ytfiandejapgkoaa", sum := "e7a7f22a48abf6c9a2677e0dc37ca07e9b93244612b94302cfd180fc44ce2d2e", func := "thresher/thresherlaw14.MergeAll", spec := "mergeAll", inPlace := ["internal/bytealg.abigen_runtime_cmpstring"], unfollowed := true, recurses := true, plainKeys := false, apart := false, narrowed := true }
def MergeAllUptoSaid : Prop := mergeAllUptoRow.holds Try.pinned (OpenSpec.upto mergeAllSpec)

/-- 'thresherlaw14.MergeFirst', WHERE WHAT IT READS IS OF BULK AT MOST 1048576: true; the input reads as it did. -/
def mergeFirstUptoRow : OpenClaim := { program := "ytfiandejapgkoaa", sum := "e7a7f22a48abf6c9a2677e0dc37ca07e9b93244612b94302cfd180fc44ce2d2e", func := "thresher/thresherlaw14.MergeFirst", spec := "mergeFirst", inPlace := ["internal/bytealg.abigen_runtime_cmpstring"], unfollowed := true, recurses := true, plainKeys := false, apart := false, narrowed := true }
def MergeFirstUptoSaid : Prop := mergeFirstUptoRow.holds Try.pinned (OpenSpec.upto mergeFirstSpec)

/-- 'thresherlaw14.MergeCounts', WHERE WHAT IT READS IS OF BULK AT MOST 1048576: true; the input reads as it did. -/
def mergeCountsUptoRow : OpenClaim := { program := "ytfiandejapgkoaa", sum := "e7a7f22a48abf6c9a2677e0dc37ca07e9b93244612b94302cfd180fc44ce2d2e", func := "thresher/thresherlaw14.MergeCounts", spec := "mergeCounts", inPlace := ["internal/bytealg.abigen_runtime_cmpstring"], unfollowed := true, recurses := true, plainKeys := false, apart := false, narrowed := true }
def MergeCountsUptoSaid : Prop := mergeCountsUptoRow.holds Try.pinned (OpenSpec.upto mergeCountsSpec)

/-- 'thresherlaw14.MergeHalves', WHERE WHAT IT READS IS OF BULK AT MOST 1048576: true; the input reads as it did. -/
def mergeHalvesUptoRow : OpenClaim := { program := "ytfiandejapgkoaa", sum := "e7a7f22a48abf6c9a2677e0dc37ca07e9b93244612b94302cfd180fc44ce2d2e", func := "thresher/thresherlaw14.MergeHalves", spec := "mergeHalves", inPlace := ["internal/bytealg.abigen_runtime_cmpstring"], unfollowed := true, recurses := true, plainKeys := false, apart := false, narrowed := true }
def MergeHalvesUptoSaid : Prop := mergeHalvesUptoRow.holds Try.pinned (OpenSpec.upto mergeHalvesSpec)

end Rows
end Go.Proofs.Ytfiandejapgkoaa
