/-
  No cell of these rows narrows 'for every input' (looked for: loops, veiled, ifaces, maps, wideKeys, modest, calm, conditions, laid).
  DERIVED. THE GIVEN ROWS OF THIS SEAT. 5 by the template 'for every input the law returns true; each argument reads behind the call as it read before'; 0 by the template 'total and deterministic' (their statements: YtmanchjamkpklaaTotals.lean).
  GIVEN WITH THE SEED: the statements are not yours to turn. If you find one false, say at which input.
  Laid BY PROGRAM, IN A SANDBOX (cutbox-rows.mjs): the forced cells as the released guide's own fill.sh prints them over the translation c0e1c883ee26ad98… (all of the seat's roots in one cut). By AI agents, Wed Nov 11 2026. No macro, syntax, notation, axiom, sorry.
-/
import Derived.Test.YtmanchjamkpklaaChecked
import GoSem.Claim
import GoSem.ClaimJoined
import GoSem.ClaimMapViews
import Derived.JoinedTies
import Derived.KernelRfl
namespace Go.Proofs.Ytmanchjamkpklaa
/- THE CELL 'sum', in the pinned program and in every row, IS THE sha256 OF THE DUMP (.gsa) THAT YtmanchjamkpklaaProg.lean LOADS. Nothing in Lean hashes anything: it is a label: what it is worth is what the hold of that sum in a sandbox is worth. -/
noncomputable def Try.pinned : Pinned := { name := "ytmanchjamkpklaa", sum := "c0e1c883ee26ad982eb4238db99f08a65217e0a2258fbe837a357b4a2cea12c1", checked := Try.checked }
namespace Rows
def none {H : Type} : Left H := { results := [], args := [] }

/-- 'thresherlaw13.FoldAll': WHATEVER THE INPUT: true; the input reads as it did. -/
def foldAllSpec : ChangeSpec := { name := "foldAll", fn := fun _ => fun
  | [d1, d2] => { results := [.lit (.bool true)], args := [d1, d2] }
  | _ => none }
def foldAllRow : OpenClaim := { program := "ytmanchjamkpklaa", sum := "c0e1c883ee26ad982eb4238db99f08a65217e0a2258fbe837a357b4a2cea12c1", func := "thresher/thresherlaw13.FoldAll", spec := "foldAll", inPlace := ["internal/bytealg.abigen_runtime_cmpstring"], unfollowed := true, recurses := true, plainKeys := false, apart := false }
def FoldAllSaid : Prop := foldAllRow.holds Try.pinned (OpenSpec.ofChange foldAllSpec)

/-- ITS FALSE NEIGHBOUR: 'it returns false'. Refute it at one input. -/
def foldAllWrong : ChangeSpec := { name := "foldAll", fn := fun _ => fun
  | [d1, d2] => { results := [.lit (.bool false)], args := [d1, d2] }
  | _ => none }
def FoldAllWrongFalsely : Prop := foldAllRow.holds Try.pinned (OpenSpec.ofChange foldAllWrong)

/-- 'thresherlaw13.FoldParts': WHATEVER THE INPUT: true; the input reads as it did. -/
def foldPartsSpec : ChangeSpec := { name := "foldParts", fn := fun _ => fun
  | [d1, d2, d3] => { results := [.lit (.bool true)], args := [d1, d2, d3] }
  | _ => none }
def foldPartsRow : OpenClaim := { program := "ytmanchjamkpklaa", sum := "c0e1c883ee26ad982eb4238db99f08a65217e0a2258fbe837a357b4a2cea12c1", func := "thresher/thresherlaw13.FoldParts", spec := "foldParts", inPlace := ["internal/bytealg.abigen_runtime_cmpstring"], unfollowed := true, recurses := true, plainKeys := false, apart := false }
def FoldPartsSaid : Prop := foldPartsRow.holds Try.pinned (OpenSpec.ofChange foldPartsSpec)

/-- ITS FALSE NEIGHBOUR: 'it returns false'. Refute it at one input. -/
def foldPartsWrong : ChangeSpec := { name := "foldParts", fn := fun _ => fun
  | [d1, d2, d3] => { results := [.lit (.bool false)], args := [d1, d2, d3] }
  | _ => none }
def FoldPartsWrongFalsely : Prop := foldPartsRow.holds Try.pinned (OpenSpec.ofChange foldPartsWrong)

/-- 'thresherlaw13.FoldKeys': WHATEVER THE INPUT: true; the input reads as it did. -/
def foldKeysSpec : ChangeSpec := { name := "foldKeys", fn := fun _ => fun
  | [d1, d2] => { results := [.lit (.bool true)], args := [d1, d2] }
  | _ => none }
def foldKeysRow : OpenClaim := { program := "ytmanchjamkpklaa", sum := "c0e1c883ee26ad982eb4238db99f08a65217e0a2258fbe837a357b4a2cea12c1", func := "thresher/thresherlaw13.FoldKeys", spec := "foldKeys", inPlace := ["internal/bytealg.abigen_runtime_cmpstring"], unfollowed := true, recurses := true, plainKeys := false, apart := false }
def FoldKeysSaid : Prop := foldKeysRow.holds Try.pinned (OpenSpec.ofChange foldKeysSpec)

/-- ITS FALSE NEIGHBOUR: 'it returns false'. Refute it at one input. -/
def foldKeysWrong : ChangeSpec := { name := "foldKeys", fn := fun _ => fun
  | [d1, d2] => { results := [.lit (.bool false)], args := [d1, d2] }
  | _ => none }
def FoldKeysWrongFalsely : Prop := foldKeysRow.holds Try.pinned (OpenSpec.ofChange foldKeysWrong)

/-- 'thresherlaw13.FoldSums': WHATEVER THE INPUT: true; the input reads as it did. -/
def foldSumsSpec : ChangeSpec := { name := "foldSums", fn := fun _ => fun
  | [d1, d2] => { results := [.lit (.bool true)], args := [d1, d2] }
  | _ => none }
def foldSumsRow : OpenClaim := { program := "ytmanchjamkpklaa", sum := "c0e1c883ee26ad982eb4238db99f08a65217e0a2258fbe837a357b4a2cea12c1", func := "thresher/thresherlaw13.FoldSums", spec := "foldSums", inPlace := ["internal/bytealg.abigen_runtime_cmpstring"], unfollowed := true, recurses := true, plainKeys := false, apart := false }
def FoldSumsSaid : Prop := foldSumsRow.holds Try.pinned (OpenSpec.ofChange foldSumsSpec)

/-- ITS FALSE NEIGHBOUR: 'it returns false'. Refute it at one input. -/
def foldSumsWrong : ChangeSpec := { name := "foldSums", fn := fun _ => fun
  | [d1, d2] => { results := [.lit (.bool false)], args := [d1, d2] }
  | _ => none }
def FoldSumsWrongFalsely : Prop := foldSumsRow.holds Try.pinned (OpenSpec.ofChange foldSumsWrong)

/-- 'thresherlaw13.FoldLast': WHATEVER THE INPUT: true; the input reads as it did. -/
def foldLastSpec : ChangeSpec := { name := "foldLast", fn := fun _ => fun
  | [d1, d2] => { results := [.lit (.bool true)], args := [d1, d2] }
  | _ => none }
def foldLastRow : OpenClaim := { program := "ytmanchjamkpklaa", sum := "c0e1c883ee26ad982eb4238db99f08a65217e0a2258fbe837a357b4a2cea12c1", func := "thresher/thresherlaw13.FoldLast", spec := "foldLast", inPlace := ["internal/bytealg.abigen_runtime_cmpstring"], unfollowed := true, recurses := true, plainKeys := false, apart := false }
def FoldLastSaid : Prop := foldLastRow.holds Try.pinned (OpenSpec.ofChange foldLastSpec)

/-- ITS FALSE NEIGHBOUR: 'it returns false'. Refute it at one input. -/
def foldLastWrong : ChangeSpec := { name := "foldLast", fn := fun _ => fun
  | [d1, d2] => { results := [.lit (.bool false)], args := [d1, d2] }
  | _ => none }
def FoldLastWrongFalsely : Prop := foldLastRow.holds Try.pinned (OpenSpec.ofChange foldLastWrong)

/- THE SECOND FORM. 'bulk': how many values and letters a reading holds, each counted each time it is reached (what is shared counts as often as it is met; a slice's spare places count too). A statement '..UptoSaid' is the law's where the arguments, and the package variables that the reading takes, are together of bulk at most 1048576: NARROWER than '..Said'. Prove '..Said' where nothing that the law and all that it calls make is longer than what came in: it says more and counts as full. Else prove '..UptoSaid'. A law counts once. -/
mutual
def uptoBulk {H : Type} : DataW H → Nat
  | .lit (.string bytes) => bytes.length + 1
  | .lit _ => 1
  | .nil => 1
  | .ptr d => uptoBulk d + 1
  | .slice elems spare => uptoBulkAll elems + uptoBulkAll spare + 1
  | .agg parts => uptoBulkAll parts + 1
  | .iface _ d => uptoBulk d + 1
  | .map entries => uptoBulkEntries entries + 1
  | .held _ => 1
def uptoBulkAll {H : Type} : List (DataW H) → Nat
  | [] => 0
  | d :: r => uptoBulk d + uptoBulkAll r
def uptoBulkEntries {H : Type} : List (Lit × DataW H) → Nat
  | [] => 0
  | x :: r => uptoBulkEntry x + uptoBulkEntries r
def uptoBulkEntry {H : Type} : Lit × DataW H → Nat
  | (.string bytes, d) => bytes.length + uptoBulk d + 1
  | (_, d) => uptoBulk d + 1
 end
def uptoSmall : (H : Type) → List (DataW H) → Bool := fun _ ds => decide (uptoBulkAll ds ≤ 1048576)
def OpenSpec.upto (s : _root_.Go.ChangeSpec) : _root_.Go.OpenSpec := { _root_.Go.OpenSpec.ofChange s with cond := some uptoSmall }

/-- 'thresherlaw13.FoldAll', WHERE WHAT IT READS IS OF BULK AT MOST 1048576: true; the input reads as it did. -/
def foldAllUptoRow : OpenClaim := { program := "ytmanchjamkpklaa", sum := "c0e1c883ee26ad982eb4238db99f08a65217e0a2258fbe837a357b4a2cea12c1", func := "thresher/thresherlaw13.FoldAll", spec := "foldAll", inPlace := ["internal/bytealg.abigen_runtime_cmpstring"], unfollowed := true, recurses := true, plainKeys := false, apart := false, narrowed := true }
def FoldAllUptoSaid : Prop := foldAllUptoRow.holds Try.pinned (OpenSpec.upto foldAllSpec)

/-- 'thresherlaw13.FoldParts', WHERE WHAT IT READS IS OF BULK AT MOST 1048576: true; the input reads as it did. -/
def foldPartsUptoRow : OpenClaim := { program := "ytmanchjamkpklaa", sum := "c0e1c883ee26ad982eb4238db99f08a65217e0a2258fbe837a357b4a2cea12c1", func := "thresher/thresherlaw13.FoldParts", spec := "foldParts", inPlace := ["internal/bytealg.abigen_runtime_cmpstring"], unfollowed := true, recurses := true, plainKeys := false, apart := false, narrowed := true }
def FoldPartsUptoSaid : Prop := foldPartsUptoRow.holds Try.pinned (OpenSpec.upto foldPartsSpec)

/-- 'thresherlaw13.FoldKeys', WHERE WHAT IT READS IS OF BULK AT MOST 1048576: true; the input reads as it did. -/
def foldKeysUptoRow : OpenClaim := { program := "ytmanchjamkpklaa", sum := "c0e1c883ee26ad982eb4238db99f08a65217e0a2258fbe837a357b4a2cea12c1", func := "thresher/thresherlaw13.FoldKeys", spec := "foldKeys", inPlace := ["internal/bytealg.abigen_runtime_cmpstring"], unfollowed := true, recurses := true, plainKeys := false, apart := false, narrowed := true }
def FoldKeysUptoSaid : Prop := foldKeysUptoRow.holds Try.pinned (OpenSpec.upto foldKeysSpec)

/-- 'thresherlaw13.FoldSums', WHERE WHAT IT READS IS OF BULK AT MOST 1048576: true; the input reads as it did. -/
def foldSumsUptoRow : OpenClaim := { program := "ytmanchjamkpklaa", sum := "c0e1c883ee26ad982eb4238db99f08a65217e0a2258fbe837a357b4a2cea12c1", func := "thresher/thresherlaw13.FoldSums", spec := "foldSums", inPlace := ["internal/bytealg.abigen_runtime_cmpstring"], unfollowed := true, recurses := true, plainKeys := false, apart := false, narrowed := true }
def FoldSumsUptoSaid : Prop := foldSumsUptoRow.holds Try.pinned (OpenSpec.upto foldSumsSpec)

/-- 'thresherlaw13.FoldLast', WHERE WHAT IT READS IS OF BULK AT MOST 1048576: true; the input reads as it did. -/
def foldLastUptoRow : OpenClaim := { program := "ytmanchjamkpklaa", sum := "c0e1c883ee26ad982eb4238db99f08a65217e0a2258fbe837a357b4a2cea12c1", func := "thresher/thresherlaw13.FoldLast", spec := "foldLast", inPlace := ["internal/bytealg.abigen_runtime_cmpstring"], unfollowed := true, recurses := true, plainKeys := false, apart := false, narrowed := true }
def FoldLastUptoSaid : Prop := foldLastUptoRow.holds Try.pinned (OpenSpec.upto foldLastSpec)

end Rows
end Go.Proofs.Ytmanchjamkpklaa
