/-
  No cell of these rows narrows 'for every input' (looked for: loops, veiled, ifaces, maps, wideKeys, modest, calm, conditions, laid).
  DERIVED. THE GIVEN ROWS OF THIS SEAT. 6 by the template 'for every input the law returns true; each argument reads behind the call as it read before'; 0 by the template 'total and deterministic' (their statements: YtkodpbellndelaaTotals.lean).
  GIVEN WITH THE SEED: the statements are not yours to turn. If you find one false, say at which input.
  Laid BY PROGRAM, IN A SANDBOX (cutbox-rows.mjs): the forced cells as the released guide's own fill.sh prints them over the translation e49e319b5025d0e2… (all of the seat's roots in one cut). By AI agents, Wed Nov 11 2026. No macro, syntax, notation, axiom, sorry.
-/
import Derived.Test.YtkodpbellndelaaChecked
import GoSem.Claim
import GoSem.ClaimJoined
import GoSem.ClaimMapViews
import Derived.JoinedTies
import Derived.KernelRfl
namespace Go.Proofs.Ytkodpbellndelaa
/- THE CELL 'sum', in the pinned program and in every row, IS THE sha256 OF THE DUMP (.gsa) THAT YtkodpbellndelaaProg.lean LOADS. Nothing in Lean hashes anything: it is a label: what it is worth is what the hold of that sum in a sandbox is worth. -/
noncomputable def Try.pinned : Pinned := { name := "ytkodpbellndelaa", sum := "e49e319b5025d0e29eb113ac3235bd3456653d5d01a302b2928df5711bc4253e", checked := Try.checked }
namespace Rows
def none {H : Type} : Left H := { results := [], args := [] }

/-- 'thresherlaw04.SchemaRows': WHATEVER THE INPUT: true; the input reads as it did. -/
def schemaRowsSpec : ChangeSpec := { name := "schemaRows", fn := fun _ => fun
  | [d1, d2, d3] => { results := [.lit (.bool true)], args := [d1, d2, d3] }
  | _ => none }
def schemaRowsRow : OpenClaim := { program := "ytkodpbellndelaa", sum := "e49e319b5025d0e29eb113ac3235bd3456653d5d01a302b2928df5711bc4253e", func := "thresher/thresherlaw04.SchemaRows", spec := "schemaRows", unfollowed := true, recurses := true, apart := false }
def SchemaRowsSaid : Prop := schemaRowsRow.holds Try.pinned (OpenSpec.ofChange schemaRowsSpec)

/-- ITS FALSE NEIGHBOUR: 'it returns false'. Refute it at one input. -/
def schemaRowsWrong : ChangeSpec := { name := "schemaRows", fn := fun _ => fun
  | [d1, d2, d3] => { results := [.lit (.bool false)], args := [d1, d2, d3] }
  | _ => none }
def SchemaRowsWrongFalsely : Prop := schemaRowsRow.holds Try.pinned (OpenSpec.ofChange schemaRowsWrong)

/-- 'thresherlaw04.SchemaBack': WHATEVER THE INPUT: true; the input reads as it did. -/
def schemaBackSpec : ChangeSpec := { name := "schemaBack", fn := fun _ => fun
  | [d1, d2, d3] => { results := [.lit (.bool true)], args := [d1, d2, d3] }
  | _ => none }
def schemaBackRow : OpenClaim := { program := "ytkodpbellndelaa", sum := "e49e319b5025d0e29eb113ac3235bd3456653d5d01a302b2928df5711bc4253e", func := "thresher/thresherlaw04.SchemaBack", spec := "schemaBack", unfollowed := true, recurses := true, apart := false }
def SchemaBackSaid : Prop := schemaBackRow.holds Try.pinned (OpenSpec.ofChange schemaBackSpec)

/-- ITS FALSE NEIGHBOUR: 'it returns false'. Refute it at one input. -/
def schemaBackWrong : ChangeSpec := { name := "schemaBack", fn := fun _ => fun
  | [d1, d2, d3] => { results := [.lit (.bool false)], args := [d1, d2, d3] }
  | _ => none }
def SchemaBackWrongFalsely : Prop := schemaBackRow.holds Try.pinned (OpenSpec.ofChange schemaBackWrong)

/-- 'thresherlaw04.SchemaOrders': WHATEVER THE INPUT: true; the input reads as it did. -/
def schemaOrdersSpec : ChangeSpec := { name := "schemaOrders", fn := fun _ => fun
  | [d1, d2, d3] => { results := [.lit (.bool true)], args := [d1, d2, d3] }
  | _ => none }
def schemaOrdersRow : OpenClaim := { program := "ytkodpbellndelaa", sum := "e49e319b5025d0e29eb113ac3235bd3456653d5d01a302b2928df5711bc4253e", func := "thresher/thresherlaw04.SchemaOrders", spec := "schemaOrders", inPlace := ["internal/bytealg.abigen_runtime_cmpstring"], unfollowed := true, recurses := true, apart := false }
def SchemaOrdersSaid : Prop := schemaOrdersRow.holds Try.pinned (OpenSpec.ofChange schemaOrdersSpec)

/-- ITS FALSE NEIGHBOUR: 'it returns false'. Refute it at one input. -/
def schemaOrdersWrong : ChangeSpec := { name := "schemaOrders", fn := fun _ => fun
  | [d1, d2, d3] => { results := [.lit (.bool false)], args := [d1, d2, d3] }
  | _ => none }
def SchemaOrdersWrongFalsely : Prop := schemaOrdersRow.holds Try.pinned (OpenSpec.ofChange schemaOrdersWrong)

/-- 'thresherlaw04.SchemaOrder': WHATEVER THE INPUT: true; the input reads as it did. -/
def schemaOrderSpec : ChangeSpec := { name := "schemaOrder", fn := fun _ => fun
  | [d1, d2] => { results := [.lit (.bool true)], args := [d1, d2] }
  | _ => none }
def schemaOrderRow : OpenClaim := { program := "ytkodpbellndelaa", sum := "e49e319b5025d0e29eb113ac3235bd3456653d5d01a302b2928df5711bc4253e", func := "thresher/thresherlaw04.SchemaOrder", spec := "schemaOrder", inPlace := ["internal/bytealg.abigen_runtime_cmpstring"], unfollowed := true, recurses := true, apart := false }
def SchemaOrderSaid : Prop := schemaOrderRow.holds Try.pinned (OpenSpec.ofChange schemaOrderSpec)

/-- ITS FALSE NEIGHBOUR: 'it returns false'. Refute it at one input. -/
def schemaOrderWrong : ChangeSpec := { name := "schemaOrder", fn := fun _ => fun
  | [d1, d2] => { results := [.lit (.bool false)], args := [d1, d2] }
  | _ => none }
def SchemaOrderWrongFalsely : Prop := schemaOrderRow.holds Try.pinned (OpenSpec.ofChange schemaOrderWrong)

/-- 'thresherlaw04.SchemaKeys': WHATEVER THE INPUT: true; the input reads as it did. -/
def schemaKeysSpec : ChangeSpec := { name := "schemaKeys", fn := fun _ => fun
  | [d1, d2, d3] => { results := [.lit (.bool true)], args := [d1, d2, d3] }
  | _ => none }
def schemaKeysRow : OpenClaim := { program := "ytkodpbellndelaa", sum := "e49e319b5025d0e29eb113ac3235bd3456653d5d01a302b2928df5711bc4253e", func := "thresher/thresherlaw04.SchemaKeys", spec := "schemaKeys", inPlace := ["internal/bytealg.abigen_runtime_cmpstring"], unfollowed := true, recurses := true, apart := false }
def SchemaKeysSaid : Prop := schemaKeysRow.holds Try.pinned (OpenSpec.ofChange schemaKeysSpec)

/-- ITS FALSE NEIGHBOUR: 'it returns false'. Refute it at one input. -/
def schemaKeysWrong : ChangeSpec := { name := "schemaKeys", fn := fun _ => fun
  | [d1, d2, d3] => { results := [.lit (.bool false)], args := [d1, d2, d3] }
  | _ => none }
def SchemaKeysWrongFalsely : Prop := schemaKeysRow.holds Try.pinned (OpenSpec.ofChange schemaKeysWrong)

/-- 'thresherlaw04.SchemaAll': WHATEVER THE INPUT: true; the input reads as it did. -/
def schemaAllSpec : ChangeSpec := { name := "schemaAll", fn := fun _ => fun
  | [d1, d2, d3] => { results := [.lit (.bool true)], args := [d1, d2, d3] }
  | _ => none }
def schemaAllRow : OpenClaim := { program := "ytkodpbellndelaa", sum := "e49e319b5025d0e29eb113ac3235bd3456653d5d01a302b2928df5711bc4253e", func := "thresher/thresherlaw04.SchemaAll", spec := "schemaAll", unfollowed := true, recurses := true, apart := false }
def SchemaAllSaid : Prop := schemaAllRow.holds Try.pinned (OpenSpec.ofChange schemaAllSpec)

/-- ITS FALSE NEIGHBOUR: 'it returns false'. Refute it at one input. -/
def schemaAllWrong : ChangeSpec := { name := "schemaAll", fn := fun _ => fun
  | [d1, d2, d3] => { results := [.lit (.bool false)], args := [d1, d2, d3] }
  | _ => none }
def SchemaAllWrongFalsely : Prop := schemaAllRow.holds Try.pinned (OpenSpec.ofChange schemaAllWrong)

/- THE SECOND FORM. 'bulk': how many values and letters a reading holds, each counted each time it is reached (what is shared counts as often as it is met; a slice's spare places count too). A statement '..UptoSaid' is the law's where the arguments, and the package variables that the reading takes, are together of bulk at most 1048576: NARROWER than '..Said'. Prove '..Said' where nothing that the law and all that it calls make is longer than what came in: it says more and counts as full. Else prove '..UptoSaid'. A law counts once. -/
mutual
def uptoBulk {H : Type} : DataW H → Nat
  | .lit (.string bytes) => bytes.length + 1
  | .lit _ => 1
  | .nil => 1
  | .ptr d => uptoBulk d + 1
  | .slice elems spare => uptoBulkAll elems + uptoBulkAll spare + 1
  | .agg parts => uptoBulkAll parts + 1
  | .iface _ d => uptoBulk d + 1
  | .map entries => uptoBulkEntries entries + 1
  | .held _ => 1
def uptoBulkAll {H : Type} : List (DataW H) → Nat
  | [] => 0
  | d :: r => uptoBulk d + uptoBulkAll r
def uptoBulkEntries {H : Type} : List (Lit × DataW H) → Nat
  | [] => 0
  | x :: r => uptoBulkEntry x + uptoBulkEntries r
def uptoBulkEntry {H : Type} : Lit × DataW H → Nat
  | (.string bytes, d) => bytes.length + uptoBulk d + 1
  | (_, d) => uptoBulk d + 1
 end
def uptoSmall : (H : Type) → List (DataW H) → Bool := fun _ ds => decide (uptoBulkAll ds ≤ 1048576)
def OpenSpec.upto (s : _root_.Go.ChangeSpec) : _root_.Go.OpenSpec := { _root_.Go.OpenSpec.ofChange s with cond := some uptoSmall }

/-- 'thresherlaw04.SchemaRows', WHERE WHAT IT READS IS OF BULK AT MOST 1048576: true; the input reads as it did. -/
def schemaRowsUptoRow : OpenClaim := { program := "ytkodpbellndelaa", sum := "e49e319b5025d0e29eb113ac3235bd3456653d5d01a302b2928df5711bc4253e", func := "thresher/thresherlaw04.SchemaRows", spec := "schemaRows", unfollowed := true, recurses := true, apart := false, narrowed := true }
def SchemaRowsUptoSaid : Prop := schemaRowsUptoRow.holds Try.pinned (OpenSpec.upto schemaRowsSpec)

/-- 'thresherlaw04.SchemaBack', WHERE WHAT IT READS IS OF BULK AT MOST 1048576: true; the input reads as it did. -/
def schemaBackUptoRow : OpenClaim := { program := "ytkodpbellndelaa", sum := "e49e319b5025d0e29eb113ac3235bd3456653d5d01a302b2928df5711bc4253e", func := "thresher/thresherlaw04.SchemaBack", spec := "schemaBack", unfollowed := true, recurses := true, apart := false, narrowed := true }
def SchemaBackUptoSaid : Prop := schemaBackUptoRow.holds Try.pinned (OpenSpec.upto schemaBackSpec)

/-- 'thresherlaw04.SchemaOrders', WHERE WHAT IT READS IS OF BULK AT MOST 1048576: true; the input reads as it did. -/
def schemaOrdersUptoRow : OpenClaim := { program := "ytkodpbellndelaa", sum := "e49e319b5025d0e29eb113ac3235bd3456653d5d01a302b2928df5711bc4253e", func := "thresher/thresherlaw04.SchemaOrders", spec := "schemaOrders", inPlace := ["internal/bytealg.abigen_runtime_cmpstring"], unfollowed := true, recurses := true, apart := false, narrowed := true }
def SchemaOrdersUptoSaid : Prop := schemaOrdersUptoRow.holds Try.pinned (OpenSpec.upto schemaOrdersSpec)

/-- 'thresherlaw04.SchemaOrder', WHERE WHAT IT READS IS OF BULK AT MOST 1048576: true; the input reads as it did. -/
def schemaOrderUptoRow : OpenClaim := { program := "ytkodpbellndelaa", sum := "e49e319b5025d0e29eb113ac3235bd3456653d5d01a302b2928df5711bc4253e", func := "thresher/thresherlaw04.SchemaOrder", spec := "schemaOrder", inPlace := ["internal/bytealg.abigen_runtime_cmpstring"], unfollowed := true, recurses := true, apart := false, narrowed := true }
def SchemaOrderUptoSaid : Prop := schemaOrderUptoRow.holds Try.pinned (OpenSpec.upto schemaOrderSpec)

/-- 'thresherlaw04.SchemaKeys', WHERE WHAT IT READS IS OF BULK AT MOST 1048576: true; the input reads as it did. -/
def schemaKeysUptoRow : OpenClaim := { program := "ytkodpbellndelaa", sum := "e49e319b5025d0e29eb113ac3235bd3456653d5d01a302b2928df5711bc4253e", func := "thresher/thresherlaw04.SchemaKeys", spec := "schemaKeys", inPlace := ["internal/bytealg.abigen_runtime_cmpstring"], unfollowed := true, recurses := true, apart := false, narrowed := true }
def SchemaKeysUptoSaid : Prop := schemaKeysUptoRow.holds Try.pinned (OpenSpec.upto schemaKeysSpec)

/-- 'thresherlaw04.SchemaAll', WHERE WHAT IT READS IS OF BULK AT MOST 1048576: true; the input reads as it did. -/
def schemaAllUptoRow : OpenClaim := { program := "ytkodpbellndelaa", sum := "e49e319b5025d0e29eb113ac3235bd3456653d5d01a302b2928df5711bc4253e", func := "thresher/thresherlaw04.SchemaAll", spec := "schemaAll", unfollowed := true, recurses := true, apart := false, narrowed := true }
def SchemaAllUptoSaid : Prop := schemaAllUptoRow.holds Try.pinned (OpenSpec.upto schemaAllSpec)

end Rows
end Go.Proofs.Ytkodpbellndelaa
