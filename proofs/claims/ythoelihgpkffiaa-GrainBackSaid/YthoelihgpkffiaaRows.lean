/-
  No cell of these rows narrows 'for every input' (looked for: loops, veiled, ifaces, maps, wideKeys, modest, calm, conditions, laid).
  DERIVED. THE GIVEN ROWS OF THIS SEAT. 4 by the template 'for every input the law returns true; each argument reads behind the call as it read before'; 0 by the template 'total and deterministic' (their statements: YthoelihgpkffiaaTotals.lean).
  GIVEN WITH THE SEED: the statements are not yours to turn. If you find one false, say at which input.
  Laid BY PROGRAM, IN A SANDBOX (cutbox-rows.mjs): the forced cells as the released guide's own fill.sh prints them over the translation 462af9d48e8744f1… (all of the seat's roots in one cut). By AI agents, Wed Nov 11 2026. No macro, syntax, notation, axiom, sorry.
-/
import Derived.Test.YthoelihgpkffiaaChecked
import GoSem.Claim
import GoSem.ClaimJoined
import GoSem.ClaimMapViews
import Derived.JoinedTies
import Derived.KernelRfl
namespace Go.Proofs.Ythoelihgpkffiaa
/- THE CELL 'sum', in the pinned program and in every row, IS THE sha256 OF THE DUMP (.gsa) THAT YthoelihgpkffiaaProg.lean LOADS. Nothing in Lean hashes anything: it is a label: what it is worth is what the hold of that sum in a sandbox is worth. -/
noncomputable def Try.pinned : Pinned := { name := "ythoelihgpkffiaa", sum := "462af9d48e8744f1e82b883869404afa30a110fb980d1c00bc23b2566739fcdc", checked := Try.checked }
namespace Rows
def none {H : Type} : Left H := { results := [], args := [] }

/-- 'thresherlaw10.GrainMarks': WHATEVER THE INPUT: true; the input reads as it did. -/
def grainMarksSpec : ChangeSpec := { name := "grainMarks", fn := fun _ => fun
  | [d1, d2] => { results := [.lit (.bool true)], args := [d1, d2] }
  | _ => none }
def grainMarksRow : OpenClaim := { program := "ythoelihgpkffiaa", sum := "462af9d48e8744f1e82b883869404afa30a110fb980d1c00bc23b2566739fcdc", func := "thresher/thresherlaw10.GrainMarks", spec := "grainMarks", apart := false }
def GrainMarksSaid : Prop := grainMarksRow.holds Try.pinned (OpenSpec.ofChange grainMarksSpec)

/-- ITS FALSE NEIGHBOUR: 'it returns false'. Refute it at one input. -/
def grainMarksWrong : ChangeSpec := { name := "grainMarks", fn := fun _ => fun
  | [d1, d2] => { results := [.lit (.bool false)], args := [d1, d2] }
  | _ => none }
def GrainMarksWrongFalsely : Prop := grainMarksRow.holds Try.pinned (OpenSpec.ofChange grainMarksWrong)

/-- 'thresherlaw10.GrainOdd': WHATEVER THE INPUT: true; the input reads as it did. -/
def grainOddSpec : ChangeSpec := { name := "grainOdd", fn := fun _ => fun
  | [d1, d2] => { results := [.lit (.bool true)], args := [d1, d2] }
  | _ => none }
def grainOddRow : OpenClaim := { program := "ythoelihgpkffiaa", sum := "462af9d48e8744f1e82b883869404afa30a110fb980d1c00bc23b2566739fcdc", func := "thresher/thresherlaw10.GrainOdd", spec := "grainOdd", apart := false }
def GrainOddSaid : Prop := grainOddRow.holds Try.pinned (OpenSpec.ofChange grainOddSpec)

/-- ITS FALSE NEIGHBOUR: 'it returns false'. Refute it at one input. -/
def grainOddWrong : ChangeSpec := { name := "grainOdd", fn := fun _ => fun
  | [d1, d2] => { results := [.lit (.bool false)], args := [d1, d2] }
  | _ => none }
def GrainOddWrongFalsely : Prop := grainOddRow.holds Try.pinned (OpenSpec.ofChange grainOddWrong)

/-- 'thresherlaw10.GrainAll': WHATEVER THE INPUT: true; the input reads as it did. -/
def grainAllSpec : ChangeSpec := { name := "grainAll", fn := fun _ => fun
  | [d1, d2, d3] => { results := [.lit (.bool true)], args := [d1, d2, d3] }
  | _ => none }
def grainAllRow : OpenClaim := { program := "ythoelihgpkffiaa", sum := "462af9d48e8744f1e82b883869404afa30a110fb980d1c00bc23b2566739fcdc", func := "thresher/thresherlaw10.GrainAll", spec := "grainAll", apart := false }
def GrainAllSaid : Prop := grainAllRow.holds Try.pinned (OpenSpec.ofChange grainAllSpec)

/-- ITS FALSE NEIGHBOUR: 'it returns false'. Refute it at one input. -/
def grainAllWrong : ChangeSpec := { name := "grainAll", fn := fun _ => fun
  | [d1, d2, d3] => { results := [.lit (.bool false)], args := [d1, d2, d3] }
  | _ => none }
def GrainAllWrongFalsely : Prop := grainAllRow.holds Try.pinned (OpenSpec.ofChange grainAllWrong)

/-- 'thresherlaw10.GrainBack': WHATEVER THE INPUT: true; the input reads as it did. -/
def grainBackSpec : ChangeSpec := { name := "grainBack", fn := fun _ => fun
  | [d1, d2] => { results := [.lit (.bool true)], args := [d1, d2] }
  | _ => none }
def grainBackRow : OpenClaim := { program := "ythoelihgpkffiaa", sum := "462af9d48e8744f1e82b883869404afa30a110fb980d1c00bc23b2566739fcdc", func := "thresher/thresherlaw10.GrainBack", spec := "grainBack", apart := false }
def GrainBackSaid : Prop := grainBackRow.holds Try.pinned (OpenSpec.ofChange grainBackSpec)

/-- ITS FALSE NEIGHBOUR: 'it returns false'. Refute it at one input. -/
def grainBackWrong : ChangeSpec := { name := "grainBack", fn := fun _ => fun
  | [d1, d2] => { results := [.lit (.bool false)], args := [d1, d2] }
  | _ => none }
def GrainBackWrongFalsely : Prop := grainBackRow.holds Try.pinned (OpenSpec.ofChange grainBackWrong)

/- THE SECOND FORM. 'bulk': how many values and letters a reading holds, each counted each time it is reached (what is shared counts as often as it is met; a slice's spare places count too). A statement '..UptoSaid' is the law's where the arguments, and the package variables that the reading takes, are together of bulk at most 1048576: NARROWER than '..Said'. Prove '..Said' where nothing that the law and all that it calls make is longer than what came in: it says more and counts as full. Else prove '..UptoSaid'. A law counts once. -/
mutual
def uptoBulk {H : Type} : DataW H → Nat
  | .lit (.string bytes) => bytes.length + 1
  | .lit _ => 1
  | .nil => 1
  | .ptr d => uptoBulk d + 1
  | .slice elems spare => uptoBulkAll elems + uptoBulkAll spare + 1
  | .agg parts => uptoBulkAll parts + 1
  | .iface _ d => uptoBulk d + 1
  | .map entries => uptoBulkEntries entries + 1
  | .held _ => 1
def uptoBulkAll {H : Type} : List (DataW H) → Nat
  | [] => 0
  | d :: r => uptoBulk d + uptoBulkAll r
def uptoBulkEntries {H : Type} : List (Lit × DataW H) → Nat
  | [] => 0
  | x :: r => uptoBulkEntry x + uptoBulkEntries r
def uptoBulkEntry {H : Type} : Lit × DataW H → Nat
  | (.string bytes, d) => bytes.length + uptoBulk d + 1
  | (_, d) => uptoBulk d + 1
 end
def uptoSmall : (H : Type) → List (DataW H) → Bool := fun _ ds => decide (uptoBulkAll ds ≤ 1048576)
def OpenSpec.upto (s : _root_.Go.ChangeSpec) : _root_.Go.OpenSpec := { _root_.Go.OpenSpec.ofChange s with cond := some uptoSmall }

/-- 'thresherlaw10.GrainMarks', WHERE WHAT IT READS IS OF BULK AT MOST 1048576: true; the input reads as it did. -/
def grainMarksUptoRow : OpenClaim := { program := "ythoelihgpkffiaa", sum := "462af9d48e8744f1e82b883869404afa30a110fb980d1c00bc23b2566739fcdc", func := "thresher/thresherlaw10.GrainMarks", spec := "grainMarks", apart := false, narrowed := true }
def GrainMarksUptoSaid : Prop := grainMarksUptoRow.holds Try.pinned (OpenSpec.upto grainMarksSpec)

/-- 'thresherlaw10.GrainOdd', WHERE WHAT IT READS IS OF BULK AT MOST 1048576: true; the input reads as it did. -/
def grainOddUptoRow : OpenClaim := { program := "ythoelihgpkffiaa", sum := "462af9d48e8744f1e82b883869404afa30a110fb980d1c00bc23b2566739fcdc", func := "thresher/thresherlaw10.GrainOdd", spec := "grainOdd", apart := false, narrowed := true }
def GrainOddUptoSaid : Prop := grainOddUptoRow.holds Try.pinned (OpenSpec.upto grainOddSpec)

/-- 'thresherlaw10.GrainAll', WHERE WHAT IT READS IS OF BULK AT MOST 1048576: true; the input reads as it did. -/
def grainAllUptoRow : OpenClaim := { program := "ythoelihgpkffiaa", sum := "462af9d48e8744f1e82b883869404afa30a110fb980d1c00bc23b2566739fcdc", func := "thresher/thresherlaw10.GrainAll", spec := "grainAll", apart := false, narrowed := true }
def GrainAllUptoSaid : Prop := grainAllUptoRow.holds Try.pinned (OpenSpec.upto grainAllSpec)

/-- 'thresherlaw10.GrainBack', WHERE WHAT IT READS IS OF BULK AT MOST 1048576: true; the input reads as it did. -/
def grainBackUptoRow : OpenClaim := { program := "ythoelihgpkffiaa", sum := "462af9d48e8744f1e82b883869404afa30a110fb980d1c00bc23b2566739fcdc", func := "thresher/thresherlaw10.GrainBack", spec := "grainBack", apart := false, narrowed := true }
def GrainBackUptoSaid : Prop := grainBackUptoRow.holds Try.pinned (OpenSpec.upto grainBackSpec)

end Rows
end Go.Proofs.Ythoelihgpkffiaa
