/-
  DERIVED. GIVEN WITH THE SEED: THE CARDS: each row of YtifpjhghbafcjaaDoorRows.lean that lists a variable, with what it lists TIED to the program's text (the seventh form; the later family's looks); each row that meets fmt, with fmt's text TOLD by the authors' own Lean function (tested against real Go, not proved from fmt's source: count such statements apart). THE CARD IS WHAT COUNTS. Prove the row's statement (the work); the ties are given (YtifpjhghbafcjaaDoorTie.lean); close each card by the builder's one call (the guide's Derived/Test/ToyasCard.lean, 'card_holds'). Laid BY PROGRAM, IN A SANDBOX (cutbox-door.mjs). By AI agents, Wed Nov 11 2026. No macro, syntax, notation, axiom, sorry.
-/
import Derived.Test.YtifpjhghbafcjaaDoorRows
import GoSem.ClaimSeven
namespace Go.Proofs.YtifpjhghbafcjaaDoor
namespace Rows

/-- THE TIED CARD OF 'thresherlaw03.ValueOrder'. -/
def valueOrderCard : Claim7 := { stood := { row := valueOrderRow, standIns := [], harness := (true, "bb69a14ecfbc10d91511e1de1cac401641993d3163807c3ed32958c36fab5aed"), looks := true }, kinds := [], alts := [], laidByText := true, laidKinds := [.data, .data, .data], laidTests := true, laidLooks := .later }
def ValueOrderCardSaid : Prop := Claim7.holds Tryd.pinned (.plain (OpenSpec.ofChange valueOrderSpec)) valueOrderCard

/-- THE TIED CARD OF 'thresherlaw03.ValueSigns'. -/
def valueSignsCard : Claim7 := { stood := { row := valueSignsRow, standIns := [], harness := (true, "bb69a14ecfbc10d91511e1de1cac401641993d3163807c3ed32958c36fab5aed"), looks := true }, kinds := [], alts := [], laidByText := true, laidKinds := [.data, .data, .data], laidTests := true, laidLooks := .later }
def ValueSignsCardSaid : Prop := Claim7.holds Tryd.pinned (.plain (OpenSpec.ofChange valueSignsSpec)) valueSignsCard

/-- THE TIED CARD OF 'thresherlaw03.ValueWrites'. -/
def valueWritesCard : Claim7 := { stood := { row := valueWritesRow, standIns := [], harness := (true, "bb69a14ecfbc10d91511e1de1cac401641993d3163807c3ed32958c36fab5aed"), looks := true }, kinds := [], alts := [], laidByText := true, laidKinds := [.data, .data, .data], laidTests := true, laidLooks := .later }
def ValueWritesCardSaid : Prop := Claim7.holds Tryd.pinned (.plain (OpenSpec.ofChange valueWritesSpec)) valueWritesCard

/-- THE TIED CARD OF 'thresherlaw03.ValueSums'. -/
def valueSumsCard : Claim7 := { stood := { row := valueSumsRow, standIns := [], harness := (true, "bb69a14ecfbc10d91511e1de1cac401641993d3163807c3ed32958c36fab5aed"), looks := true }, kinds := [], alts := [], laidByText := true, laidKinds := [.data, .data, .data], laidTests := true, laidLooks := .later }
def ValueSumsCardSaid : Prop := Claim7.holds Tryd.pinned (.plain (OpenSpec.ofChange valueSumsSpec)) valueSumsCard

/-- THE TIED CARD OF 'thresherlaw03.ValueBack'. -/
def valueBackCard : Claim7 := { stood := { row := valueBackRow, standIns := [], harness := (true, "bb69a14ecfbc10d91511e1de1cac401641993d3163807c3ed32958c36fab5aed"), looks := true }, kinds := [], alts := [], laidByText := true, laidKinds := [.data, .data, .data, .sentinel, .sentinel], laidTests := true, laidLooks := .later }
def ValueBackCardSaid : Prop := Claim7.holds Tryd.pinned (.plain (OpenSpec.ofChange valueBackSpec)) valueBackCard

/-- THE TIED CARD OF 'thresherlaw03.ValueAll'. -/
def valueAllCard : Claim7 := { stood := { row := valueAllRow, standIns := [], harness := (true, "bb69a14ecfbc10d91511e1de1cac401641993d3163807c3ed32958c36fab5aed"), looks := true }, kinds := [], alts := [], laidByText := true, laidKinds := [.data, .data, .data, .sentinel, .sentinel], laidTests := true, laidLooks := .later }
def ValueAllCardSaid : Prop := Claim7.holds Tryd.pinned (.plain (OpenSpec.ofChange valueAllSpec)) valueAllCard

/-- THE SECOND FORM's CARD OF 'thresherlaw03.ValueOrder'. -/
def valueOrderUptoCard : Claim7 := { stood := { row := valueOrderUptoRow, standIns := [], harness := (true, "bb69a14ecfbc10d91511e1de1cac401641993d3163807c3ed32958c36fab5aed"), looks := true }, kinds := [], alts := [], laidByText := true, laidKinds := [.data, .data, .data], laidTests := true, laidLooks := .later }
def ValueOrderUptoCardSaid : Prop := Claim7.holds Tryd.pinned (.plain (OpenSpec.upto valueOrderSpec)) valueOrderUptoCard

/-- THE SECOND FORM's CARD OF 'thresherlaw03.ValueSigns'. -/
def valueSignsUptoCard : Claim7 := { stood := { row := valueSignsUptoRow, standIns := [], harness := (true, "bb69a14ecfbc10d91511e1de1cac401641993d3163807c3ed32958c36fab5aed"), looks := true }, kinds := [], alts := [], laidByText := true, laidKinds := [.data, .data, .data], laidTests := true, laidLooks := .later }
def ValueSignsUptoCardSaid : Prop := Claim7.holds Tryd.pinned (.plain (OpenSpec.upto valueSignsSpec)) valueSignsUptoCard

/-- THE SECOND FORM's CARD OF 'thresherlaw03.ValueWrites'. -/
def valueWritesUptoCard : Claim7 := { stood := { row := valueWritesUptoRow, standIns := [], harness := (true, "bb69a14ecfbc10d91511e1de1cac401641993d3163807c3ed32958c36fab5aed"), looks := true }, kinds := [], alts := [], laidByText := true, laidKinds := [.data, .data, .data], laidTests := true, laidLooks := .later }
def ValueWritesUptoCardSaid : Prop := Claim7.holds Tryd.pinned (.plain (OpenSpec.upto valueWritesSpec)) valueWritesUptoCard

/-- THE SECOND FORM's CARD OF 'thresherlaw03.ValueSums'. -/
def valueSumsUptoCard : Claim7 := { stood := { row := valueSumsUptoRow, standIns := [], harness := (true, "bb69a14ecfbc10d91511e1de1cac401641993d3163807c3ed32958c36fab5aed"), looks := true }, kinds := [], alts := [], laidByText := true, laidKinds := [.data, .data, .data], laidTests := true, laidLooks := .later }
def ValueSumsUptoCardSaid : Prop := Claim7.holds Tryd.pinned (.plain (OpenSpec.upto valueSumsSpec)) valueSumsUptoCard

/-- THE SECOND FORM's CARD OF 'thresherlaw03.ValueBack'. -/
def valueBackUptoCard : Claim7 := { stood := { row := valueBackUptoRow, standIns := [], harness := (true, "bb69a14ecfbc10d91511e1de1cac401641993d3163807c3ed32958c36fab5aed"), looks := true }, kinds := [], alts := [], laidByText := true, laidKinds := [.data, .data, .data, .sentinel, .sentinel], laidTests := true, laidLooks := .later }
def ValueBackUptoCardSaid : Prop := Claim7.holds Tryd.pinned (.plain (OpenSpec.upto valueBackSpec)) valueBackUptoCard

/-- THE SECOND FORM's CARD OF 'thresherlaw03.ValueAll'. -/
def valueAllUptoCard : Claim7 := { stood := { row := valueAllUptoRow, standIns := [], harness := (true, "bb69a14ecfbc10d91511e1de1cac401641993d3163807c3ed32958c36fab5aed"), looks := true }, kinds := [], alts := [], laidByText := true, laidKinds := [.data, .data, .data, .sentinel, .sentinel], laidTests := true, laidLooks := .later }
def ValueAllUptoCardSaid : Prop := Claim7.holds Tryd.pinned (.plain (OpenSpec.upto valueAllSpec)) valueAllUptoCard
end Rows
end Go.Proofs.YtifpjhghbafcjaaDoor
