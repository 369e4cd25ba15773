/-
  DERIVED. GIVEN WITH THE SEED: THE CARDS: each row of YtblhojadchbcnaaDoorRows.lean that lists a variable, with what it lists TIED to the program's text (the seventh form; the later family's looks); each row that meets fmt, with fmt's text TOLD by the authors' own Lean function (tested against real Go, not proved from fmt's source: count such statements apart). THE CARD IS WHAT COUNTS. Prove the row's statement (the work); the ties are given (YtblhojadchbcnaaDoorTie.lean); close each card by the builder's one call (the guide's Derived/Test/ToyasCard.lean, 'card_holds'). Laid BY PROGRAM, IN A SANDBOX (cutbox-door.mjs). By AI agents, Wed Nov 11 2026. No macro, syntax, notation, axiom, sorry.
-/
import Derived.Test.YtblhojadchbcnaaDoorRows
import GoSem.ClaimSeven
namespace Go.Proofs.YtblhojadchbcnaaDoor
namespace Rows

/-- THE TIED CARD OF 'gatehouselaw01.LabelMakes'. -/
def labelMakesCard : Claim7 := { stood := { row := labelMakesRow, standIns := [], harness := (true, "f81708408e2f421dcfe2b48c58ffcdec49db95c0fa2c647506f06a8f10cae531"), looks := false }, kinds := [], alts := [], laidByText := true, laidKinds := [.data, .data, .data], laidTests := true, laidLooks := .later }
def LabelMakesCardSaid : Prop := Claim7.holds Tryd.pinned (.plain (OpenSpec.ofChange labelMakesSpec)) labelMakesCard

/-- THE TIED CARD OF 'gatehouselaw01.LabelLooks'. -/
def labelLooksCard : Claim7 := { stood := { row := labelLooksRow, standIns := [], harness := (true, "f81708408e2f421dcfe2b48c58ffcdec49db95c0fa2c647506f06a8f10cae531"), looks := false }, kinds := [], alts := [], laidByText := true, laidKinds := [.data, .data, .data], laidTests := true, laidLooks := .later }
def LabelLooksCardSaid : Prop := Claim7.holds Tryd.pinned (.plain (OpenSpec.ofChange labelLooksSpec)) labelLooksCard

/-- THE TIED CARD OF 'gatehouselaw01.LabelOrders'. -/
def labelOrdersCard : Claim7 := { stood := { row := labelOrdersRow, standIns := [], harness := (true, "f81708408e2f421dcfe2b48c58ffcdec49db95c0fa2c647506f06a8f10cae531"), looks := false }, kinds := [], alts := [], laidByText := true, laidKinds := [.data, .data, .data], laidTests := true, laidLooks := .later }
def LabelOrdersCardSaid : Prop := Claim7.holds Tryd.pinned (.plain (OpenSpec.ofChange labelOrdersSpec)) labelOrdersCard

/-- THE TIED CARD OF 'gatehouselaw01.LabelFlows'. -/
def labelFlowsCard : Claim7 := { stood := { row := labelFlowsRow, standIns := [], harness := (true, "f81708408e2f421dcfe2b48c58ffcdec49db95c0fa2c647506f06a8f10cae531"), looks := false }, kinds := [], alts := [], laidByText := true, laidKinds := [.data, .data, .data], laidTests := true, laidLooks := .later }
def LabelFlowsCardSaid : Prop := Claim7.holds Tryd.pinned (.plain (OpenSpec.ofChange labelFlowsSpec)) labelFlowsCard

/-- THE TIED CARD OF 'gatehouselaw01.LabelCompares'. -/
def labelComparesCard : Claim7 := { stood := { row := labelComparesRow, standIns := [], harness := (true, "f81708408e2f421dcfe2b48c58ffcdec49db95c0fa2c647506f06a8f10cae531"), looks := false }, kinds := [], alts := [], laidByText := true, laidKinds := [.data, .data, .data], laidTests := true, laidLooks := .later }
def LabelComparesCardSaid : Prop := Claim7.holds Tryd.pinned (.plain (OpenSpec.ofChange labelComparesSpec)) labelComparesCard

/-- THE TIED CARD OF 'gatehouselaw01.LabelBounds'. -/
def labelBoundsCard : Claim7 := { stood := { row := labelBoundsRow, standIns := [], harness := (true, "f81708408e2f421dcfe2b48c58ffcdec49db95c0fa2c647506f06a8f10cae531"), looks := false }, kinds := [], alts := [], laidByText := true, laidKinds := [.data, .data, .data], laidTests := true, laidLooks := .later }
def LabelBoundsCardSaid : Prop := Claim7.holds Tryd.pinned (.plain (OpenSpec.ofChange labelBoundsSpec)) labelBoundsCard

/-- THE TIED CARD OF 'gatehouselaw01.LabelBytes'. -/
def labelBytesCard : Claim7 := { stood := { row := labelBytesRow, standIns := [], harness := (true, "f81708408e2f421dcfe2b48c58ffcdec49db95c0fa2c647506f06a8f10cae531"), looks := false }, kinds := [], alts := [], laidByText := true, laidKinds := [.data, .data, .data], laidTests := true, laidLooks := .later }
def LabelBytesCardSaid : Prop := Claim7.holds Tryd.pinned (.plain (OpenSpec.ofChange labelBytesSpec)) labelBytesCard

/-- THE TIED CARD OF 'gatehouselaw01.LabelTurns'. -/
def labelTurnsCard : Claim7 := { stood := { row := labelTurnsRow, standIns := [], harness := (true, "f81708408e2f421dcfe2b48c58ffcdec49db95c0fa2c647506f06a8f10cae531"), looks := false }, kinds := [], alts := [], laidByText := true, laidKinds := [.data, .data, .data], laidTests := true, laidLooks := .later }
def LabelTurnsCardSaid : Prop := Claim7.holds Tryd.pinned (.plain (OpenSpec.ofChange labelTurnsSpec)) labelTurnsCard

/-- THE TIED CARD OF 'gatehouselaw01.LabelForms'. -/
def labelFormsCard : Claim7 := { stood := { row := labelFormsRow, standIns := [], harness := (true, "f81708408e2f421dcfe2b48c58ffcdec49db95c0fa2c647506f06a8f10cae531"), looks := false }, kinds := [], alts := [], laidByText := true, laidKinds := [.data, .data, .data], laidTests := true, laidLooks := .later }
def LabelFormsCardSaid : Prop := Claim7.holds Tryd.pinned (.plain (OpenSpec.ofChange labelFormsSpec)) labelFormsCard

/-- THE TIED CARD OF 'gatehouselaw01.LabelTexts'. -/
def labelTextsCard : Claim7 := { stood := { row := labelTextsRow, standIns := [], harness := (true, "f81708408e2f421dcfe2b48c58ffcdec49db95c0fa2c647506f06a8f10cae531"), looks := false }, kinds := [], alts := [], laidByText := true, laidKinds := [.data, .data, .data], laidTests := true, laidLooks := .later }
def LabelTextsCardSaid : Prop := Claim7.holds Tryd.pinned (.plain (OpenSpec.ofChange labelTextsSpec)) labelTextsCard

/-- THE SECOND FORM's CARD OF 'gatehouselaw01.LabelMakes'. -/
def labelMakesUptoCard : Claim7 := { stood := { row := labelMakesUptoRow, standIns := [], harness := (true, "f81708408e2f421dcfe2b48c58ffcdec49db95c0fa2c647506f06a8f10cae531"), looks := false }, kinds := [], alts := [], laidByText := true, laidKinds := [.data, .data, .data], laidTests := true, laidLooks := .later }
def LabelMakesUptoCardSaid : Prop := Claim7.holds Tryd.pinned (.plain (OpenSpec.upto labelMakesSpec)) labelMakesUptoCard

/-- THE SECOND FORM's CARD OF 'gatehouselaw01.LabelLooks'. -/
def labelLooksUptoCard : Claim7 := { stood := { row := labelLooksUptoRow, standIns := [], harness := (true, "f81708408e2f421dcfe2b48c58ffcdec49db95c0fa2c647506f06a8f10cae531"), looks := false }, kinds := [], alts := [], laidByText := true, laidKinds := [.data, .data, .data], laidTests := true, laidLooks := .later }
def LabelLooksUptoCardSaid : Prop := Claim7.holds Tryd.pinned (.plain (OpenSpec.upto labelLooksSpec)) labelLooksUptoCard

/-- THE SECOND FORM's CARD OF 'gatehouselaw01.LabelOrders'. -/
def labelOrdersUptoCard : Claim7 := { stood := { row := labelOrdersUptoRow, standIns := [], harness := (true, "f81708408e2f421dcfe2b48c58ffcdec49db95c0fa2c647506f06a8f10cae531"), looks := false }, kinds := [], alts := [], laidByText := true, laidKinds := [.data, .data, .data], laidTests := true, laidLooks := .later }
def LabelOrdersUptoCardSaid : Prop := Claim7.holds Tryd.pinned (.plain (OpenSpec.upto labelOrdersSpec)) labelOrdersUptoCard

/-- THE SECOND FORM's CARD OF 'gatehouselaw01.LabelFlows'. -/
def labelFlowsUptoCard : Claim7 := { stood := { row := labelFlowsUptoRow, standIns := [], harness := (true, "f81708408e2f421dcfe2b48c58ffcdec49db95c0fa2c647506f06a8f10cae531"), looks := false }, kinds := [], alts := [], laidByText := true, laidKinds := [.data, .data, .data], laidTests := true, laidLooks := .later }
def LabelFlowsUptoCardSaid : Prop := Claim7.holds Tryd.pinned (.plain (OpenSpec.upto labelFlowsSpec)) labelFlowsUptoCard

/-- THE SECOND FORM's CARD OF 'gatehouselaw01.LabelCompares'. -/
def labelComparesUptoCard : Claim7 := { stood := { row := labelComparesUptoRow, standIns := [], harness := (true, "f81708408e2f421dcfe2b48c58ffcdec49db95c0fa2c647506f06a8f10cae531"), looks := false }, kinds := [], alts := [], laidByText := true, laidKinds := [.data, .data, .data], laidTests := true, laidLooks := .later }
def LabelComparesUptoCardSaid : Prop := Claim7.holds Tryd.pinned (.plain (OpenSpec.upto labelComparesSpec)) labelComparesUptoCard

/-- THE SECOND FORM's CARD OF 'gatehouselaw01.LabelBounds'. -/
def labelBoundsUptoCard : Claim7 := { stood := { row := labelBoundsUptoRow, standIns := [], harness := (true, "f81708408e2f421dcfe2b48c58ffcdec49db95c0fa2c647506f06a8f10cae531"), looks := false }, kinds := [], alts := [], laidByText := true, laidKinds := [.data, .data, .data], laidTests := true, laidLooks := .later }
def LabelBoundsUptoCardSaid : Prop := Claim7.holds Tryd.pinned (.plain (OpenSpec.upto labelBoundsSpec)) labelBoundsUptoCard

/-- THE SECOND FORM's CARD OF 'gatehouselaw01.LabelBytes'. -/
def labelBytesUptoCard : Claim7 := { stood := { row := labelBytesUptoRow, standIns := [], harness := (true, "f81708408e2f421dcfe2b48c58ffcdec49db95c0fa2c647506f06a8f10cae531"), looks := false }, kinds := [], alts := [], laidByText := true, laidKinds := [.data, .data, .data], laidTests := true, laidLooks := .later }
def LabelBytesUptoCardSaid : Prop := Claim7.holds Tryd.pinned (.plain (OpenSpec.upto labelBytesSpec)) labelBytesUptoCard

/-- THE SECOND FORM's CARD OF 'gatehouselaw01.LabelTurns'. -/
def labelTurnsUptoCard : Claim7 := { stood := { row := labelTurnsUptoRow, standIns := [], harness := (true, "f81708408e2f421dcfe2b48c58ffcdec49db95c0fa2c647506f06a8f10cae531"), looks := false }, kinds := [], alts := [], laidByText := true, laidKinds := [.data, .data, .data], laidTests := true, laidLooks := .later }
def LabelTurnsUptoCardSaid : Prop := Claim7.holds Tryd.pinned (.plain (OpenSpec.upto labelTurnsSpec)) labelTurnsUptoCard

/-- THE SECOND FORM's CARD OF 'gatehouselaw01.LabelForms'. -/
def labelFormsUptoCard : Claim7 := { stood := { row := labelFormsUptoRow, standIns := [], harness := (true, "f81708408e2f421dcfe2b48c58ffcdec49db95c0fa2c647506f06a8f10cae531"), looks := false }, kinds := [], alts := [], laidByText := true, laidKinds := [.data, .data, .data], laidTests := true, laidLooks := .later }
def LabelFormsUptoCardSaid : Prop := Claim7.holds Tryd.pinned (.plain (OpenSpec.upto labelFormsSpec)) labelFormsUptoCard

/-- THE SECOND FORM's CARD OF 'gatehouselaw01.LabelTexts'. -/
def labelTextsUptoCard : Claim7 := { stood := { row := labelTextsUptoRow, standIns := [], harness := (true, "f81708408e2f421dcfe2b48c58ffcdec49db95c0fa2c647506f06a8f10cae531"), looks := false }, kinds := [], alts := [], laidByText := true, laidKinds := [.data, .data, .data], laidTests := true, laidLooks := .later }
def LabelTextsUptoCardSaid : Prop := Claim7.holds Tryd.pinned (.plain (OpenSpec.upto labelTextsSpec)) labelTextsUptoCard
end Rows
end Go.Proofs.YtblhojadchbcnaaDoor
