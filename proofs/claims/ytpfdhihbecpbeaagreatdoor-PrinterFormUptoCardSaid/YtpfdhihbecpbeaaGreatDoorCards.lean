/-
  DERIVED. GIVEN WITH THE SEED: THE CARDS: each row of YtpfdhihbecpbeaaGreatDoorRows.lean that lists a variable, with what it lists TIED to the program's text (the seventh form; the later family's looks); each row that meets fmt, with fmt's text TOLD by the authors' own Lean function (tested against real Go, not proved from fmt's source: count such statements apart). THE CARD IS WHAT COUNTS. Prove the row's statement (the work); the ties are given (YtpfdhihbecpbeaaGreatDoorTie.lean); close each card by the builder's one call (the guide's Derived/Test/ToyasCard.lean, 'card_holds'). Laid BY PROGRAM, IN A SANDBOX (cutbox-door.mjs). By AI agents, Wed Nov 11 2026. No macro, syntax, notation, axiom, sorry.
-/
import Derived.Test.YtpfdhihbecpbeaaGreatDoorRows
import GoSem.ClaimSeven
namespace Go.Proofs.YtpfdhihbecpbeaaGreatDoor
namespace Rows

/-- THE TIED CARD OF 'tiltyardlaw10.PrinterWrites'. -/
def printerWritesCard : Claim7 := { stood := { row := printerWritesRow, standIns := [], harness := (true, "f93bc04be3b594ecbd8b1632ca067fd7575244b1593b003cd0343b9008a5a547"), looks := true }, kinds := [], alts := [], laidByText := true, laidKinds := [.data, .data, .data, .data, .sentinel, .sentinel, .data, .data, .pinned], laidTests := true, laidLooks := .later }
def PrinterWritesCardSaid : Prop := Claim7.holds Tryz.pinned (.plain (OpenSpec.ofChange printerWritesSpec)) printerWritesCard

/-- THE TIED CARD OF 'tiltyardlaw10.PrinterBack'. -/
def printerBackCard : Claim7 := { stood := { row := printerBackRow, standIns := [], harness := (true, "f93bc04be3b594ecbd8b1632ca067fd7575244b1593b003cd0343b9008a5a547"), looks := true }, kinds := [], alts := [], laidByText := true, laidKinds := [.data, .data, .data, .data, .sentinel, .sentinel, .data, .data, .pinned], laidTests := true, laidLooks := .later }
def PrinterBackCardSaid : Prop := Claim7.holds Tryz.pinned (.plain (OpenSpec.ofChange printerBackSpec)) printerBackCard

/-- THE TIED CARD OF 'tiltyardlaw10.PrinterForm'. -/
def printerFormCard : Claim7 := { stood := { row := printerFormRow, standIns := [], harness := (true, "f93bc04be3b594ecbd8b1632ca067fd7575244b1593b003cd0343b9008a5a547"), looks := true }, kinds := [], alts := [], laidByText := true, laidKinds := [.data, .data, .data, .data, .sentinel, .sentinel, .data, .data, .pinned], laidTests := true, laidLooks := .later }
def PrinterFormCardSaid : Prop := Claim7.holds Tryz.pinned (.plain (OpenSpec.ofChange printerFormSpec)) printerFormCard

/-- THE TIED CARD OF 'tiltyardlaw10.PrinterLines'. -/
def printerLinesCard : Claim7 := { stood := { row := printerLinesRow, standIns := [], harness := (true, "f93bc04be3b594ecbd8b1632ca067fd7575244b1593b003cd0343b9008a5a547"), looks := true }, kinds := [], alts := [], laidByText := true, laidKinds := [.data, .data, .data, .data, .sentinel, .sentinel, .data, .data, .pinned], laidTests := true, laidLooks := .later }
def PrinterLinesCardSaid : Prop := Claim7.holds Tryz.pinned (.plain (OpenSpec.ofChange printerLinesSpec)) printerLinesCard

/-- THE TIED CARD OF 'tiltyardlaw10.PrinterShort'. -/
def printerShortCard : Claim7 := { stood := { row := printerShortRow, standIns := [], harness := (true, "f93bc04be3b594ecbd8b1632ca067fd7575244b1593b003cd0343b9008a5a547"), looks := true }, kinds := [], alts := [], laidByText := true, laidKinds := [.data, .data, .data, .data, .sentinel, .sentinel, .data, .data, .pinned], laidTests := true, laidLooks := .later }
def PrinterShortCardSaid : Prop := Claim7.holds Tryz.pinned (.plain (OpenSpec.ofChange printerShortSpec)) printerShortCard

/-- THE SECOND FORM's CARD OF 'tiltyardlaw10.PrinterWrites'. -/
def printerWritesUptoCard : Claim7 := { stood := { row := printerWritesUptoRow, standIns := [], harness := (true, "f93bc04be3b594ecbd8b1632ca067fd7575244b1593b003cd0343b9008a5a547"), looks := true }, kinds := [], alts := [], laidByText := true, laidKinds := [.data, .data, .data, .data, .sentinel, .sentinel, .data, .data, .pinned], laidTests := true, laidLooks := .later }
def PrinterWritesUptoCardSaid : Prop := Claim7.holds Tryz.pinned (.plain (OpenSpec.upto printerWritesSpec)) printerWritesUptoCard

/-- THE SECOND FORM's CARD OF 'tiltyardlaw10.PrinterBack'. -/
def printerBackUptoCard : Claim7 := { stood := { row := printerBackUptoRow, standIns := [], harness := (true, "f93bc04be3b594ecbd8b1632ca067fd7575244b1593b003cd0343b9008a5a547"), looks := true }, kinds := [], alts := [], laidByText := true, laidKinds := [.data, .data, .data, .data, .sentinel, .sentinel, .data, .data, .pinned], laidTests := true, laidLooks := .later }
def PrinterBackUptoCardSaid : Prop := Claim7.holds Tryz.pinned (.plain (OpenSpec.upto printerBackSpec)) printerBackUptoCard

/-- THE SECOND FORM's CARD OF 'tiltyardlaw10.PrinterForm'. -/
def printerFormUptoCard : Claim7 := { stood := { row := printerFormUptoRow, standIns := [], harness := (true, "f93bc04be3b594ecbd8b1632ca067fd7575244b1593b003cd0343b9008a5a547"), looks := true }, kinds := [], alts := [], laidByText := true, laidKinds := [.data, .data, .data, .data, .sentinel, .sentinel, .data, .data, .pinned], laidTests := true, laidLooks := .later }
def PrinterFormUptoCardSaid : Prop := Claim7.holds Tryz.pinned (.plain (OpenSpec.upto printerFormSpec)) printerFormUptoCard

/-- THE SECOND FORM's CARD OF 'tiltyardlaw10.PrinterLines'. -/
def printerLinesUptoCard : Claim7 := { stood := { row := printerLinesUptoRow, standIns := [], harness := (true, "f93bc04be3b594ecbd8b1632ca067fd7575244b1593b003cd0343b9008a5a547"), looks := true }, kinds := [], alts := [], laidByText := true, laidKinds := [.data, .data, .data, .data, .sentinel, .sentinel, .data, .data, .pinned], laidTests := true, laidLooks := .later }
def PrinterLinesUptoCardSaid : Prop := Claim7.holds Tryz.pinned (.plain (OpenSpec.upto printerLinesSpec)) printerLinesUptoCard

/-- THE SECOND FORM's CARD OF 'tiltyardlaw10.PrinterShort'. -/
def printerShortUptoCard : Claim7 := { stood := { row := printerShortUptoRow, standIns := [], harness := (true, "f93bc04be3b594ecbd8b1632ca067fd7575244b1593b003cd0343b9008a5a547"), looks := true }, kinds := [], alts := [], laidByText := true, laidKinds := [.data, .data, .data, .data, .sentinel, .sentinel, .data, .data, .pinned], laidTests := true, laidLooks := .later }
def PrinterShortUptoCardSaid : Prop := Claim7.holds Tryz.pinned (.plain (OpenSpec.upto printerShortSpec)) printerShortUptoCard
end Rows
end Go.Proofs.YtpfdhihbecpbeaaGreatDoor
