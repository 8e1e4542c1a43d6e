/-
  DERIVED. GIVEN WITH THE SEED: THE CARDS: each row of YtedmncldelcbfaaGreatDoorRows.lean that lists a variable, with what it lists TIED to the program's text (the seventh form; the later family's looks); each row that meets fmt, with fmt's text TOLD by the authors' own Lean function (tested against real Go, not proved from fmt's source: count such statements apart). THE CARD IS WHAT COUNTS. Prove the row's statement (the work); the ties are given (YtedmncldelcbfaaGreatDoorTie.lean); close each card by the builder's one call (the guide's Derived/Test/ToyasCard.lean, 'card_holds'). Laid BY PROGRAM, IN A SANDBOX (cutbox-door.mjs). By AI agents, Wed Nov 11 2026. No macro, syntax, notation, axiom, sorry.
-/
import Derived.Test.YtedmncldelcbfaaGreatDoorRows
import GoSem.ClaimSeven
namespace Go.Proofs.YtedmncldelcbfaaGreatDoor
namespace Rows

/-- THE TIED CARD OF 'tiltyardlaw17.VmRuns'. -/
def vmRunsCard : Claim7 := { stood := { row := vmRunsRow, standIns := [], harness := (true, "65a79fc1083e17457e117ae3f84e5ad0874015fe73097bcc474d38e0ef7f82d8"), looks := true }, kinds := [], alts := [], laidByText := true, laidKinds := [.data, .data], laidTests := true, laidLooks := .later }
def VmRunsCardSaid : Prop := Claim7.holds Tryz.pinned (.plain (OpenSpec.ofChange vmRunsSpec)) vmRunsCard

/-- THE TIED CARD OF 'tiltyardlaw17.VmSteps'. -/
def vmStepsCard : Claim7 := { stood := { row := vmStepsRow, standIns := [], harness := (true, "65a79fc1083e17457e117ae3f84e5ad0874015fe73097bcc474d38e0ef7f82d8"), looks := true }, kinds := [], alts := [], laidByText := true, laidKinds := [.data, .data], laidTests := true, laidLooks := .later }
def VmStepsCardSaid : Prop := Claim7.holds Tryz.pinned (.plain (OpenSpec.ofChange vmStepsSpec)) vmStepsCard

/-- THE TIED CARD OF 'tiltyardlaw17.VmEnds'. -/
def vmEndsCard : Claim7 := { stood := { row := vmEndsRow, standIns := [], harness := (true, "65a79fc1083e17457e117ae3f84e5ad0874015fe73097bcc474d38e0ef7f82d8"), looks := true }, kinds := [], alts := [], laidByText := true, laidKinds := [.data, .data], laidTests := true, laidLooks := .later }
def VmEndsCardSaid : Prop := Claim7.holds Tryz.pinned (.plain (OpenSpec.ofChange vmEndsSpec)) vmEndsCard

/-- THE TIED CARD OF 'tiltyardlaw17.VmMore'. -/
def vmMoreCard : Claim7 := { stood := { row := vmMoreRow, standIns := [], harness := (true, "65a79fc1083e17457e117ae3f84e5ad0874015fe73097bcc474d38e0ef7f82d8"), looks := true }, kinds := [], alts := [], laidByText := true, laidKinds := [.data, .data], laidTests := true, laidLooks := .later }
def VmMoreCardSaid : Prop := Claim7.holds Tryz.pinned (.plain (OpenSpec.ofChange vmMoreSpec)) vmMoreCard

/-- THE TIED CARD OF 'tiltyardlaw17.VmFinds'. -/
def vmFindsCard : Claim7 := { stood := { row := vmFindsRow, standIns := [], harness := (true, "65a79fc1083e17457e117ae3f84e5ad0874015fe73097bcc474d38e0ef7f82d8"), looks := true }, kinds := [], alts := [], laidByText := true, laidKinds := [.data, .data], laidTests := true, laidLooks := .later }
def VmFindsCardSaid : Prop := Claim7.holds Tryz.pinned (.plain (OpenSpec.ofChange vmFindsSpec)) vmFindsCard

/-- THE SECOND FORM's CARD OF 'tiltyardlaw17.VmRuns'. -/
def vmRunsUptoCard : Claim7 := { stood := { row := vmRunsUptoRow, standIns := [], harness := (true, "65a79fc1083e17457e117ae3f84e5ad0874015fe73097bcc474d38e0ef7f82d8"), looks := true }, kinds := [], alts := [], laidByText := true, laidKinds := [.data, .data], laidTests := true, laidLooks := .later }
def VmRunsUptoCardSaid : Prop := Claim7.holds Tryz.pinned (.plain (OpenSpec.upto vmRunsSpec)) vmRunsUptoCard

/-- THE SECOND FORM's CARD OF 'tiltyardlaw17.VmSteps'. -/
def vmStepsUptoCard : Claim7 := { stood := { row := vmStepsUptoRow, standIns := [], harness := (true, "65a79fc1083e17457e117ae3f84e5ad0874015fe73097bcc474d38e0ef7f82d8"), looks := true }, kinds := [], alts := [], laidByText := true, laidKinds := [.data, .data], laidTests := true, laidLooks := .later }
def VmStepsUptoCardSaid : Prop := Claim7.holds Tryz.pinned (.plain (OpenSpec.upto vmStepsSpec)) vmStepsUptoCard

/-- THE SECOND FORM's CARD OF 'tiltyardlaw17.VmEnds'. -/
def vmEndsUptoCard : Claim7 := { stood := { row := vmEndsUptoRow, standIns := [], harness := (true, "65a79fc1083e17457e117ae3f84e5ad0874015fe73097bcc474d38e0ef7f82d8"), looks := true }, kinds := [], alts := [], laidByText := true, laidKinds := [.data, .data], laidTests := true, laidLooks := .later }
def VmEndsUptoCardSaid : Prop := Claim7.holds Tryz.pinned (.plain (OpenSpec.upto vmEndsSpec)) vmEndsUptoCard

/-- THE SECOND FORM's CARD OF 'tiltyardlaw17.VmMore'. -/
def vmMoreUptoCard : Claim7 := { stood := { row := vmMoreUptoRow, standIns := [], harness := (true, "65a79fc1083e17457e117ae3f84e5ad0874015fe73097bcc474d38e0ef7f82d8"), looks := true }, kinds := [], alts := [], laidByText := true, laidKinds := [.data, .data], laidTests := true, laidLooks := .later }
def VmMoreUptoCardSaid : Prop := Claim7.holds Tryz.pinned (.plain (OpenSpec.upto vmMoreSpec)) vmMoreUptoCard

/-- THE SECOND FORM's CARD OF 'tiltyardlaw17.VmFinds'. -/
def vmFindsUptoCard : Claim7 := { stood := { row := vmFindsUptoRow, standIns := [], harness := (true, "65a79fc1083e17457e117ae3f84e5ad0874015fe73097bcc474d38e0ef7f82d8"), looks := true }, kinds := [], alts := [], laidByText := true, laidKinds := [.data, .data], laidTests := true, laidLooks := .later }
def VmFindsUptoCardSaid : Prop := Claim7.holds Tryz.pinned (.plain (OpenSpec.upto vmFindsSpec)) vmFindsUptoCard
end Rows
end Go.Proofs.YtedmncldelcbfaaGreatDoor
