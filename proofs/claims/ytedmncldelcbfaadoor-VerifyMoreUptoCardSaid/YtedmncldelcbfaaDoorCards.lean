/-
  DERIVED. GIVEN WITH THE SEED: THE CARDS: each row of YtedmncldelcbfaaDoorRows.lean that lists a variable, with what it lists TIED to the program's text (the seventh form; the later family's looks); each row that meets fmt, with fmt's text TOLD by the authors' own Lean function (tested against real Go, not proved from fmt's source: count such statements apart). THE CARD IS WHAT COUNTS. Prove the row's statement (the work); the ties are given (YtedmncldelcbfaaDoorTie.lean); close each card by the builder's one call (the guide's Derived/Test/ToyasCard.lean, 'card_holds'). Laid BY PROGRAM, IN A SANDBOX (cutbox-door.mjs). By AI agents, Wed Nov 11 2026. No macro, syntax, notation, axiom, sorry.
-/
import Derived.Test.YtedmncldelcbfaaDoorRows
import GoSem.ClaimSeven
namespace Go.Proofs.YtedmncldelcbfaaDoor
namespace Rows

/-- THE TIED CARD OF 'tiltyardlaw16.VerifyMore'. -/
def verifyMoreCard : Claim7 := { stood := { row := verifyMoreRow, standIns := [], harness := (true, "33209f03d3a3a6d70cc2c32478555d4496fe6749514e4461f42ea497bdb0c15a"), looks := true }, kinds := [], alts := [], laidByText := true, laidKinds := [.data, .data], laidTests := true, laidLooks := .later }
def VerifyMoreCardSaid : Prop := Claim7.holds Tryd.pinned (.plain (OpenSpec.ofChange verifyMoreSpec)) verifyMoreCard

/-- THE TIED CARD OF 'tiltyardlaw16.VerifyAlone'. -/
def verifyAloneCard : Claim7 := { stood := { row := verifyAloneRow, standIns := [], harness := (true, "33209f03d3a3a6d70cc2c32478555d4496fe6749514e4461f42ea497bdb0c15a"), looks := true }, kinds := [], alts := [], laidByText := true, laidKinds := [.data, .data], laidTests := true, laidLooks := .later }
def VerifyAloneCardSaid : Prop := Claim7.holds Tryd.pinned (.plain (OpenSpec.ofChange verifyAloneSpec)) verifyAloneCard

/-- THE TIED CARD OF 'tiltyardlaw16.VerifyDeep'. -/
def verifyDeepCard : Claim7 := { stood := { row := verifyDeepRow, standIns := [], harness := (true, "33209f03d3a3a6d70cc2c32478555d4496fe6749514e4461f42ea497bdb0c15a"), looks := true }, kinds := [], alts := [], laidByText := true, laidKinds := [.data, .data], laidTests := true, laidLooks := .later }
def VerifyDeepCardSaid : Prop := Claim7.holds Tryd.pinned (.plain (OpenSpec.ofChange verifyDeepSpec)) verifyDeepCard

/-- THE SECOND FORM's CARD OF 'tiltyardlaw16.VerifyMore'. -/
def verifyMoreUptoCard : Claim7 := { stood := { row := verifyMoreUptoRow, standIns := [], harness := (true, "33209f03d3a3a6d70cc2c32478555d4496fe6749514e4461f42ea497bdb0c15a"), looks := true }, kinds := [], alts := [], laidByText := true, laidKinds := [.data, .data], laidTests := true, laidLooks := .later }
def VerifyMoreUptoCardSaid : Prop := Claim7.holds Tryd.pinned (.plain (OpenSpec.upto verifyMoreSpec)) verifyMoreUptoCard

/-- THE SECOND FORM's CARD OF 'tiltyardlaw16.VerifyAlone'. -/
def verifyAloneUptoCard : Claim7 := { stood := { row := verifyAloneUptoRow, standIns := [], harness := (true, "33209f03d3a3a6d70cc2c32478555d4496fe6749514e4461f42ea497bdb0c15a"), looks := true }, kinds := [], alts := [], laidByText := true, laidKinds := [.data, .data], laidTests := true, laidLooks := .later }
def VerifyAloneUptoCardSaid : Prop := Claim7.holds Tryd.pinned (.plain (OpenSpec.upto verifyAloneSpec)) verifyAloneUptoCard

/-- THE SECOND FORM's CARD OF 'tiltyardlaw16.VerifyDeep'. -/
def verifyDeepUptoCard : Claim7 := { stood := { row := verifyDeepUptoRow, standIns := [], harness := (true, "33209f03d3a3a6d70cc2c32478555d4496fe6749514e4461f42ea497bdb0c15a"), looks := true }, kinds := [], alts := [], laidByText := true, laidKinds := [.data, .data], laidTests := true, laidLooks := .later }
def VerifyDeepUptoCardSaid : Prop := Claim7.holds Tryd.pinned (.plain (OpenSpec.upto verifyDeepSpec)) verifyDeepUptoCard
end Rows
end Go.Proofs.YtedmncldelcbfaaDoor
