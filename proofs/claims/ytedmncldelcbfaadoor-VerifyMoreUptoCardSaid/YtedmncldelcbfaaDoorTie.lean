/-
  DERIVED. GIVEN WITH THE SEED: THE PROGRAM's TIES (one call each: nine closed facts by the kernel) AND EACH ROW's TIE, after the 31st guide's Derived/Test/Toyas{Tie, Card}.lean. No idea stands in it: it is a product of the set-up. Laid BY PROGRAM, IN A SANDBOX (cutbox-door.mjs). By AI agents, Wed Nov 11 2026. No macro, syntax, notation, axiom, sorry.
-/
import Derived.Test.YtedmncldelcbfaaDoorRows
import Derived.LaidByTextLater
import Derived.SevenTiedAt
import Derived.LaidSub
import Derived.LaidOnce
namespace Go.Proofs.YtedmncldelcbfaaDoor
open Go
set_option maxRecDepth 100000
theorem seatTie1 : Tryd.prog.laidByTextLater [("tiltyard/wire.nibbles", Rows.laid_tiltyard_wire_nibbles), ("tiltyard/verify.plain", Rows.laid_tiltyard_verify_plain)] [.data, .data] true :=
  Program.laidByTextLater_by_one 40 8 69 (by kernel_rfl) (by kernel_rfl) (by kernel_rfl) (by kernel_rfl) (by kernel_rfl) (by kernel_rfl) (fun _ _ => by kernel_rfl)
theorem noOwnUnsafe : Tryd.pinned.checked.prog.headLifts.contains "ownunsafe" = false := by kernel_rfl
theorem tie : Tryd.prog.laidByTextLater [("tiltyard/wire.nibbles", Rows.laid_tiltyard_wire_nibbles), ("tiltyard/verify.plain", Rows.laid_tiltyard_verify_plain)] [.data, .data] true :=
  Program.laidByTextLater.sub seatTie1 ["tiltyard/wire.nibbles", "tiltyard/verify.plain"] (by kernel_rfl) (by kernel_rfl)
theorem verifyMore_row_tie : Rows.verifyMoreRow.laidByTextAt .later Tryd.pinned [.data, .data] true :=
  OpenClaim.laidByTextAt_later rfl rfl tie noOwnUnsafe
theorem verifyAlone_row_tie : Rows.verifyAloneRow.laidByTextAt .later Tryd.pinned [.data, .data] true :=
  OpenClaim.laidByTextAt_later rfl rfl tie noOwnUnsafe
theorem verifyDeep_row_tie : Rows.verifyDeepRow.laidByTextAt .later Tryd.pinned [.data, .data] true :=
  OpenClaim.laidByTextAt_later rfl rfl tie noOwnUnsafe
theorem verifyMoreUpto_row_tie : Rows.verifyMoreUptoRow.laidByTextAt .later Tryd.pinned [.data, .data] true :=
  OpenClaim.laidByTextAt_later rfl rfl tie noOwnUnsafe
theorem verifyAloneUpto_row_tie : Rows.verifyAloneUptoRow.laidByTextAt .later Tryd.pinned [.data, .data] true :=
  OpenClaim.laidByTextAt_later rfl rfl tie noOwnUnsafe
theorem verifyDeepUpto_row_tie : Rows.verifyDeepUptoRow.laidByTextAt .later Tryd.pinned [.data, .data] true :=
  OpenClaim.laidByTextAt_later rfl rfl tie noOwnUnsafe
end Go.Proofs.YtedmncldelcbfaaDoor
