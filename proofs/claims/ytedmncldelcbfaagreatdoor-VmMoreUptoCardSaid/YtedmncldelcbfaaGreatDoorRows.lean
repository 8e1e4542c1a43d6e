/-
  NARROWER THAN 'FOR EVERY INPUT', by the rows' own cells (each row's printed sentence says how): VmRuns: laid · VmSteps: laid · VmEnds: laid · VmMore: laid · VmFinds: laid.
  DERIVED. THE GIVEN ROWS OF THIS SEAT. 5 by the template 'for every input the law returns true; each argument reads behind the call as it read before'; 0 by the template 'total and deterministic' (their statements: YtedmncldelcbfaaGreatDoorTotals.lean).
  GIVEN WITH THE SEED: the statements are not yours to turn. If you find one false, say at which input.
  Laid BY PROGRAM, IN A SANDBOX (cutbox-rows.mjs): the forced cells as the released guide's own fill.sh prints them over the translation f28dafe65e1de4e2… (all of the seat's roots in one cut). By AI agents, Wed Nov 11 2026. No macro, syntax, notation, axiom, sorry.
-/
import Derived.Test.YtedmncldelcbfaaGreatDoorChecked
import GoSem.Claim
import GoSem.ClaimJoined
import GoSem.ClaimMapViews
import Derived.JoinedTies
import Derived.KernelRfl
namespace Go.Proofs.YtedmncldelcbfaaGreatDoor
/- THE CELL 'sum', in the pinned program and in every row, IS THE sha256 OF THE DUMP (.gsa) THAT YtedmncldelcbfaaGreatDoorProg.lean LOADS. Nothing in Lean hashes anything: it is a label: what it is worth is what the hold of that sum in a sandbox is worth. -/
noncomputable def Tryz.pinned : Pinned := { name := "ytedmncldelcbfaagreatdoor", sum := "f28dafe65e1de4e2abd334787476264f388399a8f89dbf96361c9839f619d1af", checked := Tryz.checked }
namespace Rows
def none {H : Type} : Left H := { results := [], args := [] }

/- WHAT THE LISTED PACKAGE-LEVEL VARIABLES READ AS WHEN THE CALL BEGINS. Each datum BY PROGRAM (the guide's laid-datum.mjs) off the statement by which the dump's own 'gosem.cut.vars' lays the variable. In a bare row this is a premise. The card (YtedmncldelcbfaaGreatDoorCards.lean) ties it to the program's text. -/
def laid_tiltyard_wire_nibbles {H : Type} : DataW H := .agg [.lit (.int .u32 0), .lit (.int .u32 498536548), .lit (.int .u32 997073096), .lit (.int .u32 651767980), .lit (.int .u32 1994146192), .lit (.int .u32 1802195444), .lit (.int .u32 1303535960), .lit (.int .u32 1342533948), .lit (.int .u32 3988292384), .lit (.int .u32 4027552580), .lit (.int .u32 3604390888), .lit (.int .u32 3412177804), .lit (.int .u32 2607071920), .lit (.int .u32 2262029012), .lit (.int .u32 2685067896), .lit (.int .u32 3183342108)]
def laid_tiltyard_verify_plain {H : Type} : DataW H := .agg [.agg [.lit (.string []), .lit (.string [])], .agg [.lit (.string []), .lit (.string [])], .agg [.lit (.string []), .lit (.string [])], .agg [.lit (.string []), .lit (.string [])], .agg [.lit (.string []), .lit (.string [])], .agg [.lit (.string []), .lit (.string [])], .agg [.lit (.string []), .lit (.string [])], .agg [.lit (.string []), .lit (.string [])], .agg [.lit (.string [105, 105]), .lit (.string [105])], .agg [.lit (.string [105, 105]), .lit (.string [105])], .agg [.lit (.string [105, 105]), .lit (.string [105])], .agg [.lit (.string [105, 105]), .lit (.string [105])], .agg [.lit (.string [105, 105]), .lit (.string [105])], .agg [.lit (.string [105]), .lit (.string [105])], .agg [.lit (.string [102, 102]), .lit (.string [102])], .agg [.lit (.string [102, 102]), .lit (.string [102])], .agg [.lit (.string [102, 102]), .lit (.string [102])], .agg [.lit (.string [102, 102]), .lit (.string [102])], .agg [.lit (.string [102]), .lit (.string [102])], .agg [.lit (.string [84, 84]), .lit (.string [98])], .agg [.lit (.string [84, 84]), .lit (.string [98])], .agg [.lit (.string [78, 78]), .lit (.string [98])], .agg [.lit (.string [78, 78]), .lit (.string [98])], .agg [.lit (.string [78, 78]), .lit (.string [98])], .agg [.lit (.string [78, 78]), .lit (.string [98])], .agg [.lit (.string [98]), .lit (.string [98])], .agg [.lit (.string [105]), .lit (.string [102])], .agg [.lit (.string [102]), .lit (.string [105])], .agg [.lit (.string []), .lit (.string [])], .agg [.lit (.string []), .lit (.string [])], .agg [.lit (.string []), .lit (.string [])], .agg [.lit (.string []), .lit (.string [])], .agg [.lit (.string []), .lit (.string [])], .agg [.lit (.string [84]), .lit (.string [])]]

/-- 'tiltyardlaw17.VmRuns': WHATEVER THE INPUT: true; the input reads as it did. -/
def vmRunsSpec : ChangeSpec := { name := "vmRuns", fn := fun _ => fun
  | [d1, d2, d3] => { results := [.lit (.bool true)], args := [d1, d2, d3] }
  | _ => none }
def vmRunsRow : OpenClaim := { program := "ytedmncldelcbfaagreatdoor", sum := "f28dafe65e1de4e2abd334787476264f388399a8f89dbf96361c9839f619d1af", func := "tiltyard/tiltyardlaw17.VmRuns", spec := "vmRuns", inPlace := ["internal/abi.NoEscape", "internal/bytealg.MakeNoZero"], unfollowed := true, recurses := true, named := ["tiltyard/wire.nibbles", "tiltyard/verify.plain", "math/bits.divideError", "math/bits.overflowError"], apart := false, laid := [("tiltyard/wire.nibbles", laid_tiltyard_wire_nibbles), ("tiltyard/verify.plain", laid_tiltyard_verify_plain)] }
def VmRunsSaid : Prop := vmRunsRow.holds Tryz.pinned (OpenSpec.ofChange vmRunsSpec)

/-- ITS FALSE NEIGHBOUR: 'it returns false'. Refute it at one input. -/
def vmRunsWrong : ChangeSpec := { name := "vmRuns", fn := fun _ => fun
  | [d1, d2, d3] => { results := [.lit (.bool false)], args := [d1, d2, d3] }
  | _ => none }
def VmRunsWrongFalsely : Prop := vmRunsRow.holds Tryz.pinned (OpenSpec.ofChange vmRunsWrong)

/-- 'tiltyardlaw17.VmSteps': WHATEVER THE INPUT: true; the input reads as it did. -/
def vmStepsSpec : ChangeSpec := { name := "vmSteps", fn := fun _ => fun
  | [d1, d2, d3, d4, d5] => { results := [.lit (.bool true)], args := [d1, d2, d3, d4, d5] }
  | _ => none }
def vmStepsRow : OpenClaim := { program := "ytedmncldelcbfaagreatdoor", sum := "f28dafe65e1de4e2abd334787476264f388399a8f89dbf96361c9839f619d1af", func := "tiltyard/tiltyardlaw17.VmSteps", spec := "vmSteps", inPlace := ["internal/abi.NoEscape", "internal/bytealg.MakeNoZero"], unfollowed := true, recurses := true, named := ["tiltyard/wire.nibbles", "tiltyard/verify.plain", "math/bits.divideError", "math/bits.overflowError"], apart := false, laid := [("tiltyard/wire.nibbles", laid_tiltyard_wire_nibbles), ("tiltyard/verify.plain", laid_tiltyard_verify_plain)] }
def VmStepsSaid : Prop := vmStepsRow.holds Tryz.pinned (OpenSpec.ofChange vmStepsSpec)

/-- ITS FALSE NEIGHBOUR: 'it returns false'. Refute it at one input. -/
def vmStepsWrong : ChangeSpec := { name := "vmSteps", fn := fun _ => fun
  | [d1, d2, d3, d4, d5] => { results := [.lit (.bool false)], args := [d1, d2, d3, d4, d5] }
  | _ => none }
def VmStepsWrongFalsely : Prop := vmStepsRow.holds Tryz.pinned (OpenSpec.ofChange vmStepsWrong)

/-- 'tiltyardlaw17.VmEnds': WHATEVER THE INPUT: true; the input reads as it did. -/
def vmEndsSpec : ChangeSpec := { name := "vmEnds", fn := fun _ => fun
  | [d1, d2] => { results := [.lit (.bool true)], args := [d1, d2] }
  | _ => none }
def vmEndsRow : OpenClaim := { program := "ytedmncldelcbfaagreatdoor", sum := "f28dafe65e1de4e2abd334787476264f388399a8f89dbf96361c9839f619d1af", func := "tiltyard/tiltyardlaw17.VmEnds", spec := "vmEnds", inPlace := ["internal/abi.NoEscape", "internal/bytealg.MakeNoZero"], unfollowed := true, recurses := true, named := ["tiltyard/wire.nibbles", "tiltyard/verify.plain", "math/bits.divideError", "math/bits.overflowError"], apart := false, laid := [("tiltyard/wire.nibbles", laid_tiltyard_wire_nibbles), ("tiltyard/verify.plain", laid_tiltyard_verify_plain)] }
def VmEndsSaid : Prop := vmEndsRow.holds Tryz.pinned (OpenSpec.ofChange vmEndsSpec)

/-- ITS FALSE NEIGHBOUR: 'it returns false'. Refute it at one input. -/
def vmEndsWrong : ChangeSpec := { name := "vmEnds", fn := fun _ => fun
  | [d1, d2] => { results := [.lit (.bool false)], args := [d1, d2] }
  | _ => none }
def VmEndsWrongFalsely : Prop := vmEndsRow.holds Tryz.pinned (OpenSpec.ofChange vmEndsWrong)

/-- 'tiltyardlaw17.VmMore': WHATEVER THE INPUT: true; the input reads as it did. -/
def vmMoreSpec : ChangeSpec := { name := "vmMore", fn := fun _ => fun
  | [d1, d2, d3] => { results := [.lit (.bool true)], args := [d1, d2, d3] }
  | _ => none }
def vmMoreRow : OpenClaim := { program := "ytedmncldelcbfaagreatdoor", sum := "f28dafe65e1de4e2abd334787476264f388399a8f89dbf96361c9839f619d1af", func := "tiltyard/tiltyardlaw17.VmMore", spec := "vmMore", inPlace := ["internal/abi.NoEscape", "internal/bytealg.MakeNoZero"], unfollowed := true, recurses := true, named := ["tiltyard/wire.nibbles", "tiltyard/verify.plain", "math/bits.divideError", "math/bits.overflowError"], apart := false, laid := [("tiltyard/wire.nibbles", laid_tiltyard_wire_nibbles), ("tiltyard/verify.plain", laid_tiltyard_verify_plain)] }
def VmMoreSaid : Prop := vmMoreRow.holds Tryz.pinned (OpenSpec.ofChange vmMoreSpec)

/-- ITS FALSE NEIGHBOUR: 'it returns false'. Refute it at one input. -/
def vmMoreWrong : ChangeSpec := { name := "vmMore", fn := fun _ => fun
  | [d1, d2, d3] => { results := [.lit (.bool false)], args := [d1, d2, d3] }
  | _ => none }
def VmMoreWrongFalsely : Prop := vmMoreRow.holds Tryz.pinned (OpenSpec.ofChange vmMoreWrong)

/-- 'tiltyardlaw17.VmFinds': WHATEVER THE INPUT: true; the input reads as it did. -/
def vmFindsSpec : ChangeSpec := { name := "vmFinds", fn := fun _ => fun
  | [d1, d2] => { results := [.lit (.bool true)], args := [d1, d2] }
  | _ => none }
def vmFindsRow : OpenClaim := { program := "ytedmncldelcbfaagreatdoor", sum := "f28dafe65e1de4e2abd334787476264f388399a8f89dbf96361c9839f619d1af", func := "tiltyard/tiltyardlaw17.VmFinds", spec := "vmFinds", inPlace := ["internal/abi.NoEscape", "internal/bytealg.MakeNoZero"], unfollowed := true, recurses := true, named := ["tiltyard/wire.nibbles", "tiltyard/verify.plain", "math/bits.divideError", "math/bits.overflowError"], apart := false, laid := [("tiltyard/wire.nibbles", laid_tiltyard_wire_nibbles), ("tiltyard/verify.plain", laid_tiltyard_verify_plain)] }
def VmFindsSaid : Prop := vmFindsRow.holds Tryz.pinned (OpenSpec.ofChange vmFindsSpec)

/-- ITS FALSE NEIGHBOUR: 'it returns false'. Refute it at one input. -/
def vmFindsWrong : ChangeSpec := { name := "vmFinds", fn := fun _ => fun
  | [d1, d2] => { results := [.lit (.bool false)], args := [d1, d2] }
  | _ => none }
def VmFindsWrongFalsely : Prop := vmFindsRow.holds Tryz.pinned (OpenSpec.ofChange vmFindsWrong)

/- THE SECOND FORM. 'bulk': how many values and letters a reading holds, each counted each time it is reached (what is shared counts as often as it is met; a slice's spare places count too). A statement '..UptoSaid' is the law's where the arguments, and the package variables that the reading takes, are together of bulk at most 1048576: NARROWER than '..Said'. Prove '..Said' where nothing that the law and all that it calls make is longer than what came in: it says more and counts as full. Else prove '..UptoSaid'. A law counts once. -/
mutual
def uptoBulk {H : Type} : DataW H → Nat
  | .lit (.string bytes) => bytes.length + 1
  | .lit _ => 1
  | .nil => 1
  | .ptr d => uptoBulk d + 1
  | .slice elems spare => uptoBulkAll elems + uptoBulkAll spare + 1
  | .agg parts => uptoBulkAll parts + 1
  | .iface _ d => uptoBulk d + 1
  | .map entries => uptoBulkEntries entries + 1
  | .held _ => 1
def uptoBulkAll {H : Type} : List (DataW H) → Nat
  | [] => 0
  | d :: r => uptoBulk d + uptoBulkAll r
def uptoBulkEntries {H : Type} : List (Lit × DataW H) → Nat
  | [] => 0
  | x :: r => uptoBulkEntry x + uptoBulkEntries r
def uptoBulkEntry {H : Type} : Lit × DataW H → Nat
  | (.string bytes, d) => bytes.length + uptoBulk d + 1
  | (_, d) => uptoBulk d + 1
 end
def uptoSmall : (H : Type) → List (DataW H) → Bool := fun _ ds => decide (uptoBulkAll ds ≤ 1048576)
def OpenSpec.upto (s : _root_.Go.ChangeSpec) : _root_.Go.OpenSpec := { _root_.Go.OpenSpec.ofChange s with cond := some uptoSmall }

/-- 'tiltyardlaw17.VmRuns', WHERE WHAT IT READS IS OF BULK AT MOST 1048576: true; the input reads as it did. -/
def vmRunsUptoRow : OpenClaim := { program := "ytedmncldelcbfaagreatdoor", sum := "f28dafe65e1de4e2abd334787476264f388399a8f89dbf96361c9839f619d1af", func := "tiltyard/tiltyardlaw17.VmRuns", spec := "vmRuns", inPlace := ["internal/abi.NoEscape", "internal/bytealg.MakeNoZero"], unfollowed := true, recurses := true, named := ["tiltyard/wire.nibbles", "tiltyard/verify.plain", "math/bits.divideError", "math/bits.overflowError"], apart := false, laid := [("tiltyard/wire.nibbles", laid_tiltyard_wire_nibbles), ("tiltyard/verify.plain", laid_tiltyard_verify_plain)], narrowed := true }
def VmRunsUptoSaid : Prop := vmRunsUptoRow.holds Tryz.pinned (OpenSpec.upto vmRunsSpec)

/-- 'tiltyardlaw17.VmSteps', WHERE WHAT IT READS IS OF BULK AT MOST 1048576: true; the input reads as it did. -/
def vmStepsUptoRow : OpenClaim := { program := "ytedmncldelcbfaagreatdoor", sum := "f28dafe65e1de4e2abd334787476264f388399a8f89dbf96361c9839f619d1af", func := "tiltyard/tiltyardlaw17.VmSteps", spec := "vmSteps", inPlace := ["internal/abi.NoEscape", "internal/bytealg.MakeNoZero"], unfollowed := true, recurses := true, named := ["tiltyard/wire.nibbles", "tiltyard/verify.plain", "math/bits.divideError", "math/bits.overflowError"], apart := false, laid := [("tiltyard/wire.nibbles", laid_tiltyard_wire_nibbles), ("tiltyard/verify.plain", laid_tiltyard_verify_plain)], narrowed := true }
def VmStepsUptoSaid : Prop := vmStepsUptoRow.holds Tryz.pinned (OpenSpec.upto vmStepsSpec)

/-- 'tiltyardlaw17.VmEnds', WHERE WHAT IT READS IS OF BULK AT MOST 1048576: true; the input reads as it did. -/
def vmEndsUptoRow : OpenClaim := { program := "ytedmncldelcbfaagreatdoor", sum := "f28dafe65e1de4e2abd334787476264f388399a8f89dbf96361c9839f619d1af", func := "tiltyard/tiltyardlaw17.VmEnds", spec := "vmEnds", inPlace := ["internal/abi.NoEscape", "internal/bytealg.MakeNoZero"], unfollowed := true, recurses := true, named := ["tiltyard/wire.nibbles", "tiltyard/verify.plain", "math/bits.divideError", "math/bits.overflowError"], apart := false, laid := [("tiltyard/wire.nibbles", laid_tiltyard_wire_nibbles), ("tiltyard/verify.plain", laid_tiltyard_verify_plain)], narrowed := true }
def VmEndsUptoSaid : Prop := vmEndsUptoRow.holds Tryz.pinned (OpenSpec.upto vmEndsSpec)

/-- 'tiltyardlaw17.VmMore', WHERE WHAT IT READS IS OF BULK AT MOST 1048576: true; the input reads as it did. -/
def vmMoreUptoRow : OpenClaim := { program := "ytedmncldelcbfaagreatdoor", sum := "f28dafe65e1de4e2abd334787476264f388399a8f89dbf96361c9839f619d1af", func := "tiltyard/tiltyardlaw17.VmMore", spec := "vmMore", inPlace := ["internal/abi.NoEscape", "internal/bytealg.MakeNoZero"], unfollowed := true, recurses := true, named := ["tiltyard/wire.nibbles", "tiltyard/verify.plain", "math/bits.divideError", "math/bits.overflowError"], apart := false, laid := [("tiltyard/wire.nibbles", laid_tiltyard_wire_nibbles), ("tiltyard/verify.plain", laid_tiltyard_verify_plain)], narrowed := true }
def VmMoreUptoSaid : Prop := vmMoreUptoRow.holds Tryz.pinned (OpenSpec.upto vmMoreSpec)

/-- 'tiltyardlaw17.VmFinds', WHERE WHAT IT READS IS OF BULK AT MOST 1048576: true; the input reads as it did. -/
def vmFindsUptoRow : OpenClaim := { program := "ytedmncldelcbfaagreatdoor", sum := "f28dafe65e1de4e2abd334787476264f388399a8f89dbf96361c9839f619d1af", func := "tiltyard/tiltyardlaw17.VmFinds", spec := "vmFinds", inPlace := ["internal/abi.NoEscape", "internal/bytealg.MakeNoZero"], unfollowed := true, recurses := true, named := ["tiltyard/wire.nibbles", "tiltyard/verify.plain", "math/bits.divideError", "math/bits.overflowError"], apart := false, laid := [("tiltyard/wire.nibbles", laid_tiltyard_wire_nibbles), ("tiltyard/verify.plain", laid_tiltyard_verify_plain)], narrowed := true }
def VmFindsUptoSaid : Prop := vmFindsUptoRow.holds Tryz.pinned (OpenSpec.upto vmFindsSpec)

end Rows
end Go.Proofs.YtedmncldelcbfaaGreatDoor
