/-
  NARROWER THAN 'FOR EVERY INPUT', by the rows' own cells (each row's printed sentence says how): VerifyMore: laid · VerifyAlone: laid · VerifyDeep: laid.
  DERIVED. THE GIVEN ROWS OF THIS SEAT. 3 by the template 'for every input the law returns true; each argument reads behind the call as it read before'; 0 by the template 'total and deterministic' (their statements: YtedmncldelcbfaaDoorTotals.lean).
  GIVEN WITH THE SEED: the statements are not yours to turn. If you find one false, say at which input.
  Laid BY PROGRAM, IN A SANDBOX (cutbox-rows.mjs): the forced cells as the released guide's own fill.sh prints them over the translation 7c663ddfeb7250e8… (all of the seat's roots in one cut). By AI agents, Wed Nov 11 2026. No macro, syntax, notation, axiom, sorry.
-/
import Derived.Test.YtedmncldelcbfaaDoorChecked
import GoSem.Claim
import GoSem.ClaimJoined
import GoSem.ClaimMapViews
import Derived.JoinedTies
import Derived.KernelRfl
namespace Go.Proofs.YtedmncldelcbfaaDoor
/- THE CELL 'sum', in the pinned program and in every row, IS THE sha256 OF THE DUMP (.gsa) THAT YtedmncldelcbfaaDoorProg.lean LOADS. Nothing in Lean hashes anything: it is a label: what it is worth is what the hold of that sum in a sandbox is worth. -/
noncomputable def Tryd.pinned : Pinned := { name := "ytedmncldelcbfaadoor", sum := "7c663ddfeb7250e823311a5e5866e64baf4f2e3d275e36385e38428bf9f68fdf", checked := Tryd.checked }
namespace Rows
def none {H : Type} : Left H := { results := [], args := [] }

/- WHAT THE LISTED PACKAGE-LEVEL VARIABLES READ AS WHEN THE CALL BEGINS. Each datum BY PROGRAM (the guide's laid-datum.mjs) off the statement by which the dump's own 'gosem.cut.vars' lays the variable. In a bare row this is a premise. The card (YtedmncldelcbfaaDoorCards.lean) ties it to the program's text. -/
def laid_tiltyard_wire_nibbles {H : Type} : DataW H := .agg [.lit (.int .u32 0), .lit (.int .u32 498536548), .lit (.int .u32 997073096), .lit (.int .u32 651767980), .lit (.int .u32 1994146192), .lit (.int .u32 1802195444), .lit (.int .u32 1303535960), .lit (.int .u32 1342533948), .lit (.int .u32 3988292384), .lit (.int .u32 4027552580), .lit (.int .u32 3604390888), .lit (.int .u32 3412177804), .lit (.int .u32 2607071920), .lit (.int .u32 2262029012), .lit (.int .u32 2685067896), .lit (.int .u32 3183342108)]
def laid_tiltyard_verify_plain {H : Type} : DataW H := .agg [.agg [.lit (.string []), .lit (.string [])], .agg [.lit (.string []), .lit (.string [])], .agg [.lit (.string []), .lit (.string [])], .agg [.lit (.string []), .lit (.string [])], .agg [.lit (.string []), .lit (.string [])], .agg [.lit (.string []), .lit (.string [])], .agg [.lit (.string []), .lit (.string [])], .agg [.lit (.string []), .lit (.string [])], .agg [.lit (.string [105, 105]), .lit (.string [105])], .agg [.lit (.string [105, 105]), .lit (.string [105])], .agg [.lit (.string [105, 105]), .lit (.string [105])], .agg [.lit (.string [105, 105]), .lit (.string [105])], .agg [.lit (.string [105, 105]), .lit (.string [105])], .agg [.lit (.string [105]), .lit (.string [105])], .agg [.lit (.string [102, 102]), .lit (.string [102])], .agg [.lit (.string [102, 102]), .lit (.string [102])], .agg [.lit (.string [102, 102]), .lit (.string [102])], .agg [.lit (.string [102, 102]), .lit (.string [102])], .agg [.lit (.string [102]), .lit (.string [102])], .agg [.lit (.string [84, 84]), .lit (.string [98])], .agg [.lit (.string [84, 84]), .lit (.string [98])], .agg [.lit (.string [78, 78]), .lit (.string [98])], .agg [.lit (.string [78, 78]), .lit (.string [98])], .agg [.lit (.string [78, 78]), .lit (.string [98])], .agg [.lit (.string [78, 78]), .lit (.string [98])], .agg [.lit (.string [98]), .lit (.string [98])], .agg [.lit (.string [105]), .lit (.string [102])], .agg [.lit (.string [102]), .lit (.string [105])], .agg [.lit (.string []), .lit (.string [])], .agg [.lit (.string []), .lit (.string [])], .agg [.lit (.string []), .lit (.string [])], .agg [.lit (.string []), .lit (.string [])], .agg [.lit (.string []), .lit (.string [])], .agg [.lit (.string [84]), .lit (.string [])]]

/-- 'tiltyardlaw16.VerifyMore': WHATEVER THE INPUT: true; the input reads as it did. -/
def verifyMoreSpec : ChangeSpec := { name := "verifyMore", fn := fun _ => fun
  | [d1, d2] => { results := [.lit (.bool true)], args := [d1, d2] }
  | _ => none }
def verifyMoreRow : OpenClaim := { program := "ytedmncldelcbfaadoor", sum := "7c663ddfeb7250e823311a5e5866e64baf4f2e3d275e36385e38428bf9f68fdf", func := "tiltyard/tiltyardlaw16.VerifyMore", spec := "verifyMore", inPlace := ["internal/abi.NoEscape", "internal/bytealg.MakeNoZero"], unfollowed := true, recurses := true, named := ["tiltyard/wire.nibbles", "tiltyard/verify.plain"], apart := false, laid := [("tiltyard/wire.nibbles", laid_tiltyard_wire_nibbles), ("tiltyard/verify.plain", laid_tiltyard_verify_plain)] }
def VerifyMoreSaid : Prop := verifyMoreRow.holds Tryd.pinned (OpenSpec.ofChange verifyMoreSpec)

/-- ITS FALSE NEIGHBOUR: 'it returns false'. Refute it at one input. -/
def verifyMoreWrong : ChangeSpec := { name := "verifyMore", fn := fun _ => fun
  | [d1, d2] => { results := [.lit (.bool false)], args := [d1, d2] }
  | _ => none }
def VerifyMoreWrongFalsely : Prop := verifyMoreRow.holds Tryd.pinned (OpenSpec.ofChange verifyMoreWrong)

/-- 'tiltyardlaw16.VerifyAlone': WHATEVER THE INPUT: true; the input reads as it did. -/
def verifyAloneSpec : ChangeSpec := { name := "verifyAlone", fn := fun _ => fun
  | [d] => { results := [.lit (.bool true)], args := [d] }
  | _ => none }
def verifyAloneRow : OpenClaim := { program := "ytedmncldelcbfaadoor", sum := "7c663ddfeb7250e823311a5e5866e64baf4f2e3d275e36385e38428bf9f68fdf", func := "tiltyard/tiltyardlaw16.VerifyAlone", spec := "verifyAlone", inPlace := ["internal/abi.NoEscape", "internal/bytealg.MakeNoZero"], unfollowed := true, recurses := true, named := ["tiltyard/wire.nibbles", "tiltyard/verify.plain"], apart := false, laid := [("tiltyard/wire.nibbles", laid_tiltyard_wire_nibbles), ("tiltyard/verify.plain", laid_tiltyard_verify_plain)] }
def VerifyAloneSaid : Prop := verifyAloneRow.holds Tryd.pinned (OpenSpec.ofChange verifyAloneSpec)

/-- ITS FALSE NEIGHBOUR: 'it returns false'. Refute it at one input. -/
def verifyAloneWrong : ChangeSpec := { name := "verifyAlone", fn := fun _ => fun
  | [d] => { results := [.lit (.bool false)], args := [d] }
  | _ => none }
def VerifyAloneWrongFalsely : Prop := verifyAloneRow.holds Tryd.pinned (OpenSpec.ofChange verifyAloneWrong)

/-- 'tiltyardlaw16.VerifyDeep': WHATEVER THE INPUT: true; the input reads as it did. -/
def verifyDeepSpec : ChangeSpec := { name := "verifyDeep", fn := fun _ => fun
  | [d] => { results := [.lit (.bool true)], args := [d] }
  | _ => none }
def verifyDeepRow : OpenClaim := { program := "ytedmncldelcbfaadoor", sum := "7c663ddfeb7250e823311a5e5866e64baf4f2e3d275e36385e38428bf9f68fdf", func := "tiltyard/tiltyardlaw16.VerifyDeep", spec := "verifyDeep", inPlace := ["internal/abi.NoEscape", "internal/bytealg.MakeNoZero"], unfollowed := true, recurses := true, named := ["tiltyard/wire.nibbles", "tiltyard/verify.plain"], apart := false, laid := [("tiltyard/wire.nibbles", laid_tiltyard_wire_nibbles), ("tiltyard/verify.plain", laid_tiltyard_verify_plain)] }
def VerifyDeepSaid : Prop := verifyDeepRow.holds Tryd.pinned (OpenSpec.ofChange verifyDeepSpec)

/-- ITS FALSE NEIGHBOUR: 'it returns false'. Refute it at one input. -/
def verifyDeepWrong : ChangeSpec := { name := "verifyDeep", fn := fun _ => fun
  | [d] => { results := [.lit (.bool false)], args := [d] }
  | _ => none }
def VerifyDeepWrongFalsely : Prop := verifyDeepRow.holds Tryd.pinned (OpenSpec.ofChange verifyDeepWrong)

/- THE SECOND FORM. 'bulk': how many values and letters a reading holds, each counted each time it is reached (what is shared counts as often as it is met; a slice's spare places count too). A statement '..UptoSaid' is the law's where the arguments, and the package variables that the reading takes, are together of bulk at most 1048576: NARROWER than '..Said'. Prove '..Said' where nothing that the law and all that it calls make is longer than what came in: it says more and counts as full. Else prove '..UptoSaid'. A law counts once. -/
mutual
def uptoBulk {H : Type} : DataW H → Nat
  | .lit (.string bytes) => bytes.length + 1
  | .lit _ => 1
  | .nil => 1
  | .ptr d => uptoBulk d + 1
  | .slice elems spare => uptoBulkAll elems + uptoBulkAll spare + 1
  | .agg parts => uptoBulkAll parts + 1
  | .iface _ d => uptoBulk d + 1
  | .map entries => uptoBulkEntries entries + 1
  | .held _ => 1
def uptoBulkAll {H : Type} : List (DataW H) → Nat
  | [] => 0
  | d :: r => uptoBulk d + uptoBulkAll r
def uptoBulkEntries {H : Type} : List (Lit × DataW H) → Nat
  | [] => 0
  | x :: r => uptoBulkEntry x + uptoBulkEntries r
def uptoBulkEntry {H : Type} : Lit × DataW H → Nat
  | (.string bytes, d) => bytes.length + uptoBulk d + 1
  | (_, d) => uptoBulk d + 1
 end
def uptoSmall : (H : Type) → List (DataW H) → Bool := fun _ ds => decide (uptoBulkAll ds ≤ 1048576)
def OpenSpec.upto (s : _root_.Go.ChangeSpec) : _root_.Go.OpenSpec := { _root_.Go.OpenSpec.ofChange s with cond := some uptoSmall }

/-- 'tiltyardlaw16.VerifyMore', WHERE WHAT IT READS IS OF BULK AT MOST 1048576: true; the input reads as it did. -/
def verifyMoreUptoRow : OpenClaim := { program := "ytedmncldelcbfaadoor", sum := "7c663ddfeb7250e823311a5e5866e64baf4f2e3d275e36385e38428bf9f68fdf", func := "tiltyard/tiltyardlaw16.VerifyMore", spec := "verifyMore", inPlace := ["internal/abi.NoEscape", "internal/bytealg.MakeNoZero"], unfollowed := true, recurses := true, named := ["tiltyard/wire.nibbles", "tiltyard/verify.plain"], apart := false, laid := [("tiltyard/wire.nibbles", laid_tiltyard_wire_nibbles), ("tiltyard/verify.plain", laid_tiltyard_verify_plain)], narrowed := true }
def VerifyMoreUptoSaid : Prop := verifyMoreUptoRow.holds Tryd.pinned (OpenSpec.upto verifyMoreSpec)

/-- 'tiltyardlaw16.VerifyAlone', WHERE WHAT IT READS IS OF BULK AT MOST 1048576: true; the input reads as it did. -/
def verifyAloneUptoRow : OpenClaim := { program := "ytedmncldelcbfaadoor", sum := "7c663ddfeb7250e823311a5e5866e64baf4f2e3d275e36385e38428bf9f68fdf", func := "tiltyard/tiltyardlaw16.VerifyAlone", spec := "verifyAlone", inPlace := ["internal/abi.NoEscape", "internal/bytealg.MakeNoZero"], unfollowed := true, recurses := true, named := ["tiltyard/wire.nibbles", "tiltyard/verify.plain"], apart := false, laid := [("tiltyard/wire.nibbles", laid_tiltyard_wire_nibbles), ("tiltyard/verify.plain", laid_tiltyard_verify_plain)], narrowed := true }
def VerifyAloneUptoSaid : Prop := verifyAloneUptoRow.holds Tryd.pinned (OpenSpec.upto verifyAloneSpec)

/-- 'tiltyardlaw16.VerifyDeep', WHERE WHAT IT READS IS OF BULK AT MOST 1048576: true; the input reads as it did. -/
def verifyDeepUptoRow : OpenClaim := { program := "ytedmncldelcbfaadoor", sum := "7c663ddfeb7250e823311a5e5866e64baf4f2e3d275e36385e38428bf9f68fdf", func := "tiltyard/tiltyardlaw16.VerifyDeep", spec := "verifyDeep", inPlace := ["internal/abi.NoEscape", "internal/bytealg.MakeNoZero"], unfollowed := true, recurses := true, named := ["tiltyard/wire.nibbles", "tiltyard/verify.plain"], apart := false, laid := [("tiltyard/wire.nibbles", laid_tiltyard_wire_nibbles), ("tiltyard/verify.plain", laid_tiltyard_verify_plain)], narrowed := true }
def VerifyDeepUptoSaid : Prop := verifyDeepUptoRow.holds Tryd.pinned (OpenSpec.upto verifyDeepSpec)

end Rows
end Go.Proofs.YtedmncldelcbfaaDoor
