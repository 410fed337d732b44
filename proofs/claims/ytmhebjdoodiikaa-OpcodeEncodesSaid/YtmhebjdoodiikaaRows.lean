/-
  No cell of these rows narrows 'for every input' (looked for: loops, veiled, ifaces, maps, wideKeys, modest, calm, conditions, laid).
  DERIVED. THE GIVEN ROWS OF THIS SEAT. 9 by the template 'for every input the law returns true; each argument reads behind the call as it read before'; 0 by the template 'total and deterministic' (their statements: YtmhebjdoodiikaaTotals.lean).
  GIVEN WITH THE SEED: the statements are not yours to turn. If you find one false, say at which input.
  Laid BY PROGRAM, IN A SANDBOX (cutbox-rows.mjs): the forced cells as the released guide's own fill.sh prints them over the translation 062bce253bb886ea… (all of the seat's roots in one cut). By AI agents, Wed Nov 11 2026. No macro, syntax, notation, axiom, sorry.
-/
import Derived.Test.YtmhebjdoodiikaaChecked
import GoSem.Claim
import GoSem.ClaimJoined
import GoSem.ClaimMapViews
import Derived.JoinedTies
import Derived.KernelRfl
namespace Go.Proofs.Ytmhebjdoodiikaa
/- THE CELL 'sum', in the pinned program and in every row, IS THE sha256 OF THE DUMP (.gsa) THAT YtmhebjdoodiikaaProg.lean LOADS. Nothing in Lean hashes anything: it is a label: what it is worth is what the hold of that sum in a sandbox is worth. -/
noncomputable def Try.pinned : Pinned := { name := "ytmhebjdoodiikaa", sum := "062bce253bb886ea9dc48c7a1247b549d21b2bc51a374127530bfcc8b7c0a667", checked := Try.checked }
namespace Rows
def none {H : Type} : Left H := { results := [], args := [] }

/-- 'tstatelaw18.StatusBytes': WHATEVER THE INPUT: true; the input reads as it did. -/
def statusBytesSpec : ChangeSpec := { name := "statusBytes", fn := fun _ => fun
  | [d] => { results := [.lit (.bool true)], args := [d] }
  | _ => none }
def statusBytesRow : OpenClaim := { program := "ytmhebjdoodiikaa", sum := "062bce253bb886ea9dc48c7a1247b549d21b2bc51a374127530bfcc8b7c0a667", func := "tstate/tstatelaw18.StatusBytes", spec := "statusBytes", apart := false }
def StatusBytesSaid : Prop := statusBytesRow.holds Try.pinned (OpenSpec.ofChange statusBytesSpec)

/-- ITS FALSE NEIGHBOUR: 'it returns false'. Refute it at one input. -/
def statusBytesWrong : ChangeSpec := { name := "statusBytes", fn := fun _ => fun
  | [d] => { results := [.lit (.bool false)], args := [d] }
  | _ => none }
def StatusBytesWrongFalsely : Prop := statusBytesRow.holds Try.pinned (OpenSpec.ofChange statusBytesWrong)

/-- 'tstatelaw18.StatusLines': WHATEVER THE INPUT: true; the input reads as it did. -/
def statusLinesSpec : ChangeSpec := { name := "statusLines", fn := fun _ => fun
  | [d] => { results := [.lit (.bool true)], args := [d] }
  | _ => none }
def statusLinesRow : OpenClaim := { program := "ytmhebjdoodiikaa", sum := "062bce253bb886ea9dc48c7a1247b549d21b2bc51a374127530bfcc8b7c0a667", func := "tstate/tstatelaw18.StatusLines", spec := "statusLines", apart := false }
def StatusLinesSaid : Prop := statusLinesRow.holds Try.pinned (OpenSpec.ofChange statusLinesSpec)

/-- ITS FALSE NEIGHBOUR: 'it returns false'. Refute it at one input. -/
def statusLinesWrong : ChangeSpec := { name := "statusLines", fn := fun _ => fun
  | [d] => { results := [.lit (.bool false)], args := [d] }
  | _ => none }
def StatusLinesWrongFalsely : Prop := statusLinesRow.holds Try.pinned (OpenSpec.ofChange statusLinesWrong)

/-- 'tstatelaw18.StatusDirections': WHATEVER THE INPUT: true; the input reads as it did. -/
def statusDirectionsSpec : ChangeSpec := { name := "statusDirections", fn := fun _ => fun
  | [d] => { results := [.lit (.bool true)], args := [d] }
  | _ => none }
def statusDirectionsRow : OpenClaim := { program := "ytmhebjdoodiikaa", sum := "062bce253bb886ea9dc48c7a1247b549d21b2bc51a374127530bfcc8b7c0a667", func := "tstate/tstatelaw18.StatusDirections", spec := "statusDirections", apart := false }
def StatusDirectionsSaid : Prop := statusDirectionsRow.holds Try.pinned (OpenSpec.ofChange statusDirectionsSpec)

/-- ITS FALSE NEIGHBOUR: 'it returns false'. Refute it at one input. -/
def statusDirectionsWrong : ChangeSpec := { name := "statusDirections", fn := fun _ => fun
  | [d] => { results := [.lit (.bool false)], args := [d] }
  | _ => none }
def StatusDirectionsWrongFalsely : Prop := statusDirectionsRow.holds Try.pinned (OpenSpec.ofChange statusDirectionsWrong)

/-- 'tstatelaw18.StatusAgrees': WHATEVER THE INPUT: true; the input reads as it did. -/
def statusAgreesSpec : ChangeSpec := { name := "statusAgrees", fn := fun _ => fun
  | [d] => { results := [.lit (.bool true)], args := [d] }
  | _ => none }
def statusAgreesRow : OpenClaim := { program := "ytmhebjdoodiikaa", sum := "062bce253bb886ea9dc48c7a1247b549d21b2bc51a374127530bfcc8b7c0a667", func := "tstate/tstatelaw18.StatusAgrees", spec := "statusAgrees", apart := false }
def StatusAgreesSaid : Prop := statusAgreesRow.holds Try.pinned (OpenSpec.ofChange statusAgreesSpec)

/-- ITS FALSE NEIGHBOUR: 'it returns false'. Refute it at one input. -/
def statusAgreesWrong : ChangeSpec := { name := "statusAgrees", fn := fun _ => fun
  | [d] => { results := [.lit (.bool false)], args := [d] }
  | _ => none }
def StatusAgreesWrongFalsely : Prop := statusAgreesRow.holds Try.pinned (OpenSpec.ofChange statusAgreesWrong)

/-- 'tstatelaw9.OpcodeDecodes': WHATEVER THE INPUT: true; the input reads as it did. -/
def opcodeDecodesSpec : ChangeSpec := { name := "opcodeDecodes", fn := fun _ => fun
  | [d1, d2] => { results := [.lit (.bool true)], args := [d1, d2] }
  | _ => none }
def opcodeDecodesRow : OpenClaim := { program := "ytmhebjdoodiikaa", sum := "062bce253bb886ea9dc48c7a1247b549d21b2bc51a374127530bfcc8b7c0a667", func := "tstate/tstatelaw9.OpcodeDecodes", spec := "opcodeDecodes", apart := false }
def OpcodeDecodesSaid : Prop := opcodeDecodesRow.holds Try.pinned (OpenSpec.ofChange opcodeDecodesSpec)

/-- ITS FALSE NEIGHBOUR: 'it returns false'. Refute it at one input. -/
def opcodeDecodesWrong : ChangeSpec := { name := "opcodeDecodes", fn := fun _ => fun
  | [d1, d2] => { results := [.lit (.bool false)], args := [d1, d2] }
  | _ => none }
def OpcodeDecodesWrongFalsely : Prop := opcodeDecodesRow.holds Try.pinned (OpenSpec.ofChange opcodeDecodesWrong)

/-- 'tstatelaw9.OpcodeEncodes': WHATEVER THE INPUT: true; the input reads as it did. -/
def opcodeEncodesSpec : ChangeSpec := { name := "opcodeEncodes", fn := fun _ => fun
  | [d1, d2, d3, d4, d5] => { results := [.lit (.bool true)], args := [d1, d2, d3, d4, d5] }
  | _ => none }
def opcodeEncodesRow : OpenClaim := { program := "ytmhebjdoodiikaa", sum := "062bce253bb886ea9dc48c7a1247b549d21b2bc51a374127530bfcc8b7c0a667", func := "tstate/tstatelaw9.OpcodeEncodes", spec := "opcodeEncodes", apart := false }
def OpcodeEncodesSaid : Prop := opcodeEncodesRow.holds Try.pinned (OpenSpec.ofChange opcodeEncodesSpec)

/-- ITS FALSE NEIGHBOUR: 'it returns false'. Refute it at one input. -/
def opcodeEncodesWrong : ChangeSpec := { name := "opcodeEncodes", fn := fun _ => fun
  | [d1, d2, d3, d4, d5] => { results := [.lit (.bool false)], args := [d1, d2, d3, d4, d5] }
  | _ => none }
def OpcodeEncodesWrongFalsely : Prop := opcodeEncodesRow.holds Try.pinned (OpenSpec.ofChange opcodeEncodesWrong)

/-- 'tstatelaw9.OpcodeInverts': WHATEVER THE INPUT: true; the input reads as it did. -/
def opcodeInvertsSpec : ChangeSpec := { name := "opcodeInverts", fn := fun _ => fun
  | [d] => { results := [.lit (.bool true)], args := [d] }
  | _ => none }
def opcodeInvertsRow : OpenClaim := { program := "ytmhebjdoodiikaa", sum := "062bce253bb886ea9dc48c7a1247b549d21b2bc51a374127530bfcc8b7c0a667", func := "tstate/tstatelaw9.OpcodeInverts", spec := "opcodeInverts", apart := false }
def OpcodeInvertsSaid : Prop := opcodeInvertsRow.holds Try.pinned (OpenSpec.ofChange opcodeInvertsSpec)

/-- ITS FALSE NEIGHBOUR: 'it returns false'. Refute it at one input. -/
def opcodeInvertsWrong : ChangeSpec := { name := "opcodeInverts", fn := fun _ => fun
  | [d] => { results := [.lit (.bool false)], args := [d] }
  | _ => none }
def OpcodeInvertsWrongFalsely : Prop := opcodeInvertsRow.holds Try.pinned (OpenSpec.ofChange opcodeInvertsWrong)

/-- 'tstatelaw9.OpcodeAliases': WHATEVER THE INPUT: true; the input reads as it did. -/
def opcodeAliasesSpec : ChangeSpec := { name := "opcodeAliases", fn := fun _ => fun
  | [] => { results := [.lit (.bool true)], args := [] }
  | _ => none }
def opcodeAliasesRow : OpenClaim := { program := "ytmhebjdoodiikaa", sum := "062bce253bb886ea9dc48c7a1247b549d21b2bc51a374127530bfcc8b7c0a667", func := "tstate/tstatelaw9.OpcodeAliases", spec := "opcodeAliases", apart := false }
def OpcodeAliasesSaid : Prop := opcodeAliasesRow.holds Try.pinned (OpenSpec.ofChange opcodeAliasesSpec)

/-- ITS FALSE NEIGHBOUR: 'it returns false'. Refute it at one input. -/
def opcodeAliasesWrong : ChangeSpec := { name := "opcodeAliases", fn := fun _ => fun
  | [] => { results := [.lit (.bool false)], args := [] }
  | _ => none }
def OpcodeAliasesWrongFalsely : Prop := opcodeAliasesRow.holds Try.pinned (OpenSpec.ofChange opcodeAliasesWrong)

/-- 'tstatelaw9.OpcodeLengths': WHATEVER THE INPUT: true; the input reads as it did. -/
def opcodeLengthsSpec : ChangeSpec := { name := "opcodeLengths", fn := fun _ => fun
  | [d1, d2] => { results := [.lit (.bool true)], args := [d1, d2] }
  | _ => none }
def opcodeLengthsRow : OpenClaim := { program := "ytmhebjdoodiikaa", sum := "062bce253bb886ea9dc48c7a1247b549d21b2bc51a374127530bfcc8b7c0a667", func := "tstate/tstatelaw9.OpcodeLengths", spec := "opcodeLengths", apart := false }
def OpcodeLengthsSaid : Prop := opcodeLengthsRow.holds Try.pinned (OpenSpec.ofChange opcodeLengthsSpec)

/-- ITS FALSE NEIGHBOUR: 'it returns false'. Refute it at one input. -/
def opcodeLengthsWrong : ChangeSpec := { name := "opcodeLengths", fn := fun _ => fun
  | [d1, d2] => { results := [.lit (.bool false)], args := [d1, d2] }
  | _ => none }
def OpcodeLengthsWrongFalsely : Prop := opcodeLengthsRow.holds Try.pinned (OpenSpec.ofChange opcodeLengthsWrong)

/- THE SECOND FORM. 'bulk': how many values and letters a reading holds, each counted each time it is reached (what is shared counts as often as it is met; a slice's spare places count too). A statement '..UptoSaid' is the law's where the arguments, and the package variables that the reading takes, are together of bulk at most 1048576: NARROWER than '..Said'. Prove '..Said' where nothing that the law and all that it calls make is longer than what came in: it says more and counts as full. Else prove '..UptoSaid'. A law counts once. -/
mutual
def uptoBulk {H : Type} : DataW H → Nat
  | .lit (.string bytes) => bytes.length + 1
  | .lit _ => 1
  | .nil => 1
  | .ptr d => uptoBulk d + 1
  | .slice elems spare => uptoBulkAll elems + uptoBulkAll spare + 1
  | .agg parts => uptoBulkAll parts + 1
  | .iface _ d => uptoBulk d + 1
  | .map entries => uptoBulkEntries entries + 1
  | .held _ => 1
def uptoBulkAll {H : Type} : List (DataW H) → Nat
  | [] => 0
  | d :: r => uptoBulk d + uptoBulkAll r
def uptoBulkEntries {H : Type} : List (Lit × DataW H) → Nat
  | [] => 0
  | x :: r => uptoBulkEntry x + uptoBulkEntries r
def uptoBulkEntry {H : Type} : Lit × DataW H → Nat
  | (.string bytes, d) => bytes.length + uptoBulk d + 1
  | (_, d) => uptoBulk d + 1
 end
def uptoSmall : (H : Type) → List (DataW H) → Bool := fun _ ds => decide (uptoBulkAll ds ≤ 1048576)
def OpenSpec.upto (s : _root_.Go.ChangeSpec) : _root_.Go.OpenSpec := { _root_.Go.OpenSpec.ofChange s with cond := some uptoSmall }

/-- 'tstatelaw18.StatusBytes', WHERE WHAT IT READS IS OF BULK AT MOST 1048576: true; the input reads as it did. -/
def statusBytesUptoRow : OpenClaim := { program := "ytmhebjdoodiikaa", sum := "062bce253bb886ea9dc48c7a1247b549d21b2bc51a374127530bfcc8b7c0a667", func := "tstate/tstatelaw18.StatusBytes", spec := "statusBytes", apart := false, narrowed := true }
def StatusBytesUptoSaid : Prop := statusBytesUptoRow.holds Try.pinned (OpenSpec.upto statusBytesSpec)

/-- 'tstatelaw18.StatusLines', WHERE WHAT IT READS IS OF BULK AT MOST 1048576: true; the input reads as it did. -/
def statusLinesUptoRow : OpenClaim := { program := "ytmhebjdoodiikaa", sum := "062bce253bb886ea9dc48c7a1247b549d21b2bc51a374127530bfcc8b7c0a667", func := "tstate/tstatelaw18.StatusLines", spec := "statusLines", apart := false, narrowed := true }
def StatusLinesUptoSaid : Prop := statusLinesUptoRow.holds Try.pinned (OpenSpec.upto statusLinesSpec)

/-- 'tstatelaw18.StatusDirections', WHERE WHAT IT READS IS OF BULK AT MOST 1048576: true; the input reads as it did. -/
def statusDirectionsUptoRow : OpenClaim := { program := "ytmhebjdoodiikaa", sum := "062bce253bb886ea9dc48c7a1247b549d21b2bc51a374127530bfcc8b7c0a667", func := "tstate/tstatelaw18.StatusDirections", spec := "statusDirections", apart := false, narrowed := true }
def StatusDirectionsUptoSaid : Prop := statusDirectionsUptoRow.holds Try.pinned (OpenSpec.upto statusDirectionsSpec)

/-- 'tstatelaw18.StatusAgrees', WHERE WHAT IT READS IS OF BULK AT MOST 1048576: true; the input reads as it did. -/
def statusAgreesUptoRow : OpenClaim := { program := "ytmhebjdoodiikaa", sum := "062bce253bb886ea9dc48c7a1247b549d21b2bc51a374127530bfcc8b7c0a667", func := "tstate/tstatelaw18.StatusAgrees", spec := "statusAgrees", apart := false, narrowed := true }
def StatusAgreesUptoSaid : Prop := statusAgreesUptoRow.holds Try.pinned (OpenSpec.upto statusAgreesSpec)

/-- 'tstatelaw9.OpcodeDecodes', WHERE WHAT IT READS IS OF BULK AT MOST 1048576: true; the input reads as it did. -/
def opcodeDecodesUptoRow : OpenClaim := { program := "ytmhebjdoodiikaa", sum := "062bce253bb886ea9dc48c7a1247b549d21b2bc51a374127530bfcc8b7c0a667", func := "tstate/tstatelaw9.OpcodeDecodes", spec := "opcodeDecodes", apart := false, narrowed := true }
def OpcodeDecodesUptoSaid : Prop := opcodeDecodesUptoRow.holds Try.pinned (OpenSpec.upto opcodeDecodesSpec)

/-- 'tstatelaw9.OpcodeEncodes', WHERE WHAT IT READS IS OF BULK AT MOST 1048576: true; the input reads as it did. -/
def opcodeEncodesUptoRow : OpenClaim := { program := "ytmhebjdoodiikaa", sum := "062bce253bb886ea9dc48c7a1247b549d21b2bc51a374127530bfcc8b7c0a667", func := "tstate/tstatelaw9.OpcodeEncodes", spec := "opcodeEncodes", apart := false, narrowed := true }
def OpcodeEncodesUptoSaid : Prop := opcodeEncodesUptoRow.holds Try.pinned (OpenSpec.upto opcodeEncodesSpec)

/-- 'tstatelaw9.OpcodeInverts', WHERE WHAT IT READS IS OF BULK AT MOST 1048576: true; the input reads as it did. -/
def opcodeInvertsUptoRow : OpenClaim := { program := "ytmhebjdoodiikaa", sum := "062bce253bb886ea9dc48c7a1247b549d21b2bc51a374127530bfcc8b7c0a667", func := "tstate/tstatelaw9.OpcodeInverts", spec := "opcodeInverts", apart := false, narrowed := true }
def OpcodeInvertsUptoSaid : Prop := opcodeInvertsUptoRow.holds Try.pinned (OpenSpec.upto opcodeInvertsSpec)

/-- 'tstatelaw9.OpcodeAliases', WHERE WHAT IT READS IS OF BULK AT MOST 1048576: true; the input reads as it did. -/
def opcodeAliasesUptoRow : OpenClaim := { program := "ytmhebjdoodiikaa", sum := "062bce253bb886ea9dc48c7a1247b549d21b2bc51a374127530bfcc8b7c0a667", func := "tstate/tstatelaw9.OpcodeAliases", spec := "opcodeAliases", apart := false, narrowed := true }
def OpcodeAliasesUptoSaid : Prop := opcodeAliasesUptoRow.holds Try.pinned (OpenSpec.upto opcodeAliasesSpec)

/-- 'tstatelaw9.OpcodeLengths', WHERE WHAT IT READS IS OF BULK AT MOST 1048576: true; the input reads as it did. -/
def opcodeLengthsUptoRow : OpenClaim := { program := "ytmhebjdoodiikaa", sum := "062bce253bb886ea9dc48c7a1247b549d21b2bc51a374127530bfcc8b7c0a667", func := "tstate/tstatelaw9.OpcodeLengths", spec := "opcodeLengths", apart := false, narrowed := true }
def OpcodeLengthsUptoSaid : Prop := opcodeLengthsUptoRow.holds Try.pinned (OpenSpec.upto opcodeLengthsSpec)

end Rows
end Go.Proofs.Ytmhebjdoodiikaa
