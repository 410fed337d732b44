/-
  No cell of these rows narrows 'for every input' (looked for: loops, veiled, ifaces, maps, wideKeys, modest, calm, conditions, laid).
  DERIVED. THE GIVEN ROWS OF THIS SEAT. 11 by the template 'for every input the law returns true; each argument reads behind the call as it read before'; 0 by the template 'total and deterministic' (their statements: YtpnjbfjomebppaaGreatTotals.lean).
  GIVEN WITH THE SEED: the statements are not yours to turn. If you find one false, say at which input.
  Laid BY PROGRAM, IN A SANDBOX (cutbox-rows.mjs): the forced cells as the released guide's own fill.sh prints them over the translation dab2e289e4206973… (all of the seat's roots in one cut). By AI agents, Wed Nov 11 2026. No macro, syntax, notation, axiom, sorry.
-/
import Derived.Test.YtpnjbfjomebppaaGreatChecked
import GoSem.Claim
import GoSem.ClaimJoined
import GoSem.ClaimMapViews
import Derived.JoinedTies
import Derived.KernelRfl
namespace Go.Proofs.YtpnjbfjomebppaaGreat
/- THE CELL 'sum', in the pinned program and in every row, IS THE sha256 OF THE DUMP (.gsa) THAT YtpnjbfjomebppaaGreatProg.lean LOADS. Nothing in Lean hashes anything: it is a label: what it is worth is what the hold of that sum in a sandbox is worth. -/
noncomputable def Tryz.pinned : Pinned := { name := "ytpnjbfjomebppaagreat", sum := "dab2e289e4206973cac6d971a0178c0087ed2a87f926364e8343a583933d3351", checked := Tryz.checked }
namespace Rows
def none {H : Type} : Left H := { results := [], args := [] }

/-- 'tstatelaw26.GrammarCounts': WHATEVER THE INPUT: true; the input reads as it did. -/
def grammarCountsSpec : ChangeSpec := { name := "grammarCounts", fn := fun _ => fun
  | [d1, d2, d3] => { results := [.lit (.bool true)], args := [d1, d2, d3] }
  | _ => none }
def grammarCountsRow : OpenClaim := { program := "ytpnjbfjomebppaagreat", sum := "dab2e289e4206973cac6d971a0178c0087ed2a87f926364e8343a583933d3351", func := "tstate/tstatelaw26.GrammarCounts", spec := "grammarCounts", unfollowed := true, recurses := true, apart := false }
def GrammarCountsSaid : Prop := grammarCountsRow.holds Tryz.pinned (OpenSpec.ofChange grammarCountsSpec)

/-- ITS FALSE NEIGHBOUR: 'it returns false'. Refute it at one input. -/
def grammarCountsWrong : ChangeSpec := { name := "grammarCounts", fn := fun _ => fun
  | [d1, d2, d3] => { results := [.lit (.bool false)], args := [d1, d2, d3] }
  | _ => none }
def GrammarCountsWrongFalsely : Prop := grammarCountsRow.holds Tryz.pinned (OpenSpec.ofChange grammarCountsWrong)

/-- 'tstatetop.TopGrammar': WHATEVER THE INPUT: true; the input reads as it did. -/
def topGrammarSpec : ChangeSpec := { name := "topGrammar", fn := fun _ => fun
  | [d] => { results := [.lit (.bool true)], args := [d] }
  | _ => none }
def topGrammarRow : OpenClaim := { program := "ytpnjbfjomebppaagreat", sum := "dab2e289e4206973cac6d971a0178c0087ed2a87f926364e8343a583933d3351", func := "tstate/tstatetop.TopGrammar", spec := "topGrammar", inPlace := ["slices.overlaps[tstate/api.Cell]"], unfollowed := true, recurses := true, apart := false }
def TopGrammarSaid : Prop := topGrammarRow.holds Tryz.pinned (OpenSpec.ofChange topGrammarSpec)

/-- ITS FALSE NEIGHBOUR: 'it returns false'. Refute it at one input. -/
def topGrammarWrong : ChangeSpec := { name := "topGrammar", fn := fun _ => fun
  | [d] => { results := [.lit (.bool false)], args := [d] }
  | _ => none }
def TopGrammarWrongFalsely : Prop := topGrammarRow.holds Tryz.pinned (OpenSpec.ofChange topGrammarWrong)

/-- 'tstatetop.TopIsa': WHATEVER THE INPUT: true; the input reads as it did. -/
def topIsaSpec : ChangeSpec := { name := "topIsa", fn := fun _ => fun
  | [d1, d2] => { results := [.lit (.bool true)], args := [d1, d2] }
  | _ => none }
def topIsaRow : OpenClaim := { program := "ytpnjbfjomebppaagreat", sum := "dab2e289e4206973cac6d971a0178c0087ed2a87f926364e8343a583933d3351", func := "tstate/tstatetop.TopIsa", spec := "topIsa", inPlace := ["slices.overlaps[tstate/api.Cell]"], unfollowed := true, recurses := true, apart := false }
def TopIsaSaid : Prop := topIsaRow.holds Tryz.pinned (OpenSpec.ofChange topIsaSpec)

/-- ITS FALSE NEIGHBOUR: 'it returns false'. Refute it at one input. -/
def topIsaWrong : ChangeSpec := { name := "topIsa", fn := fun _ => fun
  | [d1, d2] => { results := [.lit (.bool false)], args := [d1, d2] }
  | _ => none }
def TopIsaWrongFalsely : Prop := topIsaRow.holds Tryz.pinned (OpenSpec.ofChange topIsaWrong)

/-- 'tstatelaw27.BoundaryReplays': WHATEVER THE INPUT: true; the input reads as it did. -/
def boundaryReplaysSpec : ChangeSpec := { name := "boundaryReplays", fn := fun _ => fun
  | [d1, d2, d3, d4] => { results := [.lit (.bool true)], args := [d1, d2, d3, d4] }
  | _ => none }
def boundaryReplaysRow : OpenClaim := { program := "ytpnjbfjomebppaagreat", sum := "dab2e289e4206973cac6d971a0178c0087ed2a87f926364e8343a583933d3351", func := "tstate/tstatelaw27.BoundaryReplays", spec := "boundaryReplays", inPlace := ["slices.overlaps[tstate/api.Cell]"], unfollowed := true, recurses := true, apart := false }
def BoundaryReplaysSaid : Prop := boundaryReplaysRow.holds Tryz.pinned (OpenSpec.ofChange boundaryReplaysSpec)

/-- ITS FALSE NEIGHBOUR: 'it returns false'. Refute it at one input. -/
def boundaryReplaysWrong : ChangeSpec := { name := "boundaryReplays", fn := fun _ => fun
  | [d1, d2, d3, d4] => { results := [.lit (.bool false)], args := [d1, d2, d3, d4] }
  | _ => none }
def BoundaryReplaysWrongFalsely : Prop := boundaryReplaysRow.holds Tryz.pinned (OpenSpec.ofChange boundaryReplaysWrong)

/-- 'tstatelaw25.BoardValidates': WHATEVER THE INPUT: true; the input reads as it did. -/
def boardValidatesSpec : ChangeSpec := { name := "boardValidates", fn := fun _ => fun
  | [d1, d2, d3, d4] => { results := [.lit (.bool true)], args := [d1, d2, d3, d4] }
  | _ => none }
def boardValidatesRow : OpenClaim := { program := "ytpnjbfjomebppaagreat", sum := "dab2e289e4206973cac6d971a0178c0087ed2a87f926364e8343a583933d3351", func := "tstate/tstatelaw25.BoardValidates", spec := "boardValidates", inPlace := ["slices.overlaps[tstate/api.Cell]"], unfollowed := true, recurses := true, apart := false }
def BoardValidatesSaid : Prop := boardValidatesRow.holds Tryz.pinned (OpenSpec.ofChange boardValidatesSpec)

/-- ITS FALSE NEIGHBOUR: 'it returns false'. Refute it at one input. -/
def boardValidatesWrong : ChangeSpec := { name := "boardValidates", fn := fun _ => fun
  | [d1, d2, d3, d4] => { results := [.lit (.bool false)], args := [d1, d2, d3, d4] }
  | _ => none }
def BoardValidatesWrongFalsely : Prop := boardValidatesRow.holds Tryz.pinned (OpenSpec.ofChange boardValidatesWrong)

/-- 'tstatelaw25.BoardRuns': WHATEVER THE INPUT: true; the input reads as it did. -/
def boardRunsSpec : ChangeSpec := { name := "boardRuns", fn := fun _ => fun
  | [d1, d2] => { results := [.lit (.bool true)], args := [d1, d2] }
  | _ => none }
def boardRunsRow : OpenClaim := { program := "ytpnjbfjomebppaagreat", sum := "dab2e289e4206973cac6d971a0178c0087ed2a87f926364e8343a583933d3351", func := "tstate/tstatelaw25.BoardRuns", spec := "boardRuns", inPlace := ["slices.overlaps[tstate/api.Cell]"], unfollowed := true, recurses := true, apart := false }
def BoardRunsSaid : Prop := boardRunsRow.holds Tryz.pinned (OpenSpec.ofChange boardRunsSpec)

/-- ITS FALSE NEIGHBOUR: 'it returns false'. Refute it at one input. -/
def boardRunsWrong : ChangeSpec := { name := "boardRuns", fn := fun _ => fun
  | [d1, d2] => { results := [.lit (.bool false)], args := [d1, d2] }
  | _ => none }
def BoardRunsWrongFalsely : Prop := boardRunsRow.holds Tryz.pinned (OpenSpec.ofChange boardRunsWrong)

/-- 'tstatelaw25.BoardPrefixes': WHATEVER THE INPUT: true; the input reads as it did. -/
def boardPrefixesSpec : ChangeSpec := { name := "boardPrefixes", fn := fun _ => fun
  | [d1, d2] => { results := [.lit (.bool true)], args := [d1, d2] }
  | _ => none }
def boardPrefixesRow : OpenClaim := { program := "ytpnjbfjomebppaagreat", sum := "dab2e289e4206973cac6d971a0178c0087ed2a87f926364e8343a583933d3351", func := "tstate/tstatelaw25.BoardPrefixes", spec := "boardPrefixes", inPlace := ["slices.overlaps[tstate/api.Cell]"], unfollowed := true, recurses := true, apart := false }
def BoardPrefixesSaid : Prop := boardPrefixesRow.holds Tryz.pinned (OpenSpec.ofChange boardPrefixesSpec)

/-- ITS FALSE NEIGHBOUR: 'it returns false'. Refute it at one input. -/
def boardPrefixesWrong : ChangeSpec := { name := "boardPrefixes", fn := fun _ => fun
  | [d1, d2] => { results := [.lit (.bool false)], args := [d1, d2] }
  | _ => none }
def BoardPrefixesWrongFalsely : Prop := boardPrefixesRow.holds Tryz.pinned (OpenSpec.ofChange boardPrefixesWrong)

/-- 'tstatelaw25.BoardWaits': WHATEVER THE INPUT: true; the input reads as it did. -/
def boardWaitsSpec : ChangeSpec := { name := "boardWaits", fn := fun _ => fun
  | [d1, d2] => { results := [.lit (.bool true)], args := [d1, d2] }
  | _ => none }
def boardWaitsRow : OpenClaim := { program := "ytpnjbfjomebppaagreat", sum := "dab2e289e4206973cac6d971a0178c0087ed2a87f926364e8343a583933d3351", func := "tstate/tstatelaw25.BoardWaits", spec := "boardWaits", inPlace := ["slices.overlaps[tstate/api.Cell]"], unfollowed := true, recurses := true, apart := false }
def BoardWaitsSaid : Prop := boardWaitsRow.holds Tryz.pinned (OpenSpec.ofChange boardWaitsSpec)

/-- ITS FALSE NEIGHBOUR: 'it returns false'. Refute it at one input. -/
def boardWaitsWrong : ChangeSpec := { name := "boardWaits", fn := fun _ => fun
  | [d1, d2] => { results := [.lit (.bool false)], args := [d1, d2] }
  | _ => none }
def BoardWaitsWrongFalsely : Prop := boardWaitsRow.holds Tryz.pinned (OpenSpec.ofChange boardWaitsWrong)

/-- 'tstatelaw25.BoardTransfers': WHATEVER THE INPUT: true; the input reads as it did. -/
def boardTransfersSpec : ChangeSpec := { name := "boardTransfers", fn := fun _ => fun
  | [d1, d2, d3, d4] => { results := [.lit (.bool true)], args := [d1, d2, d3, d4] }
  | _ => none }
def boardTransfersRow : OpenClaim := { program := "ytpnjbfjomebppaagreat", sum := "dab2e289e4206973cac6d971a0178c0087ed2a87f926364e8343a583933d3351", func := "tstate/tstatelaw25.BoardTransfers", spec := "boardTransfers", inPlace := ["slices.overlaps[tstate/api.Cell]"], unfollowed := true, recurses := true, apart := false }
def BoardTransfersSaid : Prop := boardTransfersRow.holds Tryz.pinned (OpenSpec.ofChange boardTransfersSpec)

/-- ITS FALSE NEIGHBOUR: 'it returns false'. Refute it at one input. -/
def boardTransfersWrong : ChangeSpec := { name := "boardTransfers", fn := fun _ => fun
  | [d1, d2, d3, d4] => { results := [.lit (.bool false)], args := [d1, d2, d3, d4] }
  | _ => none }
def BoardTransfersWrongFalsely : Prop := boardTransfersRow.holds Tryz.pinned (OpenSpec.ofChange boardTransfersWrong)

/-- 'tstatelaw25.BoardClocks': WHATEVER THE INPUT: true; the input reads as it did. -/
def boardClocksSpec : ChangeSpec := { name := "boardClocks", fn := fun _ => fun
  | [d1, d2, d3, d4] => { results := [.lit (.bool true)], args := [d1, d2, d3, d4] }
  | _ => none }
def boardClocksRow : OpenClaim := { program := "ytpnjbfjomebppaagreat", sum := "dab2e289e4206973cac6d971a0178c0087ed2a87f926364e8343a583933d3351", func := "tstate/tstatelaw25.BoardClocks", spec := "boardClocks", inPlace := ["slices.overlaps[tstate/api.Cell]"], unfollowed := true, recurses := true, apart := false }
def BoardClocksSaid : Prop := boardClocksRow.holds Tryz.pinned (OpenSpec.ofChange boardClocksSpec)

/-- ITS FALSE NEIGHBOUR: 'it returns false'. Refute it at one input. -/
def boardClocksWrong : ChangeSpec := { name := "boardClocks", fn := fun _ => fun
  | [d1, d2, d3, d4] => { results := [.lit (.bool false)], args := [d1, d2, d3, d4] }
  | _ => none }
def BoardClocksWrongFalsely : Prop := boardClocksRow.holds Tryz.pinned (OpenSpec.ofChange boardClocksWrong)

/-- 'tstatelaw25.BoardSteps': WHATEVER THE INPUT: true; the input reads as it did. -/
def boardStepsSpec : ChangeSpec := { name := "boardSteps", fn := fun _ => fun
  | [d] => { results := [.lit (.bool true)], args := [d] }
  | _ => none }
def boardStepsRow : OpenClaim := { program := "ytpnjbfjomebppaagreat", sum := "dab2e289e4206973cac6d971a0178c0087ed2a87f926364e8343a583933d3351", func := "tstate/tstatelaw25.BoardSteps", spec := "boardSteps", inPlace := ["slices.overlaps[tstate/api.Cell]"], unfollowed := true, recurses := true, apart := false }
def BoardStepsSaid : Prop := boardStepsRow.holds Tryz.pinned (OpenSpec.ofChange boardStepsSpec)

/-- ITS FALSE NEIGHBOUR: 'it returns false'. Refute it at one input. -/
def boardStepsWrong : ChangeSpec := { name := "boardSteps", fn := fun _ => fun
  | [d] => { results := [.lit (.bool false)], args := [d] }
  | _ => none }
def BoardStepsWrongFalsely : Prop := boardStepsRow.holds Tryz.pinned (OpenSpec.ofChange boardStepsWrong)

/- THE SECOND FORM. 'bulk': how many values and letters a reading holds, each counted each time it is reached (what is shared counts as often as it is met; a slice's spare places count too). A statement '..UptoSaid' is the law's where the arguments, and the package variables that the reading takes, are together of bulk at most 1048576: NARROWER than '..Said'. Prove '..Said' where nothing that the law and all that it calls make is longer than what came in: it says more and counts as full. Else prove '..UptoSaid'. A law counts once. -/
mutual
def uptoBulk {H : Type} : DataW H → Nat
  | .lit (.string bytes) => bytes.length + 1
  | .lit _ => 1
  | .nil => 1
  | .ptr d => uptoBulk d + 1
  | .slice elems spare => uptoBulkAll elems + uptoBulkAll spare + 1
  | .agg parts => uptoBulkAll parts + 1
  | .iface _ d => uptoBulk d + 1
  | .map entries => uptoBulkEntries entries + 1
  | .held _ => 1
def uptoBulkAll {H : Type} : List (DataW H) → Nat
  | [] => 0
  | d :: r => uptoBulk d + uptoBulkAll r
def uptoBulkEntries {H : Type} : List (Lit × DataW H) → Nat
  | [] => 0
  | x :: r => uptoBulkEntry x + uptoBulkEntries r
def uptoBulkEntry {H : Type} : Lit × DataW H → Nat
  | (.string bytes, d) => bytes.length + uptoBulk d + 1
  | (_, d) => uptoBulk d + 1
 end
def uptoSmall : (H : Type) → List (DataW H) → Bool := fun _ ds => decide (uptoBulkAll ds ≤ 1048576)
def OpenSpec.upto (s : _root_.Go.ChangeSpec) : _root_.Go.OpenSpec := { _root_.Go.OpenSpec.ofChange s with cond := some uptoSmall }

/-- 'tstatelaw26.GrammarCounts', WHERE WHAT IT READS IS OF BULK AT MOST 1048576: true; the input reads as it did. -/
def grammarCountsUptoRow : OpenClaim := { program := "ytpnjbfjomebppaagreat", sum := "dab2e289e4206973cac6d971a0178c0087ed2a87f926364e8343a583933d3351", func := "tstate/tstatelaw26.GrammarCounts", spec := "grammarCounts", unfollowed := true, recurses := true, apart := false, narrowed := true }
def GrammarCountsUptoSaid : Prop := grammarCountsUptoRow.holds Tryz.pinned (OpenSpec.upto grammarCountsSpec)

/-- 'tstatetop.TopGrammar', WHERE WHAT IT READS IS OF BULK AT MOST 1048576: true; the input reads as it did. -/
def topGrammarUptoRow : OpenClaim := { program := "ytpnjbfjomebppaagreat", sum := "dab2e289e4206973cac6d971a0178c0087ed2a87f926364e8343a583933d3351", func := "tstate/tstatetop.TopGrammar", spec := "topGrammar", inPlace := ["slices.overlaps[tstate/api.Cell]"], unfollowed := true, recurses := true, apart := false, narrowed := true }
def TopGrammarUptoSaid : Prop := topGrammarUptoRow.holds Tryz.pinned (OpenSpec.upto topGrammarSpec)

/-- 'tstatetop.TopIsa', WHERE WHAT IT READS IS OF BULK AT MOST 1048576: true; the input reads as it did. -/
def topIsaUptoRow : OpenClaim := { program := "ytpnjbfjomebppaagreat", sum := "dab2e289e4206973cac6d971a0178c0087ed2a87f926364e8343a583933d3351", func := "tstate/tstatetop.TopIsa", spec := "topIsa", inPlace := ["slices.overlaps[tstate/api.Cell]"], unfollowed := true, recurses := true, apart := false, narrowed := true }
def TopIsaUptoSaid : Prop := topIsaUptoRow.holds Tryz.pinned (OpenSpec.upto topIsaSpec)

/-- 'tstatelaw27.BoundaryReplays', WHERE WHAT IT READS IS OF BULK AT MOST 1048576: true; the input reads as it did. -/
def boundaryReplaysUptoRow : OpenClaim := { program := "ytpnjbfjomebppaagreat", sum := "dab2e289e4206973cac6d971a0178c0087ed2a87f926364e8343a583933d3351", func := "tstate/tstatelaw27.BoundaryReplays", spec := "boundaryReplays", inPlace := ["slices.overlaps[tstate/api.Cell]"], unfollowed := true, recurses := true, apart := false, narrowed := true }
def BoundaryReplaysUptoSaid : Prop := boundaryReplaysUptoRow.holds Tryz.pinned (OpenSpec.upto boundaryReplaysSpec)

/-- 'tstatelaw25.BoardValidates', WHERE WHAT IT READS IS OF BULK AT MOST 1048576: true; the input reads as it did. -/
def boardValidatesUptoRow : OpenClaim := { program := "ytpnjbfjomebppaagreat", sum := "dab2e289e4206973cac6d971a0178c0087ed2a87f926364e8343a583933d3351", func := "tstate/tstatelaw25.BoardValidates", spec := "boardValidates", inPlace := ["slices.overlaps[tstate/api.Cell]"], unfollowed := true, recurses := true, apart := false, narrowed := true }
def BoardValidatesUptoSaid : Prop := boardValidatesUptoRow.holds Tryz.pinned (OpenSpec.upto boardValidatesSpec)

/-- 'tstatelaw25.BoardRuns', WHERE WHAT IT READS IS OF BULK AT MOST 1048576: true; the input reads as it did. -/
def boardRunsUptoRow : OpenClaim := { program := "ytpnjbfjomebppaagreat", sum := "dab2e289e4206973cac6d971a0178c0087ed2a87f926364e8343a583933d3351", func := "tstate/tstatelaw25.BoardRuns", spec := "boardRuns", inPlace := ["slices.overlaps[tstate/api.Cell]"], unfollowed := true, recurses := true, apart := false, narrowed := true }
def BoardRunsUptoSaid : Prop := boardRunsUptoRow.holds Tryz.pinned (OpenSpec.upto boardRunsSpec)

/-- 'tstatelaw25.BoardPrefixes', WHERE WHAT IT READS IS OF BULK AT MOST 1048576: true; the input reads as it did. -/
def boardPrefixesUptoRow : OpenClaim := { program := "ytpnjbfjomebppaagreat", sum := "dab2e289e4206973cac6d971a0178c0087ed2a87f926364e8343a583933d3351", func := "tstate/tstatelaw25.BoardPrefixes", spec := "boardPrefixes", inPlace := ["slices.overlaps[tstate/api.Cell]"], unfollowed := true, recurses := true, apart := false, narrowed := true }
def BoardPrefixesUptoSaid : Prop := boardPrefixesUptoRow.holds Tryz.pinned (OpenSpec.upto boardPrefixesSpec)

/-- 'tstatelaw25.BoardWaits', WHERE WHAT IT READS IS OF BULK AT MOST 1048576: true; the input reads as it did. -/
def boardWaitsUptoRow : OpenClaim := { program := "ytpnjbfjomebppaagreat", sum := "dab2e289e4206973cac6d971a0178c0087ed2a87f926364e8343a583933d3351", func := "tstate/tstatelaw25.BoardWaits", spec := "boardWaits", inPlace := ["slices.overlaps[tstate/api.Cell]"], unfollowed := true, recurses := true, apart := false, narrowed := true }
def BoardWaitsUptoSaid : Prop := boardWaitsUptoRow.holds Tryz.pinned (OpenSpec.upto boardWaitsSpec)

/-- 'tstatelaw25.BoardTransfers', WHERE WHAT IT READS IS OF BULK AT MOST 1048576: true; the input reads as it did. -/
def boardTransfersUptoRow : OpenClaim := { program := "ytpnjbfjomebppaagreat", sum := "dab2e289e4206973cac6d971a0178c0087ed2a87f926364e8343a583933d3351", func := "tstate/tstatelaw25.BoardTransfers", spec := "boardTransfers", inPlace := ["slices.overlaps[tstate/api.Cell]"], unfollowed := true, recurses := true, apart := false, narrowed := true }
def BoardTransfersUptoSaid : Prop := boardTransfersUptoRow.holds Tryz.pinned (OpenSpec.upto boardTransfersSpec)

/-- 'tstatelaw25.BoardClocks', WHERE WHAT IT READS IS OF BULK AT MOST 1048576: true; the input reads as it did. -/
def boardClocksUptoRow : OpenClaim := { program := "ytpnjbfjomebppaagreat", sum := "dab2e289e4206973cac6d971a0178c0087ed2a87f926364e8343a583933d3351", func := "tstate/tstatelaw25.BoardClocks", spec := "boardClocks", inPlace := ["slices.overlaps[tstate/api.Cell]"], unfollowed := true, recurses := true, apart := false, narrowed := true }
def BoardClocksUptoSaid : Prop := boardClocksUptoRow.holds Tryz.pinned (OpenSpec.upto boardClocksSpec)

/-- 'tstatelaw25.BoardSteps', WHERE WHAT IT READS IS OF BULK AT MOST 1048576: true; the input reads as it did. -/
def boardStepsUptoRow : OpenClaim := { program := "ytpnjbfjomebppaagreat", sum := "dab2e289e4206973cac6d971a0178c0087ed2a87f926364e8343a583933d3351", func := "tstate/tstatelaw25.BoardSteps", spec := "boardSteps", inPlace := ["slices.overlaps[tstate/api.Cell]"], unfollowed := true, recurses := true, apart := false, narrowed := true }
def BoardStepsUptoSaid : Prop := boardStepsUptoRow.holds Tryz.pinned (OpenSpec.upto boardStepsSpec)

end Rows
end Go.Proofs.YtpnjbfjomebppaaGreat
