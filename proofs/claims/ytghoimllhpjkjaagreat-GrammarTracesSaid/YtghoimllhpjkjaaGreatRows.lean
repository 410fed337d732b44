/-
  No cell of these rows narrows 'for every input' (looked for: loops, veiled, ifaces, maps, wideKeys, modest, calm, conditions, laid).
  DERIVED. THE GIVEN ROWS OF THIS SEAT. 11 by the template 'for every input the law returns true; each argument reads behind the call as it read before'; 0 by the template 'total and deterministic' (their statements: YtghoimllhpjkjaaGreatTotals.lean).
  GIVEN WITH THE SEED: the statements are not yours to turn. If you find one false, say at which input.
  Laid BY PROGRAM, IN A SANDBOX (cutbox-rows.mjs): the forced cells as the released guide's own fill.sh prints them over the translation dcba4bf82ed16b27… (all of the seat's roots in one cut). By AI agents, Wed Nov 11 2026. No macro, syntax, notation, axiom, sorry.
-/
import Derived.Test.YtghoimllhpjkjaaGreatChecked
import GoSem.Claim
import GoSem.ClaimJoined
import GoSem.ClaimMapViews
import Derived.JoinedTies
import Derived.KernelRfl
namespace Go.Proofs.YtghoimllhpjkjaaGreat
/- THE CELL 'sum', in the pinned program and in every row, IS THE sha256 OF THE DUMP (.gsa) THAT YtghoimllhpjkjaaGreatProg.lean LOADS. Nothing in Lean hashes anything: it is a label: what it is worth is what the hold of that sum in a sandbox is worth. -/
noncomputable def Tryz.pinned : Pinned := { name := "ytghoimllhpjkjaagreat", sum := "dcba4bf82ed16b27731cc147257ac27f76942c835cac12fe171dcf12a5e5ec5f", checked := Tryz.checked }
namespace Rows
def none {H : Type} : Left H := { results := [], args := [] }

/-- 'tstatelaw26.GrammarTraces': WHATEVER THE INPUT: true; the input reads as it did. -/
def grammarTracesSpec : ChangeSpec := { name := "grammarTraces", fn := fun _ => fun
  | [d] => { results := [.lit (.bool true)], args := [d] }
  | _ => none }
def grammarTracesRow : OpenClaim := { program := "ytghoimllhpjkjaagreat", sum := "dcba4bf82ed16b27731cc147257ac27f76942c835cac12fe171dcf12a5e5ec5f", func := "tstate/tstatelaw26.GrammarTraces", spec := "grammarTraces", unfollowed := true, recurses := true, apart := false }
def GrammarTracesSaid : Prop := grammarTracesRow.holds Tryz.pinned (OpenSpec.ofChange grammarTracesSpec)

/-- ITS FALSE NEIGHBOUR: 'it returns false'. Refute it at one input. -/
def grammarTracesWrong : ChangeSpec := { name := "grammarTraces", fn := fun _ => fun
  | [d] => { results := [.lit (.bool false)], args := [d] }
  | _ => none }
def GrammarTracesWrongFalsely : Prop := grammarTracesRow.holds Tryz.pinned (OpenSpec.ofChange grammarTracesWrong)

/-- 'tstatelaw20.CoreClocks': WHATEVER THE INPUT: true; the input reads as it did. -/
def coreClocksSpec : ChangeSpec := { name := "coreClocks", fn := fun _ => fun
  | [d1, d2, d3, d4, d5] => { results := [.lit (.bool true)], args := [d1, d2, d3, d4, d5] }
  | _ => none }
def coreClocksRow : OpenClaim := { program := "ytghoimllhpjkjaagreat", sum := "dcba4bf82ed16b27731cc147257ac27f76942c835cac12fe171dcf12a5e5ec5f", func := "tstate/tstatelaw20.CoreClocks", spec := "coreClocks", unfollowed := true, recurses := true, apart := false }
def CoreClocksSaid : Prop := coreClocksRow.holds Tryz.pinned (OpenSpec.ofChange coreClocksSpec)

/-- ITS FALSE NEIGHBOUR: 'it returns false'. Refute it at one input. -/
def coreClocksWrong : ChangeSpec := { name := "coreClocks", fn := fun _ => fun
  | [d1, d2, d3, d4, d5] => { results := [.lit (.bool false)], args := [d1, d2, d3, d4, d5] }
  | _ => none }
def CoreClocksWrongFalsely : Prop := coreClocksRow.holds Tryz.pinned (OpenSpec.ofChange coreClocksWrong)

/-- 'tstatelaw20.CoreResets': WHATEVER THE INPUT: true; the input reads as it did. -/
def coreResetsSpec : ChangeSpec := { name := "coreResets", fn := fun _ => fun
  | [d1, d2, d3] => { results := [.lit (.bool true)], args := [d1, d2, d3] }
  | _ => none }
def coreResetsRow : OpenClaim := { program := "ytghoimllhpjkjaagreat", sum := "dcba4bf82ed16b27731cc147257ac27f76942c835cac12fe171dcf12a5e5ec5f", func := "tstate/tstatelaw20.CoreResets", spec := "coreResets", unfollowed := true, recurses := true, apart := false }
def CoreResetsSaid : Prop := coreResetsRow.holds Tryz.pinned (OpenSpec.ofChange coreResetsSpec)

/-- ITS FALSE NEIGHBOUR: 'it returns false'. Refute it at one input. -/
def coreResetsWrong : ChangeSpec := { name := "coreResets", fn := fun _ => fun
  | [d1, d2, d3] => { results := [.lit (.bool false)], args := [d1, d2, d3] }
  | _ => none }
def CoreResetsWrongFalsely : Prop := coreResetsRow.holds Tryz.pinned (OpenSpec.ofChange coreResetsWrong)

/-- 'tstatelaw19.IsaCalls': WHATEVER THE INPUT: true; the input reads as it did. -/
def isaCallsSpec : ChangeSpec := { name := "isaCalls", fn := fun _ => fun
  | [d1, d2, d3] => { results := [.lit (.bool true)], args := [d1, d2, d3] }
  | _ => none }
def isaCallsRow : OpenClaim := { program := "ytghoimllhpjkjaagreat", sum := "dcba4bf82ed16b27731cc147257ac27f76942c835cac12fe171dcf12a5e5ec5f", func := "tstate/tstatelaw19.IsaCalls", spec := "isaCalls", inPlace := ["slices.overlaps[tstate/api.Cell]"], unfollowed := true, recurses := true, apart := false }
def IsaCallsSaid : Prop := isaCallsRow.holds Tryz.pinned (OpenSpec.ofChange isaCallsSpec)

/-- ITS FALSE NEIGHBOUR: 'it returns false'. Refute it at one input. -/
def isaCallsWrong : ChangeSpec := { name := "isaCalls", fn := fun _ => fun
  | [d1, d2, d3] => { results := [.lit (.bool false)], args := [d1, d2, d3] }
  | _ => none }
def IsaCallsWrongFalsely : Prop := isaCallsRow.holds Tryz.pinned (OpenSpec.ofChange isaCallsWrong)

/-- 'tstatelaw19.IsaSteps': WHATEVER THE INPUT: true; the input reads as it did. -/
def isaStepsSpec : ChangeSpec := { name := "isaSteps", fn := fun _ => fun
  | [d1, d2, d3, d4, d5] => { results := [.lit (.bool true)], args := [d1, d2, d3, d4, d5] }
  | _ => none }
def isaStepsRow : OpenClaim := { program := "ytghoimllhpjkjaagreat", sum := "dcba4bf82ed16b27731cc147257ac27f76942c835cac12fe171dcf12a5e5ec5f", func := "tstate/tstatelaw19.IsaSteps", spec := "isaSteps", inPlace := ["slices.overlaps[tstate/api.Cell]"], unfollowed := true, recurses := true, apart := false }
def IsaStepsSaid : Prop := isaStepsRow.holds Tryz.pinned (OpenSpec.ofChange isaStepsSpec)

/-- ITS FALSE NEIGHBOUR: 'it returns false'. Refute it at one input. -/
def isaStepsWrong : ChangeSpec := { name := "isaSteps", fn := fun _ => fun
  | [d1, d2, d3, d4, d5] => { results := [.lit (.bool false)], args := [d1, d2, d3, d4, d5] }
  | _ => none }
def IsaStepsWrongFalsely : Prop := isaStepsRow.holds Tryz.pinned (OpenSpec.ofChange isaStepsWrong)

/-- 'tstatelaw19.IsaWrites': WHATEVER THE INPUT: true; the input reads as it did. -/
def isaWritesSpec : ChangeSpec := { name := "isaWrites", fn := fun _ => fun
  | [d1, d2] => { results := [.lit (.bool true)], args := [d1, d2] }
  | _ => none }
def isaWritesRow : OpenClaim := { program := "ytghoimllhpjkjaagreat", sum := "dcba4bf82ed16b27731cc147257ac27f76942c835cac12fe171dcf12a5e5ec5f", func := "tstate/tstatelaw19.IsaWrites", spec := "isaWrites", inPlace := ["slices.overlaps[tstate/api.Cell]"], unfollowed := true, recurses := true, apart := false }
def IsaWritesSaid : Prop := isaWritesRow.holds Tryz.pinned (OpenSpec.ofChange isaWritesSpec)

/-- ITS FALSE NEIGHBOUR: 'it returns false'. Refute it at one input. -/
def isaWritesWrong : ChangeSpec := { name := "isaWrites", fn := fun _ => fun
  | [d1, d2] => { results := [.lit (.bool false)], args := [d1, d2] }
  | _ => none }
def IsaWritesWrongFalsely : Prop := isaWritesRow.holds Tryz.pinned (OpenSpec.ofChange isaWritesWrong)

/-- 'tstatelaw27.BoundaryStates': WHATEVER THE INPUT: true; the input reads as it did. -/
def boundaryStatesSpec : ChangeSpec := { name := "boundaryStates", fn := fun _ => fun
  | [d1, d2, d3] => { results := [.lit (.bool true)], args := [d1, d2, d3] }
  | _ => none }
def boundaryStatesRow : OpenClaim := { program := "ytghoimllhpjkjaagreat", sum := "dcba4bf82ed16b27731cc147257ac27f76942c835cac12fe171dcf12a5e5ec5f", func := "tstate/tstatelaw27.BoundaryStates", spec := "boundaryStates", inPlace := ["slices.overlaps[tstate/api.Cell]"], unfollowed := true, recurses := true, apart := false }
def BoundaryStatesSaid : Prop := boundaryStatesRow.holds Tryz.pinned (OpenSpec.ofChange boundaryStatesSpec)

/-- ITS FALSE NEIGHBOUR: 'it returns false'. Refute it at one input. -/
def boundaryStatesWrong : ChangeSpec := { name := "boundaryStates", fn := fun _ => fun
  | [d1, d2, d3] => { results := [.lit (.bool false)], args := [d1, d2, d3] }
  | _ => none }
def BoundaryStatesWrongFalsely : Prop := boundaryStatesRow.holds Tryz.pinned (OpenSpec.ofChange boundaryStatesWrong)

/-- 'tstatelaw27.BoundaryReplays': WHATEVER THE INPUT: true; the input reads as it did. -/
def boundaryReplaysSpec : ChangeSpec := { name := "boundaryReplays", fn := fun _ => fun
  | [d1, d2, d3, d4] => { results := [.lit (.bool true)], args := [d1, d2, d3, d4] }
  | _ => none }
def boundaryReplaysRow : OpenClaim := { program := "ytghoimllhpjkjaagreat", sum := "dcba4bf82ed16b27731cc147257ac27f76942c835cac12fe171dcf12a5e5ec5f", func := "tstate/tstatelaw27.BoundaryReplays", spec := "boundaryReplays", inPlace := ["slices.overlaps[tstate/api.Cell]"], unfollowed := true, recurses := true, apart := false }
def BoundaryReplaysSaid : Prop := boundaryReplaysRow.holds Tryz.pinned (OpenSpec.ofChange boundaryReplaysSpec)

/-- ITS FALSE NEIGHBOUR: 'it returns false'. Refute it at one input. -/
def boundaryReplaysWrong : ChangeSpec := { name := "boundaryReplays", fn := fun _ => fun
  | [d1, d2, d3, d4] => { results := [.lit (.bool false)], args := [d1, d2, d3, d4] }
  | _ => none }
def BoundaryReplaysWrongFalsely : Prop := boundaryReplaysRow.holds Tryz.pinned (OpenSpec.ofChange boundaryReplaysWrong)

/-- 'tstatelaw27.BoundaryProjects': WHATEVER THE INPUT: true; the input reads as it did. -/
def boundaryProjectsSpec : ChangeSpec := { name := "boundaryProjects", fn := fun _ => fun
  | [d] => { results := [.lit (.bool true)], args := [d] }
  | _ => none }
def boundaryProjectsRow : OpenClaim := { program := "ytghoimllhpjkjaagreat", sum := "dcba4bf82ed16b27731cc147257ac27f76942c835cac12fe171dcf12a5e5ec5f", func := "tstate/tstatelaw27.BoundaryProjects", spec := "boundaryProjects", inPlace := ["slices.overlaps[tstate/api.Cell]"], unfollowed := true, recurses := true, apart := false }
def BoundaryProjectsSaid : Prop := boundaryProjectsRow.holds Tryz.pinned (OpenSpec.ofChange boundaryProjectsSpec)

/-- ITS FALSE NEIGHBOUR: 'it returns false'. Refute it at one input. -/
def boundaryProjectsWrong : ChangeSpec := { name := "boundaryProjects", fn := fun _ => fun
  | [d] => { results := [.lit (.bool false)], args := [d] }
  | _ => none }
def BoundaryProjectsWrongFalsely : Prop := boundaryProjectsRow.holds Tryz.pinned (OpenSpec.ofChange boundaryProjectsWrong)

/-- 'tstatelaw27.BoundaryMemories': WHATEVER THE INPUT: true; the input reads as it did. -/
def boundaryMemoriesSpec : ChangeSpec := { name := "boundaryMemories", fn := fun _ => fun
  | [d] => { results := [.lit (.bool true)], args := [d] }
  | _ => none }
def boundaryMemoriesRow : OpenClaim := { program := "ytghoimllhpjkjaagreat", sum := "dcba4bf82ed16b27731cc147257ac27f76942c835cac12fe171dcf12a5e5ec5f", func := "tstate/tstatelaw27.BoundaryMemories", spec := "boundaryMemories", inPlace := ["slices.overlaps[tstate/api.Cell]"], unfollowed := true, recurses := true, apart := false }
def BoundaryMemoriesSaid : Prop := boundaryMemoriesRow.holds Tryz.pinned (OpenSpec.ofChange boundaryMemoriesSpec)

/-- ITS FALSE NEIGHBOUR: 'it returns false'. Refute it at one input. -/
def boundaryMemoriesWrong : ChangeSpec := { name := "boundaryMemories", fn := fun _ => fun
  | [d] => { results := [.lit (.bool false)], args := [d] }
  | _ => none }
def BoundaryMemoriesWrongFalsely : Prop := boundaryMemoriesRow.holds Tryz.pinned (OpenSpec.ofChange boundaryMemoriesWrong)

/-- 'tstatelaw27.BoundarySteps': WHATEVER THE INPUT: true; the input reads as it did. -/
def boundaryStepsSpec : ChangeSpec := { name := "boundarySteps", fn := fun _ => fun
  | [d] => { results := [.lit (.bool true)], args := [d] }
  | _ => none }
def boundaryStepsRow : OpenClaim := { program := "ytghoimllhpjkjaagreat", sum := "dcba4bf82ed16b27731cc147257ac27f76942c835cac12fe171dcf12a5e5ec5f", func := "tstate/tstatelaw27.BoundarySteps", spec := "boundarySteps", inPlace := ["slices.overlaps[tstate/api.Cell]"], unfollowed := true, recurses := true, apart := false }
def BoundaryStepsSaid : Prop := boundaryStepsRow.holds Tryz.pinned (OpenSpec.ofChange boundaryStepsSpec)

/-- ITS FALSE NEIGHBOUR: 'it returns false'. Refute it at one input. -/
def boundaryStepsWrong : ChangeSpec := { name := "boundarySteps", fn := fun _ => fun
  | [d] => { results := [.lit (.bool false)], args := [d] }
  | _ => none }
def BoundaryStepsWrongFalsely : Prop := boundaryStepsRow.holds Tryz.pinned (OpenSpec.ofChange boundaryStepsWrong)

/- THE SECOND FORM. 'bulk': how many values and letters a reading holds, each counted each time it is reached (what is shared counts as often as it is met; a slice's spare places count too). A statement '..UptoSaid' is the law's where the arguments, and the package variables that the reading takes, are together of bulk at most 1048576: NARROWER than '..Said'. Prove '..Said' where nothing that the law and all that it calls make is longer than what came in: it says more and counts as full. Else prove '..UptoSaid'. A law counts once. -/
mutual
def uptoBulk {H : Type} : DataW H → Nat
  | .lit (.string bytes) => bytes.length + 1
  | .lit _ => 1
  | .nil => 1
  | .ptr d => uptoBulk d + 1
  | .slice elems spare => uptoBulkAll elems + uptoBulkAll spare + 1
  | .agg parts => uptoBulkAll parts + 1
  | .iface _ d => uptoBulk d + 1
  | .map entries => uptoBulkEntries entries + 1
  | .held _ => 1
def uptoBulkAll {H : Type} : List (DataW H) → Nat
  | [] => 0
  | d :: r => uptoBulk d + uptoBulkAll r
def uptoBulkEntries {H : Type} : List (Lit × DataW H) → Nat
  | [] => 0
  | x :: r => uptoBulkEntry x + uptoBulkEntries r
def uptoBulkEntry {H : Type} : Lit × DataW H → Nat
  | (.string bytes, d) => bytes.length + uptoBulk d + 1
  | (_, d) => uptoBulk d + 1
 end
def uptoSmall : (H : Type) → List (DataW H) → Bool := fun _ ds => decide (uptoBulkAll ds ≤ 1048576)
def OpenSpec.upto (s : _root_.Go.ChangeSpec) : _root_.Go.OpenSpec := { _root_.Go.OpenSpec.ofChange s with cond := some uptoSmall }

/-- 'tstatelaw26.GrammarTraces', WHERE WHAT IT READS IS OF BULK AT MOST 1048576: true; the input reads as it did. -/
def grammarTracesUptoRow : OpenClaim := { program := "ytghoimllhpjkjaagreat", sum := "dcba4bf82ed16b27731cc147257ac27f76942c835cac12fe171dcf12a5e5ec5f", func := "tstate/tstatelaw26.GrammarTraces", spec := "grammarTraces", unfollowed := true, recurses := true, apart := false, narrowed := true }
def GrammarTracesUptoSaid : Prop := grammarTracesUptoRow.holds Tryz.pinned (OpenSpec.upto grammarTracesSpec)

/-- 'tstatelaw20.CoreClocks', WHERE WHAT IT READS IS OF BULK AT MOST 1048576: true; the input reads as it did. -/
def coreClocksUptoRow : OpenClaim := { program := "ytghoimllhpjkjaagreat", sum := "dcba4bf82ed16b27731cc147257ac27f76942c835cac12fe171dcf12a5e5ec5f", func := "tstate/tstatelaw20.CoreClocks", spec := "coreClocks", unfollowed := true, recurses := true, apart := false, narrowed := true }
def CoreClocksUptoSaid : Prop := coreClocksUptoRow.holds Tryz.pinned (OpenSpec.upto coreClocksSpec)

/-- 'tstatelaw20.CoreResets', WHERE WHAT IT READS IS OF BULK AT MOST 1048576: true; the input reads as it did. -/
def coreResetsUptoRow : OpenClaim := { program := "ytghoimllhpjkjaagreat", sum := "dcba4bf82ed16b27731cc147257ac27f76942c835cac12fe171dcf12a5e5ec5f", func := "tstate/tstatelaw20.CoreResets", spec := "coreResets", unfollowed := true, recurses := true, apart := false, narrowed := true }
def CoreResetsUptoSaid : Prop := coreResetsUptoRow.holds Tryz.pinned (OpenSpec.upto coreResetsSpec)

/-- 'tstatelaw19.IsaCalls', WHERE WHAT IT READS IS OF BULK AT MOST 1048576: true; the input reads as it did. -/
def isaCallsUptoRow : OpenClaim := { program := "ytghoimllhpjkjaagreat", sum := "dcba4bf82ed16b27731cc147257ac27f76942c835cac12fe171dcf12a5e5ec5f", func := "tstate/tstatelaw19.IsaCalls", spec := "isaCalls", inPlace := ["slices.overlaps[tstate/api.Cell]"], unfollowed := true, recurses := true, apart := false, narrowed := true }
def IsaCallsUptoSaid : Prop := isaCallsUptoRow.holds Tryz.pinned (OpenSpec.upto isaCallsSpec)

/-- 'tstatelaw19.IsaSteps', WHERE WHAT IT READS IS OF BULK AT MOST 1048576: true; the input reads as it did. -/
def isaStepsUptoRow : OpenClaim := { program := "ytghoimllhpjkjaagreat", sum := "dcba4bf82ed16b27731cc147257ac27f76942c835cac12fe171dcf12a5e5ec5f", func := "tstate/tstatelaw19.IsaSteps", spec := "isaSteps", inPlace := ["slices.overlaps[tstate/api.Cell]"], unfollowed := true, recurses := true, apart := false, narrowed := true }
def IsaStepsUptoSaid : Prop := isaStepsUptoRow.holds Tryz.pinned (OpenSpec.upto isaStepsSpec)

/-- 'tstatelaw19.IsaWrites', WHERE WHAT IT READS IS OF BULK AT MOST 1048576: true; the input reads as it did. -/
def isaWritesUptoRow : OpenClaim := { program := "ytghoimllhpjkjaagreat", sum := "dcba4bf82ed16b27731cc147257ac27f76942c835cac12fe171dcf12a5e5ec5f", func := "tstate/tstatelaw19.IsaWrites", spec := "isaWrites", inPlace := ["slices.overlaps[tstate/api.Cell]"], unfollowed := true, recurses := true, apart := false, narrowed := true }
def IsaWritesUptoSaid : Prop := isaWritesUptoRow.holds Tryz.pinned (OpenSpec.upto isaWritesSpec)

/-- 'tstatelaw27.BoundaryStates', WHERE WHAT IT READS IS OF BULK AT MOST 1048576: true; the input reads as it did. -/
def boundaryStatesUptoRow : OpenClaim := { program := "ytghoimllhpjkjaagreat", sum := "dcba4bf82ed16b27731cc147257ac27f76942c835cac12fe171dcf12a5e5ec5f", func := "tstate/tstatelaw27.BoundaryStates", spec := "boundaryStates", inPlace := ["slices.overlaps[tstate/api.Cell]"], unfollowed := true, recurses := true, apart := false, narrowed := true }
def BoundaryStatesUptoSaid : Prop := boundaryStatesUptoRow.holds Tryz.pinned (OpenSpec.upto boundaryStatesSpec)

/-- 'tstatelaw27.BoundaryReplays', WHERE WHAT IT READS IS OF BULK AT MOST 1048576: true; the input reads as it did. -/
def boundaryReplaysUptoRow : OpenClaim := { program := "ytghoimllhpjkjaagreat", sum := "dcba4bf82ed16b27731cc147257ac27f76942c835cac12fe171dcf12a5e5ec5f", func := "tstate/tstatelaw27.BoundaryReplays", spec := "boundaryReplays", inPlace := ["slices.overlaps[tstate/api.Cell]"], unfollowed := true, recurses := true, apart := false, narrowed := true }
def BoundaryReplaysUptoSaid : Prop := boundaryReplaysUptoRow.holds Tryz.pinned (OpenSpec.upto boundaryReplaysSpec)

/-- 'tstatelaw27.BoundaryProjects', WHERE WHAT IT READS IS OF BULK AT MOST 1048576: true; the input reads as it did. -/
def boundaryProjectsUptoRow : OpenClaim := { program := "ytghoimllhpjkjaagreat", sum := "dcba4bf82ed16b27731cc147257ac27f76942c835cac12fe171dcf12a5e5ec5f", func := "tstate/tstatelaw27.BoundaryProjects", spec := "boundaryProjects", inPlace := ["slices.overlaps[tstate/api.Cell]"], unfollowed := true, recurses := true, apart := false, narrowed := true }
def BoundaryProjectsUptoSaid : Prop := boundaryProjectsUptoRow.holds Tryz.pinned (OpenSpec.upto boundaryProjectsSpec)

/-- 'tstatelaw27.BoundaryMemories', WHERE WHAT IT READS IS OF BULK AT MOST 1048576: true; the input reads as it did. -/
def boundaryMemoriesUptoRow : OpenClaim := { program := "ytghoimllhpjkjaagreat", sum := "dcba4bf82ed16b27731cc147257ac27f76942c835cac12fe171dcf12a5e5ec5f", func := "tstate/tstatelaw27.BoundaryMemories", spec := "boundaryMemories", inPlace := ["slices.overlaps[tstate/api.Cell]"], unfollowed := true, recurses := true, apart := false, narrowed := true }
def BoundaryMemoriesUptoSaid : Prop := boundaryMemoriesUptoRow.holds Tryz.pinned (OpenSpec.upto boundaryMemoriesSpec)

/-- 'tstatelaw27.BoundarySteps', WHERE WHAT IT READS IS OF BULK AT MOST 1048576: true; the input reads as it did. -/
def boundaryStepsUptoRow : OpenClaim := { program := "ytghoimllhpjkjaagreat", sum := "dcba4bf82ed16b27731cc147257ac27f76942c835cac12fe171dcf12a5e5ec5f", func := "tstate/tstatelaw27.BoundarySteps", spec := "boundarySteps", inPlace := ["slices.overlaps[tstate/api.Cell]"], unfollowed := true, recurses := true, apart := false, narrowed := true }
def BoundaryStepsUptoSaid : Prop := boundaryStepsUptoRow.holds Tryz.pinned (OpenSpec.upto boundaryStepsSpec)

end Rows
end Go.Proofs.YtghoimllhpjkjaaGreat
