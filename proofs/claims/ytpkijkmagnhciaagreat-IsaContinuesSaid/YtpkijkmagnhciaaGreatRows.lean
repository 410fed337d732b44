/-
  No cell of these rows narrows 'for every input' (looked for: loops, veiled, ifaces, maps, wideKeys, modest, calm, conditions, laid).
  DERIVED. THE GIVEN ROWS OF THIS SEAT. 8 by the template 'for every input the law returns true; each argument reads behind the call as it read before'; 0 by the template 'total and deterministic' (their statements: YtpkijkmagnhciaaGreatTotals.lean).
  GIVEN WITH THE SEED: the statements are not yours to turn. If you find one false, say at which input.
  Laid BY PROGRAM, IN A SANDBOX (cutbox-rows.mjs): the forced cells as the released guide's own fill.sh prints them over the translation aea0517d105b1ea5… (all of the seat's roots in one cut). By AI agents, Wed Nov 11 2026. No macro, syntax, notation, axiom, sorry.
-/
import Derived.Test.YtpkijkmagnhciaaGreatChecked
import GoSem.Claim
import GoSem.ClaimJoined
import GoSem.ClaimMapViews
import Derived.JoinedTies
import Derived.KernelRfl
namespace Go.Proofs.YtpkijkmagnhciaaGreat
/- THE CELL 'sum', in the pinned program and in every row, IS THE sha256 OF THE DUMP (.gsa) THAT YtpkijkmagnhciaaGreatProg.lean LOADS. Nothing in Lean hashes anything: it is a label: what it is worth is what the hold of that sum in a sandbox is worth. -/
noncomputable def Tryz.pinned : Pinned := { name := "ytpkijkmagnhciaagreat", sum := "aea0517d105b1ea52449ccd788d9aeeb2f5a94ab73e5029d9ee976e4cc3417e6", checked := Tryz.checked }
namespace Rows
def none {H : Type} : Left H := { results := [], args := [] }

/-- 'tstatelaw20.CoreClocks': WHATEVER THE INPUT: true; the input reads as it did. -/
def coreClocksSpec : ChangeSpec := { name := "coreClocks", fn := fun _ => fun
  | [d1, d2, d3, d4, d5] => { results := [.lit (.bool true)], args := [d1, d2, d3, d4, d5] }
  | _ => none }
def coreClocksRow : OpenClaim := { program := "ytpkijkmagnhciaagreat", sum := "aea0517d105b1ea52449ccd788d9aeeb2f5a94ab73e5029d9ee976e4cc3417e6", func := "tstate/tstatelaw20.CoreClocks", spec := "coreClocks", unfollowed := true, recurses := true, apart := false }
def CoreClocksSaid : Prop := coreClocksRow.holds Tryz.pinned (OpenSpec.ofChange coreClocksSpec)

/-- ITS FALSE NEIGHBOUR: 'it returns false'. Refute it at one input. -/
def coreClocksWrong : ChangeSpec := { name := "coreClocks", fn := fun _ => fun
  | [d1, d2, d3, d4, d5] => { results := [.lit (.bool false)], args := [d1, d2, d3, d4, d5] }
  | _ => none }
def CoreClocksWrongFalsely : Prop := coreClocksRow.holds Tryz.pinned (OpenSpec.ofChange coreClocksWrong)

/-- 'tstatelaw20.CoreResets': WHATEVER THE INPUT: true; the input reads as it did. -/
def coreResetsSpec : ChangeSpec := { name := "coreResets", fn := fun _ => fun
  | [d1, d2, d3] => { results := [.lit (.bool true)], args := [d1, d2, d3] }
  | _ => none }
def coreResetsRow : OpenClaim := { program := "ytpkijkmagnhciaagreat", sum := "aea0517d105b1ea52449ccd788d9aeeb2f5a94ab73e5029d9ee976e4cc3417e6", func := "tstate/tstatelaw20.CoreResets", spec := "coreResets", unfollowed := true, recurses := true, apart := false }
def CoreResetsSaid : Prop := coreResetsRow.holds Tryz.pinned (OpenSpec.ofChange coreResetsSpec)

/-- ITS FALSE NEIGHBOUR: 'it returns false'. Refute it at one input. -/
def coreResetsWrong : ChangeSpec := { name := "coreResets", fn := fun _ => fun
  | [d1, d2, d3] => { results := [.lit (.bool false)], args := [d1, d2, d3] }
  | _ => none }
def CoreResetsWrongFalsely : Prop := coreResetsRow.holds Tryz.pinned (OpenSpec.ofChange coreResetsWrong)

/-- 'tstatelaw19.IsaContinues': WHATEVER THE INPUT: true; the input reads as it did. -/
def isaContinuesSpec : ChangeSpec := { name := "isaContinues", fn := fun _ => fun
  | [d1, d2, d3] => { results := [.lit (.bool true)], args := [d1, d2, d3] }
  | _ => none }
def isaContinuesRow : OpenClaim := { program := "ytpkijkmagnhciaagreat", sum := "aea0517d105b1ea52449ccd788d9aeeb2f5a94ab73e5029d9ee976e4cc3417e6", func := "tstate/tstatelaw19.IsaContinues", spec := "isaContinues", inPlace := ["slices.overlaps[tstate/api.Cell]"], unfollowed := true, recurses := true, apart := false }
def IsaContinuesSaid : Prop := isaContinuesRow.holds Tryz.pinned (OpenSpec.ofChange isaContinuesSpec)

/-- ITS FALSE NEIGHBOUR: 'it returns false'. Refute it at one input. -/
def isaContinuesWrong : ChangeSpec := { name := "isaContinues", fn := fun _ => fun
  | [d1, d2, d3] => { results := [.lit (.bool false)], args := [d1, d2, d3] }
  | _ => none }
def IsaContinuesWrongFalsely : Prop := isaContinuesRow.holds Tryz.pinned (OpenSpec.ofChange isaContinuesWrong)

/-- 'tstatelaw19.IsaCalls': WHATEVER THE INPUT: true; the input reads as it did. -/
def isaCallsSpec : ChangeSpec := { name := "isaCalls", fn := fun _ => fun
  | [d1, d2, d3] => { results := [.lit (.bool true)], args := [d1, d2, d3] }
  | _ => none }
def isaCallsRow : OpenClaim := { program := "ytpkijkmagnhciaagreat", sum := "aea0517d105b1ea52449ccd788d9aeeb2f5a94ab73e5029d9ee976e4cc3417e6", func := "tstate/tstatelaw19.IsaCalls", spec := "isaCalls", inPlace := ["slices.overlaps[tstate/api.Cell]"], unfollowed := true, recurses := true, apart := false }
def IsaCallsSaid : Prop := isaCallsRow.holds Tryz.pinned (OpenSpec.ofChange isaCallsSpec)

/-- ITS FALSE NEIGHBOUR: 'it returns false'. Refute it at one input. -/
def isaCallsWrong : ChangeSpec := { name := "isaCalls", fn := fun _ => fun
  | [d1, d2, d3] => { results := [.lit (.bool false)], args := [d1, d2, d3] }
  | _ => none }
def IsaCallsWrongFalsely : Prop := isaCallsRow.holds Tryz.pinned (OpenSpec.ofChange isaCallsWrong)

/-- 'tstatelaw19.IsaAdds': WHATEVER THE INPUT: true; the input reads as it did. -/
def isaAddsSpec : ChangeSpec := { name := "isaAdds", fn := fun _ => fun
  | [d1, d2, d3] => { results := [.lit (.bool true)], args := [d1, d2, d3] }
  | _ => none }
def isaAddsRow : OpenClaim := { program := "ytpkijkmagnhciaagreat", sum := "aea0517d105b1ea52449ccd788d9aeeb2f5a94ab73e5029d9ee976e4cc3417e6", func := "tstate/tstatelaw19.IsaAdds", spec := "isaAdds", inPlace := ["slices.overlaps[tstate/api.Cell]"], unfollowed := true, recurses := true, apart := false }
def IsaAddsSaid : Prop := isaAddsRow.holds Tryz.pinned (OpenSpec.ofChange isaAddsSpec)

/-- ITS FALSE NEIGHBOUR: 'it returns false'. Refute it at one input. -/
def isaAddsWrong : ChangeSpec := { name := "isaAdds", fn := fun _ => fun
  | [d1, d2, d3] => { results := [.lit (.bool false)], args := [d1, d2, d3] }
  | _ => none }
def IsaAddsWrongFalsely : Prop := isaAddsRow.holds Tryz.pinned (OpenSpec.ofChange isaAddsWrong)

/-- 'tstatelaw19.IsaLimits': WHATEVER THE INPUT: true; the input reads as it did. -/
def isaLimitsSpec : ChangeSpec := { name := "isaLimits", fn := fun _ => fun
  | [d1, d2] => { results := [.lit (.bool true)], args := [d1, d2] }
  | _ => none }
def isaLimitsRow : OpenClaim := { program := "ytpkijkmagnhciaagreat", sum := "aea0517d105b1ea52449ccd788d9aeeb2f5a94ab73e5029d9ee976e4cc3417e6", func := "tstate/tstatelaw19.IsaLimits", spec := "isaLimits", inPlace := ["slices.overlaps[tstate/api.Cell]"], unfollowed := true, recurses := true, apart := false }
def IsaLimitsSaid : Prop := isaLimitsRow.holds Tryz.pinned (OpenSpec.ofChange isaLimitsSpec)

/-- ITS FALSE NEIGHBOUR: 'it returns false'. Refute it at one input. -/
def isaLimitsWrong : ChangeSpec := { name := "isaLimits", fn := fun _ => fun
  | [d1, d2] => { results := [.lit (.bool false)], args := [d1, d2] }
  | _ => none }
def IsaLimitsWrongFalsely : Prop := isaLimitsRow.holds Tryz.pinned (OpenSpec.ofChange isaLimitsWrong)

/-- 'tstatelaw19.IsaSteps': WHATEVER THE INPUT: true; the input reads as it did. -/
def isaStepsSpec : ChangeSpec := { name := "isaSteps", fn := fun _ => fun
  | [d1, d2, d3, d4, d5] => { results := [.lit (.bool true)], args := [d1, d2, d3, d4, d5] }
  | _ => none }
def isaStepsRow : OpenClaim := { program := "ytpkijkmagnhciaagreat", sum := "aea0517d105b1ea52449ccd788d9aeeb2f5a94ab73e5029d9ee976e4cc3417e6", func := "tstate/tstatelaw19.IsaSteps", spec := "isaSteps", inPlace := ["slices.overlaps[tstate/api.Cell]"], unfollowed := true, recurses := true, apart := false }
def IsaStepsSaid : Prop := isaStepsRow.holds Tryz.pinned (OpenSpec.ofChange isaStepsSpec)

/-- ITS FALSE NEIGHBOUR: 'it returns false'. Refute it at one input. -/
def isaStepsWrong : ChangeSpec := { name := "isaSteps", fn := fun _ => fun
  | [d1, d2, d3, d4, d5] => { results := [.lit (.bool false)], args := [d1, d2, d3, d4, d5] }
  | _ => none }
def IsaStepsWrongFalsely : Prop := isaStepsRow.holds Tryz.pinned (OpenSpec.ofChange isaStepsWrong)

/-- 'tstatelaw19.IsaWrites': WHATEVER THE INPUT: true; the input reads as it did. -/
def isaWritesSpec : ChangeSpec := { name := "isaWrites", fn := fun _ => fun
  | [d1, d2] => { results := [.lit (.bool true)], args := [d1, d2] }
  | _ => none }
def isaWritesRow : OpenClaim := { program := "ytpkijkmagnhciaagreat", sum := "aea0517d105b1ea52449ccd788d9aeeb2f5a94ab73e5029d9ee976e4cc3417e6", func := "tstate/tstatelaw19.IsaWrites", spec := "isaWrites", inPlace := ["slices.overlaps[tstate/api.Cell]"], unfollowed := true, recurses := true, apart := false }
def IsaWritesSaid : Prop := isaWritesRow.holds Tryz.pinned (OpenSpec.ofChange isaWritesSpec)

/-- ITS FALSE NEIGHBOUR: 'it returns false'. Refute it at one input. -/
def isaWritesWrong : ChangeSpec := { name := "isaWrites", fn := fun _ => fun
  | [d1, d2] => { results := [.lit (.bool false)], args := [d1, d2] }
  | _ => none }
def IsaWritesWrongFalsely : Prop := isaWritesRow.holds Tryz.pinned (OpenSpec.ofChange isaWritesWrong)

/- THE SECOND FORM. 'bulk': how many values and letters a reading holds, each counted each time it is reached (what is shared counts as often as it is met; a slice's spare places count too). A statement '..UptoSaid' is the law's where the arguments, and the package variables that the reading takes, are together of bulk at most 1048576: NARROWER than '..Said'. Prove '..Said' where nothing that the law and all that it calls make is longer than what came in: it says more and counts as full. Else prove '..UptoSaid'. A law counts once. -/
mutual
def uptoBulk {H : Type} : DataW H → Nat
  | .lit (.string bytes) => bytes.length + 1
  | .lit _ => 1
  | .nil => 1
  | .ptr d => uptoBulk d + 1
  | .slice elems spare => uptoBulkAll elems + uptoBulkAll spare + 1
  | .agg parts => uptoBulkAll parts + 1
  | .iface _ d => uptoBulk d + 1
  | .map entries => uptoBulkEntries entries + 1
  | .held _ => 1
def uptoBulkAll {H : Type} : List (DataW H) → Nat
  | [] => 0
  | d :: r => uptoBulk d + uptoBulkAll r
def uptoBulkEntries {H : Type} : List (Lit × DataW H) → Nat
  | [] => 0
  | x :: r => uptoBulkEntry x + uptoBulkEntries r
def uptoBulkEntry {H : Type} : Lit × DataW H → Nat
  | (.string bytes, d) => bytes.length + uptoBulk d + 1
  | (_, d) => uptoBulk d + 1
 end
def uptoSmall : (H : Type) → List (DataW H) → Bool := fun _ ds => decide (uptoBulkAll ds ≤ 1048576)
def OpenSpec.upto (s : _root_.Go.ChangeSpec) : _root_.Go.OpenSpec := { _root_.Go.OpenSpec.ofChange s with cond := some uptoSmall }

/-- 'tstatelaw20.CoreClocks', WHERE WHAT IT READS IS OF BULK AT MOST 1048576: true; the input reads as it did. -/
def coreClocksUptoRow : OpenClaim := { program := "ytpkijkmagnhciaagreat", sum := "aea0517d105b1ea52449ccd788d9aeeb2f5a94ab73e5029d9ee976e4cc3417e6", func := "tstate/tstatelaw20.CoreClocks", spec := "coreClocks", unfollowed := true, recurses := true, apart := false, narrowed := true }
def CoreClocksUptoSaid : Prop := coreClocksUptoRow.holds Tryz.pinned (OpenSpec.upto coreClocksSpec)

/-- 'tstatelaw20.CoreResets', WHERE WHAT IT READS IS OF BULK AT MOST 1048576: true; the input reads as it did. -/
def coreResetsUptoRow : OpenClaim := { program := "ytpkijkmagnhciaagreat", sum := "aea0517d105b1ea52449ccd788d9aeeb2f5a94ab73e5029d9ee976e4cc3417e6", func := "tstate/tstatelaw20.CoreResets", spec := "coreResets", unfollowed := true, recurses := true, apart := false, narrowed := true }
def CoreResetsUptoSaid : Prop := coreResetsUptoRow.holds Tryz.pinned (OpenSpec.upto coreResetsSpec)

/-- 'tstatelaw19.IsaContinues', WHERE WHAT IT READS IS OF BULK AT MOST 1048576: true; the input reads as it did. -/
def isaContinuesUptoRow : OpenClaim := { program := "ytpkijkmagnhciaagreat", sum := "aea0517d105b1ea52449ccd788d9aeeb2f5a94ab73e5029d9ee976e4cc3417e6", func := "tstate/tstatelaw19.IsaContinues", spec := "isaContinues", inPlace := ["slices.overlaps[tstate/api.Cell]"], unfollowed := true, recurses := true, apart := false, narrowed := true }
def IsaContinuesUptoSaid : Prop := isaContinuesUptoRow.holds Tryz.pinned (OpenSpec.upto isaContinuesSpec)

/-- 'tstatelaw19.IsaCalls', WHERE WHAT IT READS IS OF BULK AT MOST 1048576: true; the input reads as it did. -/
def isaCallsUptoRow : OpenClaim := { program := "ytpkijkmagnhciaagreat", sum := "aea0517d105b1ea52449ccd788d9aeeb2f5a94ab73e5029d9ee976e4cc3417e6", func := "tstate/tstatelaw19.IsaCalls", spec := "isaCalls", inPlace := ["slices.overlaps[tstate/api.Cell]"], unfollowed := true, recurses := true, apart := false, narrowed := true }
def IsaCallsUptoSaid : Prop := isaCallsUptoRow.holds Tryz.pinned (OpenSpec.upto isaCallsSpec)

/-- 'tstatelaw19.IsaAdds', WHERE WHAT IT READS IS OF BULK AT MOST 1048576: true; the input reads as it did. -/
def isaAddsUptoRow : OpenClaim := { program := "ytpkijkmagnhciaagreat", sum := "aea0517d105b1ea52449ccd788d9aeeb2f5a94ab73e5029d9ee976e4cc3417e6", func := "tstate/tstatelaw19.IsaAdds", spec := "isaAdds", inPlace := ["slices.overlaps[tstate/api.Cell]"], unfollowed := true, recurses := true, apart := false, narrowed := true }
def IsaAddsUptoSaid : Prop := isaAddsUptoRow.holds Tryz.pinned (OpenSpec.upto isaAddsSpec)

/-- 'tstatelaw19.IsaLimits', WHERE WHAT IT READS IS OF BULK AT MOST 1048576: true; the input reads as it did. -/
def isaLimitsUptoRow : OpenClaim := { program := "ytpkijkmagnhciaagreat", sum := "aea0517d105b1ea52449ccd788d9aeeb2f5a94ab73e5029d9ee976e4cc3417e6", func := "tstate/tstatelaw19.IsaLimits", spec := "isaLimits", inPlace := ["slices.overlaps[tstate/api.Cell]"], unfollowed := true, recurses := true, apart := false, narrowed := true }
def IsaLimitsUptoSaid : Prop := isaLimitsUptoRow.holds Tryz.pinned (OpenSpec.upto isaLimitsSpec)

/-- 'tstatelaw19.IsaSteps', WHERE WHAT IT READS IS OF BULK AT MOST 1048576: true; the input reads as it did. -/
def isaStepsUptoRow : OpenClaim := { program := "ytpkijkmagnhciaagreat", sum := "aea0517d105b1ea52449ccd788d9aeeb2f5a94ab73e5029d9ee976e4cc3417e6", func := "tstate/tstatelaw19.IsaSteps", spec := "isaSteps", inPlace := ["slices.overlaps[tstate/api.Cell]"], unfollowed := true, recurses := true, apart := false, narrowed := true }
def IsaStepsUptoSaid : Prop := isaStepsUptoRow.holds Tryz.pinned (OpenSpec.upto isaStepsSpec)

/-- 'tstatelaw19.IsaWrites', WHERE WHAT IT READS IS OF BULK AT MOST 1048576: true; the input reads as it did. -/
def isaWritesUptoRow : OpenClaim := { program := "ytpkijkmagnhciaagreat", sum := "aea0517d105b1ea52449ccd788d9aeeb2f5a94ab73e5029d9ee976e4cc3417e6", func := "tstate/tstatelaw19.IsaWrites", spec := "isaWrites", inPlace := ["slices.overlaps[tstate/api.Cell]"], unfollowed := true, recurses := true, apart := false, narrowed := true }
def IsaWritesUptoSaid : Prop := isaWritesUptoRow.holds Tryz.pinned (OpenSpec.upto isaWritesSpec)

end Rows
end Go.Proofs.YtpkijkmagnhciaaGreat
