/-
  No cell of these rows narrows 'for every input' (looked for: loops, veiled, ifaces, maps, wideKeys, modest, calm, conditions, laid).
  DERIVED. THE GIVEN ROWS OF THIS SEAT. 4 by the template 'for every input the law returns true; each argument reads behind the call as it read before'; 0 by the template 'total and deterministic' (their statements: YtlgmapcjapofoaaTotals.lean).
  GIVEN WITH THE SEED: the statements are not yours to turn. If you find one false, say at which input.
  Laid BY PROGRAM, IN A SANDBOX (cutbox-rows.mjs): the forced cells as the released guide's own fill.sh prints them over the translation 6fcb06e3e14394f3… (all of the seat's roots in one cut). By AI agents, Wed Nov 11 2026. No macro, syntax, notation, axiom, sorry.
-/
import Derived.Test.YtlgmapcjapofoaaChecked
import GoSem.Claim
import GoSem.ClaimJoined
import GoSem.ClaimMapViews
import Derived.JoinedTies
import Derived.KernelRfl
namespace Go.Proofs.Ytlgmapcjapofoaa
/- THE CELL 'sum', in the pinned program and in every row, IS THE sha256 OF THE DUMP (.gsa) THAT YtlgmapcjapofoaaProg.lean LOADS. Nothing in Lean hashes anything: it is a label: what it is worth is what the hold of that sum in a sandbox is worth. -/
noncomputable def Try.pinned : Pinned := { name := "ytlgmapcjapofoaa", sum := "6fcb06e3e14394f34e6ab5bb9d918c00f4c87a8b608d4b3f3ed4020cea4b155f", checked := Try.checked }
namespace Rows
def none {H : Type} : Left H := { results := [], args := [] }

/-- 'tstatelaw26.GrammarExpands': WHATEVER THE INPUT: true; the input reads as it did. -/
def grammarExpandsSpec : ChangeSpec := { name := "grammarExpands", fn := fun _ => fun
  | [d1, d2, d3] => { results := [.lit (.bool true)], args := [d1, d2, d3] }
  | _ => none }
def grammarExpandsRow : OpenClaim := { program := "ytlgmapcjapofoaa", sum := "6fcb06e3e14394f34e6ab5bb9d918c00f4c87a8b608d4b3f3ed4020cea4b155f", func := "tstate/tstatelaw26.GrammarExpands", spec := "grammarExpands", unfollowed := true, recurses := true, apart := false }
def GrammarExpandsSaid : Prop := grammarExpandsRow.holds Try.pinned (OpenSpec.ofChange grammarExpandsSpec)

/-- ITS FALSE NEIGHBOUR: 'it returns false'. Refute it at one input. -/
def grammarExpandsWrong : ChangeSpec := { name := "grammarExpands", fn := fun _ => fun
  | [d1, d2, d3] => { results := [.lit (.bool false)], args := [d1, d2, d3] }
  | _ => none }
def GrammarExpandsWrongFalsely : Prop := grammarExpandsRow.holds Try.pinned (OpenSpec.ofChange grammarExpandsWrong)

/-- 'tstatelaw26.GrammarConcats': WHATEVER THE INPUT: true; the input reads as it did. -/
def grammarConcatsSpec : ChangeSpec := { name := "grammarConcats", fn := fun _ => fun
  | [d1, d2, d3] => { results := [.lit (.bool true)], args := [d1, d2, d3] }
  | _ => none }
def grammarConcatsRow : OpenClaim := { program := "ytlgmapcjapofoaa", sum := "6fcb06e3e14394f34e6ab5bb9d918c00f4c87a8b608d4b3f3ed4020cea4b155f", func := "tstate/tstatelaw26.GrammarConcats", spec := "grammarConcats", unfollowed := true, recurses := true, apart := false }
def GrammarConcatsSaid : Prop := grammarConcatsRow.holds Try.pinned (OpenSpec.ofChange grammarConcatsSpec)

/-- ITS FALSE NEIGHBOUR: 'it returns false'. Refute it at one input. -/
def grammarConcatsWrong : ChangeSpec := { name := "grammarConcats", fn := fun _ => fun
  | [d1, d2, d3] => { results := [.lit (.bool false)], args := [d1, d2, d3] }
  | _ => none }
def GrammarConcatsWrongFalsely : Prop := grammarConcatsRow.holds Try.pinned (OpenSpec.ofChange grammarConcatsWrong)

/-- 'tstatelaw26.GrammarBuses': WHATEVER THE INPUT: true; the input reads as it did. -/
def grammarBusesSpec : ChangeSpec := { name := "grammarBuses", fn := fun _ => fun
  | [d1, d2] => { results := [.lit (.bool true)], args := [d1, d2] }
  | _ => none }
def grammarBusesRow : OpenClaim := { program := "ytlgmapcjapofoaa", sum := "6fcb06e3e14394f34e6ab5bb9d918c00f4c87a8b608d4b3f3ed4020cea4b155f", func := "tstate/tstatelaw26.GrammarBuses", spec := "grammarBuses", unfollowed := true, recurses := true, apart := false }
def GrammarBusesSaid : Prop := grammarBusesRow.holds Try.pinned (OpenSpec.ofChange grammarBusesSpec)

/-- ITS FALSE NEIGHBOUR: 'it returns false'. Refute it at one input. -/
def grammarBusesWrong : ChangeSpec := { name := "grammarBuses", fn := fun _ => fun
  | [d1, d2] => { results := [.lit (.bool false)], args := [d1, d2] }
  | _ => none }
def GrammarBusesWrongFalsely : Prop := grammarBusesRow.holds Try.pinned (OpenSpec.ofChange grammarBusesWrong)

/-- 'tstatelaw26.GrammarLimits': WHATEVER THE INPUT: true; the input reads as it did. -/
def grammarLimitsSpec : ChangeSpec := { name := "grammarLimits", fn := fun _ => fun
  | [d1, d2, d3] => { results := [.lit (.bool true)], args := [d1, d2, d3] }
  | _ => none }
def grammarLimitsRow : OpenClaim := { program := "ytlgmapcjapofoaa", sum := "6fcb06e3e14394f34e6ab5bb9d918c00f4c87a8b608d4b3f3ed4020cea4b155f", func := "tstate/tstatelaw26.GrammarLimits", spec := "grammarLimits", unfollowed := true, recurses := true, apart := false }
def GrammarLimitsSaid : Prop := grammarLimitsRow.holds Try.pinned (OpenSpec.ofChange grammarLimitsSpec)

/-- ITS FALSE NEIGHBOUR: 'it returns false'. Refute it at one input. -/
def grammarLimitsWrong : ChangeSpec := { name := "grammarLimits", fn := fun _ => fun
  | [d1, d2, d3] => { results := [.lit (.bool false)], args := [d1, d2, d3] }
  | _ => none }
def GrammarLimitsWrongFalsely : Prop := grammarLimitsRow.holds Try.pinned (OpenSpec.ofChange grammarLimitsWrong)

/- THE SECOND FORM. 'bulk': how many values and letters a reading holds, each counted each time it is reached (what is shared counts as often as it is met; a slice's spare places count too). A statement '..UptoSaid' is the law's where the arguments, and the package variables that the reading takes, are together of bulk at most 1048576: NARROWER than '..Said'. Prove '..Said' where nothing that the law and all that it calls make is longer than what came in: it says more and counts as full. Else prove '..UptoSaid'. A law counts once. -/
mutual
def uptoBulk {H : Type} : DataW H → Nat
  | .lit (.string bytes) => bytes.length + 1
  | .lit _ => 1
  | .nil => 1
  | .ptr d => uptoBulk d + 1
  | .slice elems spare => uptoBulkAll elems + uptoBulkAll spare + 1
  | .agg parts => uptoBulkAll parts + 1
  | .iface _ d => uptoBulk d + 1
  | .map entries => uptoBulkEntries entries + 1
  | .held _ => 1
def uptoBulkAll {H : Type} : List (DataW H) → Nat
  | [] => 0
  | d :: r => uptoBulk d + uptoBulkAll r
def uptoBulkEntries {H : Type} : List (Lit × DataW H) → Nat
  | [] => 0
  | x :: r => uptoBulkEntry x + uptoBulkEntries r
def uptoBulkEntry {H : Type} : Lit × DataW H → Nat
  | (.string bytes, d) => bytes.length + uptoBulk d + 1
  | (_, d) => uptoBulk d + 1
 end
def uptoSmall : (H : Type) → List (DataW H) → Bool := fun _ ds => decide (uptoBulkAll ds ≤ 1048576)
def OpenSpec.upto (s : _root_.Go.ChangeSpec) : _root_.Go.OpenSpec := { _root_.Go.OpenSpec.ofChange s with cond := some uptoSmall }

/-- 'tstatelaw26.GrammarExpands', WHERE WHAT IT READS IS OF BULK AT MOST 1048576: true; the input reads as it did. -/
def grammarExpandsUptoRow : OpenClaim := { program := "ytlgmapcjapofoaa", sum := "6fcb06e3e14394f34e6ab5bb9d918c00f4c87a8b608d4b3f3ed4020cea4b155f", func := "tstate/tstatelaw26.GrammarExpands", spec := "grammarExpands", unfollowed := true, recurses := true, apart := false, narrowed := true }
def GrammarExpandsUptoSaid : Prop := grammarExpandsUptoRow.holds Try.pinned (OpenSpec.upto grammarExpandsSpec)

/-- 'tstatelaw26.GrammarConcats', WHERE WHAT IT READS IS OF BULK AT MOST 1048576: true; the input reads as it did. -/
def grammarConcatsUptoRow : OpenClaim := { program := "ytlgmapcjapofoaa", sum := "6fcb06e3e14394f34e6ab5bb9d918c00f4c87a8b608d4b3f3ed4020cea4b155f", func := "tstate/tstatelaw26.GrammarConcats", spec := "grammarConcats", unfollowed := true, recurses := true, apart := false, narrowed := true }
def GrammarConcatsUptoSaid : Prop := grammarConcatsUptoRow.holds Try.pinned (OpenSpec.upto grammarConcatsSpec)

/-- 'tstatelaw26.GrammarBuses', WHERE WHAT IT READS IS OF BULK AT MOST 1048576: true; the input reads as it did. -/
def grammarBusesUptoRow : OpenClaim := { program := "ytlgmapcjapofoaa", sum := "6fcb06e3e14394f34e6ab5bb9d918c00f4c87a8b608d4b3f3ed4020cea4b155f", func := "tstate/tstatelaw26.GrammarBuses", spec := "grammarBuses", unfollowed := true, recurses := true, apart := false, narrowed := true }
def GrammarBusesUptoSaid : Prop := grammarBusesUptoRow.holds Try.pinned (OpenSpec.upto grammarBusesSpec)

/-- 'tstatelaw26.GrammarLimits', WHERE WHAT IT READS IS OF BULK AT MOST 1048576: true; the input reads as it did. -/
def grammarLimitsUptoRow : OpenClaim := { program := "ytlgmapcjapofoaa", sum := "6fcb06e3e14394f34e6ab5bb9d918c00f4c87a8b608d4b3f3ed4020cea4b155f", func := "tstate/tstatelaw26.GrammarLimits", spec := "grammarLimits", unfollowed := true, recurses := true, apart := false, narrowed := true }
def GrammarLimitsUptoSaid : Prop := grammarLimitsUptoRow.holds Try.pinned (OpenSpec.upto grammarLimitsSpec)

end Rows
end Go.Proofs.Ytlgmapcjapofoaa
