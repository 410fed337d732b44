/-
  No cell of these rows narrows 'for every input' (looked for: loops, veiled, ifaces, maps, wideKeys, modest, calm, conditions, laid).
  DERIVED. THE GIVEN ROWS OF THIS SEAT. 10 by the template 'for every input the law returns true; each argument reads behind the call as it read before'; 0 by the template 'total and deterministic' (their statements: YtiflfdlglncjlaaTotals.lean).
  GIVEN WITH THE SEED: the statements are not yours to turn. If you find one false, say at which input.
  Laid BY PROGRAM, IN A SANDBOX (cutbox-rows.mjs): the forced cells as the released guide's own fill.sh prints them over the translation 145ceadb5e8b4377… (all of the seat's roots in one cut). By AI agents, Wed Nov 11 2026. No macro, syntax, notation, axiom, sorry.
-/
import Derived.Test.YtiflfdlglncjlaaChecked
import GoSem.Claim
import GoSem.ClaimJoined
import GoSem.ClaimMapViews
import Derived.JoinedTies
import Derived.KernelRfl
namespace Go.Proofs.Ytiflfdlglncjlaa
/- THE CELL 'sum', in the pinned program and in every row, IS THE sha256 OF THE DUMP (.gsa) THAT YtiflfdlglncjlaaProg.lean LOADS. Nothing in Lean hashes anything: it is a label: what it is worth is what the hold of that sum in a sandbox is worth. -/
noncomputable def Try.pinned : Pinned := { name := "ytiflfdlglncjlaa", sum := "145ceadb5e8b43779d9527422e4ef060af7aec0594d74182a2a1b32b83f2469f", checked := Try.checked }
namespace Rows
def none {H : Type} : Left H := { results := [], args := [] }

/-- 'tstatelaw17.CyclesKinds': WHATEVER THE INPUT: true; the input reads as it did. -/
def cyclesKindsSpec : ChangeSpec := { name := "cyclesKinds", fn := fun _ => fun
  | [d1, d2, d3] => { results := [.lit (.bool true)], args := [d1, d2, d3] }
  | _ => none }
def cyclesKindsRow : OpenClaim := { program := "ytiflfdlglncjlaa", sum := "145ceadb5e8b43779d9527422e4ef060af7aec0594d74182a2a1b32b83f2469f", func := "tstate/tstatelaw17.CyclesKinds", spec := "cyclesKinds", apart := false }
def CyclesKindsSaid : Prop := cyclesKindsRow.holds Try.pinned (OpenSpec.ofChange cyclesKindsSpec)

/-- ITS FALSE NEIGHBOUR: 'it returns false'. Refute it at one input. -/
def cyclesKindsWrong : ChangeSpec := { name := "cyclesKinds", fn := fun _ => fun
  | [d1, d2, d3] => { results := [.lit (.bool false)], args := [d1, d2, d3] }
  | _ => none }
def CyclesKindsWrongFalsely : Prop := cyclesKindsRow.holds Try.pinned (OpenSpec.ofChange cyclesKindsWrong)

/-- 'tstatelaw17.CyclesTotals': WHATEVER THE INPUT: true; the input reads as it did. -/
def cyclesTotalsSpec : ChangeSpec := { name := "cyclesTotals", fn := fun _ => fun
  | [d1, d2, d3] => { results := [.lit (.bool true)], args := [d1, d2, d3] }
  | _ => none }
def cyclesTotalsRow : OpenClaim := { program := "ytiflfdlglncjlaa", sum := "145ceadb5e8b43779d9527422e4ef060af7aec0594d74182a2a1b32b83f2469f", func := "tstate/tstatelaw17.CyclesTotals", spec := "cyclesTotals", apart := false }
def CyclesTotalsSaid : Prop := cyclesTotalsRow.holds Try.pinned (OpenSpec.ofChange cyclesTotalsSpec)

/-- ITS FALSE NEIGHBOUR: 'it returns false'. Refute it at one input. -/
def cyclesTotalsWrong : ChangeSpec := { name := "cyclesTotals", fn := fun _ => fun
  | [d1, d2, d3] => { results := [.lit (.bool false)], args := [d1, d2, d3] }
  | _ => none }
def CyclesTotalsWrongFalsely : Prop := cyclesTotalsRow.holds Try.pinned (OpenSpec.ofChange cyclesTotalsWrong)

/-- 'tstatelaw17.CyclesSums': WHATEVER THE INPUT: true; the input reads as it did. -/
def cyclesSumsSpec : ChangeSpec := { name := "cyclesSums", fn := fun _ => fun
  | [d1, d2, d3] => { results := [.lit (.bool true)], args := [d1, d2, d3] }
  | _ => none }
def cyclesSumsRow : OpenClaim := { program := "ytiflfdlglncjlaa", sum := "145ceadb5e8b43779d9527422e4ef060af7aec0594d74182a2a1b32b83f2469f", func := "tstate/tstatelaw17.CyclesSums", spec := "cyclesSums", apart := false }
def CyclesSumsSaid : Prop := cyclesSumsRow.holds Try.pinned (OpenSpec.ofChange cyclesSumsSpec)

/-- ITS FALSE NEIGHBOUR: 'it returns false'. Refute it at one input. -/
def cyclesSumsWrong : ChangeSpec := { name := "cyclesSums", fn := fun _ => fun
  | [d1, d2, d3] => { results := [.lit (.bool false)], args := [d1, d2, d3] }
  | _ => none }
def CyclesSumsWrongFalsely : Prop := cyclesSumsRow.holds Try.pinned (OpenSpec.ofChange cyclesSumsWrong)

/-- 'tstatelaw17.CyclesMicro': WHATEVER THE INPUT: true; the input reads as it did. -/
def cyclesMicroSpec : ChangeSpec := { name := "cyclesMicro", fn := fun _ => fun
  | [d1, d2] => { results := [.lit (.bool true)], args := [d1, d2] }
  | _ => none }
def cyclesMicroRow : OpenClaim := { program := "ytiflfdlglncjlaa", sum := "145ceadb5e8b43779d9527422e4ef060af7aec0594d74182a2a1b32b83f2469f", func := "tstate/tstatelaw17.CyclesMicro", spec := "cyclesMicro", apart := false }
def CyclesMicroSaid : Prop := cyclesMicroRow.holds Try.pinned (OpenSpec.ofChange cyclesMicroSpec)

/-- ITS FALSE NEIGHBOUR: 'it returns false'. Refute it at one input. -/
def cyclesMicroWrong : ChangeSpec := { name := "cyclesMicro", fn := fun _ => fun
  | [d1, d2] => { results := [.lit (.bool false)], args := [d1, d2] }
  | _ => none }
def CyclesMicroWrongFalsely : Prop := cyclesMicroRow.holds Try.pinned (OpenSpec.ofChange cyclesMicroWrong)

/-- 'tstatelaw17.CyclesTaken': WHATEVER THE INPUT: true; the input reads as it did. -/
def cyclesTakenSpec : ChangeSpec := { name := "cyclesTaken", fn := fun _ => fun
  | [d1, d2] => { results := [.lit (.bool true)], args := [d1, d2] }
  | _ => none }
def cyclesTakenRow : OpenClaim := { program := "ytiflfdlglncjlaa", sum := "145ceadb5e8b43779d9527422e4ef060af7aec0594d74182a2a1b32b83f2469f", func := "tstate/tstatelaw17.CyclesTaken", spec := "cyclesTaken", apart := false }
def CyclesTakenSaid : Prop := cyclesTakenRow.holds Try.pinned (OpenSpec.ofChange cyclesTakenSpec)

/-- ITS FALSE NEIGHBOUR: 'it returns false'. Refute it at one input. -/
def cyclesTakenWrong : ChangeSpec := { name := "cyclesTaken", fn := fun _ => fun
  | [d1, d2] => { results := [.lit (.bool false)], args := [d1, d2] }
  | _ => none }
def CyclesTakenWrongFalsely : Prop := cyclesTakenRow.holds Try.pinned (OpenSpec.ofChange cyclesTakenWrong)

/-- 'tstatelaw16.MicroFirst': WHATEVER THE INPUT: true; the input reads as it did. -/
def microFirstSpec : ChangeSpec := { name := "microFirst", fn := fun _ => fun
  | [d1, d2] => { results := [.lit (.bool true)], args := [d1, d2] }
  | _ => none }
def microFirstRow : OpenClaim := { program := "ytiflfdlglncjlaa", sum := "145ceadb5e8b43779d9527422e4ef060af7aec0594d74182a2a1b32b83f2469f", func := "tstate/tstatelaw16.MicroFirst", spec := "microFirst", unfollowed := true, recurses := true, apart := false }
def MicroFirstSaid : Prop := microFirstRow.holds Try.pinned (OpenSpec.ofChange microFirstSpec)

/-- ITS FALSE NEIGHBOUR: 'it returns false'. Refute it at one input. -/
def microFirstWrong : ChangeSpec := { name := "microFirst", fn := fun _ => fun
  | [d1, d2] => { results := [.lit (.bool false)], args := [d1, d2] }
  | _ => none }
def MicroFirstWrongFalsely : Prop := microFirstRow.holds Try.pinned (OpenSpec.ofChange microFirstWrong)

/-- 'tstatelaw16.MicroEnds': WHATEVER THE INPUT: true; the input reads as it did. -/
def microEndsSpec : ChangeSpec := { name := "microEnds", fn := fun _ => fun
  | [d1, d2] => { results := [.lit (.bool true)], args := [d1, d2] }
  | _ => none }
def microEndsRow : OpenClaim := { program := "ytiflfdlglncjlaa", sum := "145ceadb5e8b43779d9527422e4ef060af7aec0594d74182a2a1b32b83f2469f", func := "tstate/tstatelaw16.MicroEnds", spec := "microEnds", unfollowed := true, recurses := true, apart := false }
def MicroEndsSaid : Prop := microEndsRow.holds Try.pinned (OpenSpec.ofChange microEndsSpec)

/-- ITS FALSE NEIGHBOUR: 'it returns false'. Refute it at one input. -/
def microEndsWrong : ChangeSpec := { name := "microEnds", fn := fun _ => fun
  | [d1, d2] => { results := [.lit (.bool false)], args := [d1, d2] }
  | _ => none }
def MicroEndsWrongFalsely : Prop := microEndsRow.holds Try.pinned (OpenSpec.ofChange microEndsWrong)

/-- 'tstatelaw16.MicroInjected': WHATEVER THE INPUT: true; the input reads as it did. -/
def microInjectedSpec : ChangeSpec := { name := "microInjected", fn := fun _ => fun
  | [d1, d2, d3] => { results := [.lit (.bool true)], args := [d1, d2, d3] }
  | _ => none }
def microInjectedRow : OpenClaim := { program := "ytiflfdlglncjlaa", sum := "145ceadb5e8b43779d9527422e4ef060af7aec0594d74182a2a1b32b83f2469f", func := "tstate/tstatelaw16.MicroInjected", spec := "microInjected", unfollowed := true, recurses := true, apart := false }
def MicroInjectedSaid : Prop := microInjectedRow.holds Try.pinned (OpenSpec.ofChange microInjectedSpec)

/-- ITS FALSE NEIGHBOUR: 'it returns false'. Refute it at one input. -/
def microInjectedWrong : ChangeSpec := { name := "microInjected", fn := fun _ => fun
  | [d1, d2, d3] => { results := [.lit (.bool false)], args := [d1, d2, d3] }
  | _ => none }
def MicroInjectedWrongFalsely : Prop := microInjectedRow.holds Try.pinned (OpenSpec.ofChange microInjectedWrong)

/-- 'tstatelaw16.MicroStacks': WHATEVER THE INPUT: true; the input reads as it did. -/
def microStacksSpec : ChangeSpec := { name := "microStacks", fn := fun _ => fun
  | [d1, d2, d3] => { results := [.lit (.bool true)], args := [d1, d2, d3] }
  | _ => none }
def microStacksRow : OpenClaim := { program := "ytiflfdlglncjlaa", sum := "145ceadb5e8b43779d9527422e4ef060af7aec0594d74182a2a1b32b83f2469f", func := "tstate/tstatelaw16.MicroStacks", spec := "microStacks", unfollowed := true, recurses := true, apart := false }
def MicroStacksSaid : Prop := microStacksRow.holds Try.pinned (OpenSpec.ofChange microStacksSpec)

/-- ITS FALSE NEIGHBOUR: 'it returns false'. Refute it at one input. -/
def microStacksWrong : ChangeSpec := { name := "microStacks", fn := fun _ => fun
  | [d1, d2, d3] => { results := [.lit (.bool false)], args := [d1, d2, d3] }
  | _ => none }
def MicroStacksWrongFalsely : Prop := microStacksRow.holds Try.pinned (OpenSpec.ofChange microStacksWrong)

/-- 'tstatelaw16.MicroKeeps': WHATEVER THE INPUT: true; the input reads as it did. -/
def microKeepsSpec : ChangeSpec := { name := "microKeeps", fn := fun _ => fun
  | [d1, d2, d3] => { results := [.lit (.bool true)], args := [d1, d2, d3] }
  | _ => none }
def microKeepsRow : OpenClaim := { program := "ytiflfdlglncjlaa", sum := "145ceadb5e8b43779d9527422e4ef060af7aec0594d74182a2a1b32b83f2469f", func := "tstate/tstatelaw16.MicroKeeps", spec := "microKeeps", unfollowed := true, recurses := true, apart := false }
def MicroKeepsSaid : Prop := microKeepsRow.holds Try.pinned (OpenSpec.ofChange microKeepsSpec)

/-- ITS FALSE NEIGHBOUR: 'it returns false'. Refute it at one input. -/
def microKeepsWrong : ChangeSpec := { name := "microKeeps", fn := fun _ => fun
  | [d1, d2, d3] => { results := [.lit (.bool false)], args := [d1, d2, d3] }
  | _ => none }
def MicroKeepsWrongFalsely : Prop := microKeepsRow.holds Try.pinned (OpenSpec.ofChange microKeepsWrong)

/- THE SECOND FORM. 'bulk': how many values and letters a reading holds, each counted each time it is reached (what is shared counts as often as it is met; a slice's spare places count too). A statement '..UptoSaid' is the law's where the arguments, and the package variables that the reading takes, are together of bulk at most 1048576: NARROWER than '..Said'. Prove '..Said' where nothing that the law and all that it calls make is longer than what came in: it says more and counts as full. Else prove '..UptoSaid'. A law counts once. -/
mutual
def uptoBulk {H : Type} : DataW H → Nat
  | .lit (.string bytes) => bytes.length + 1
  | .lit _ => 1
  | .nil => 1
  | .ptr d => uptoBulk d + 1
  | .slice elems spare => uptoBulkAll elems + uptoBulkAll spare + 1
  | .agg parts => uptoBulkAll parts + 1
  | .iface _ d => uptoBulk d + 1
  | .map entries => uptoBulkEntries entries + 1
  | .held _ => 1
def uptoBulkAll {H : Type} : List (DataW H) → Nat
  | [] => 0
  | d :: r => uptoBulk d + uptoBulkAll r
def uptoBulkEntries {H : Type} : List (Lit × DataW H) → Nat
  | [] => 0
  | x :: r => uptoBulkEntry x + uptoBulkEntries r
def uptoBulkEntry {H : Type} : Lit × DataW H → Nat
  | (.string bytes, d) => bytes.length + uptoBulk d + 1
  | (_, d) => uptoBulk d + 1
 end
def uptoSmall : (H : Type) → List (DataW H) → Bool := fun _ ds => decide (uptoBulkAll ds ≤ 1048576)
def OpenSpec.upto (s : _root_.Go.ChangeSpec) : _root_.Go.OpenSpec := { _root_.Go.OpenSpec.ofChange s with cond := some uptoSmall }

/-- 'tstatelaw17.CyclesKinds', WHERE WHAT IT READS IS OF BULK AT MOST 1048576: true; the input reads as it did. -/
def cyclesKindsUptoRow : OpenClaim := { program := "ytiflfdlglncjlaa", sum := "145ceadb5e8b43779d9527422e4ef060af7aec0594d74182a2a1b32b83f2469f", func := "tstate/tstatelaw17.CyclesKinds", spec := "cyclesKinds", apart := false, narrowed := true }
def CyclesKindsUptoSaid : Prop := cyclesKindsUptoRow.holds Try.pinned (OpenSpec.upto cyclesKindsSpec)

/-- 'tstatelaw17.CyclesTotals', WHERE WHAT IT READS IS OF BULK AT MOST 1048576: true; the input reads as it did. -/
def cyclesTotalsUptoRow : OpenClaim := { program := "ytiflfdlglncjlaa", sum := "145ceadb5e8b43779d9527422e4ef060af7aec0594d74182a2a1b32b83f2469f", func := "tstate/tstatelaw17.CyclesTotals", spec := "cyclesTotals", apart := false, narrowed := true }
def CyclesTotalsUptoSaid : Prop := cyclesTotalsUptoRow.holds Try.pinned (OpenSpec.upto cyclesTotalsSpec)

/-- 'tstatelaw17.CyclesSums', WHERE WHAT IT READS IS OF BULK AT MOST 1048576: true; the input reads as it did. -/
def cyclesSumsUptoRow : OpenClaim := { program := "ytiflfdlglncjlaa", sum := "145ceadb5e8b43779d9527422e4ef060af7aec0594d74182a2a1b32b83f2469f", func := "tstate/tstatelaw17.CyclesSums", spec := "cyclesSums", apart := false, narrowed := true }
def CyclesSumsUptoSaid : Prop := cyclesSumsUptoRow.holds Try.pinned (OpenSpec.upto cyclesSumsSpec)

/-- 'tstatelaw17.CyclesMicro', WHERE WHAT IT READS IS OF BULK AT MOST 1048576: true; the input reads as it did. -/
def cyclesMicroUptoRow : OpenClaim := { program := "ytiflfdlglncjlaa", sum := "145ceadb5e8b43779d9527422e4ef060af7aec0594d74182a2a1b32b83f2469f", func := "tstate/tstatelaw17.CyclesMicro", spec := "cyclesMicro", apart := false, narrowed := true }
def CyclesMicroUptoSaid : Prop := cyclesMicroUptoRow.holds Try.pinned (OpenSpec.upto cyclesMicroSpec)

/-- 'tstatelaw17.CyclesTaken', WHERE WHAT IT READS IS OF BULK AT MOST 1048576: true; the input reads as it did. -/
def cyclesTakenUptoRow : OpenClaim := { program := "ytiflfdlglncjlaa", sum := "145ceadb5e8b43779d9527422e4ef060af7aec0594d74182a2a1b32b83f2469f", func := "tstate/tstatelaw17.CyclesTaken", spec := "cyclesTaken", apart := false, narrowed := true }
def CyclesTakenUptoSaid : Prop := cyclesTakenUptoRow.holds Try.pinned (OpenSpec.upto cyclesTakenSpec)

/-- 'tstatelaw16.MicroFirst', WHERE WHAT IT READS IS OF BULK AT MOST 1048576: true; the input reads as it did. -/
def microFirstUptoRow : OpenClaim := { program := "ytiflfdlglncjlaa", sum := "145ceadb5e8b43779d9527422e4ef060af7aec0594d74182a2a1b32b83f2469f", func := "tstate/tstatelaw16.MicroFirst", spec := "microFirst", unfollowed := true, recurses := true, apart := false, narrowed := true }
def MicroFirstUptoSaid : Prop := microFirstUptoRow.holds Try.pinned (OpenSpec.upto microFirstSpec)

/-- 'tstatelaw16.MicroEnds', WHERE WHAT IT READS IS OF BULK AT MOST 1048576: true; the input reads as it did. -/
def microEndsUptoRow : OpenClaim := { program := "ytiflfdlglncjlaa", sum := "145ceadb5e8b43779d9527422e4ef060af7aec0594d74182a2a1b32b83f2469f", func := "tstate/tstatelaw16.MicroEnds", spec := "microEnds", unfollowed := true, recurses := true, apart := false, narrowed := true }
def MicroEndsUptoSaid : Prop := microEndsUptoRow.holds Try.pinned (OpenSpec.upto microEndsSpec)

/-- 'tstatelaw16.MicroInjected', WHERE WHAT IT READS IS OF BULK AT MOST 1048576: true; the input reads as it did. -/
def microInjectedUptoRow : OpenClaim := { program := "ytiflfdlglncjlaa", sum := "145ceadb5e8b43779d9527422e4ef060af7aec0594d74182a2a1b32b83f2469f", func := "tstate/tstatelaw16.MicroInjected", spec := "microInjected", unfollowed := true, recurses := true, apart := false, narrowed := true }
def MicroInjectedUptoSaid : Prop := microInjectedUptoRow.holds Try.pinned (OpenSpec.upto microInjectedSpec)

/-- 'tstatelaw16.MicroStacks', WHERE WHAT IT READS IS OF BULK AT MOST 1048576: true; the input reads as it did. -/
def microStacksUptoRow : OpenClaim := { program := "ytiflfdlglncjlaa", sum := "145ceadb5e8b43779d9527422e4ef060af7aec0594d74182a2a1b32b83f2469f", func := "tstate/tstatelaw16.MicroStacks", spec := "microStacks", unfollowed := true, recurses := true, apart := false, narrowed := true }
def MicroStacksUptoSaid : Prop := microStacksUptoRow.holds Try.pinned (OpenSpec.upto microStacksSpec)

/-- 'tstatelaw16.MicroKeeps', WHERE WHAT IT READS IS OF BULK AT MOST 1048576: true; the input reads as it did. -/
def microKeepsUptoRow : OpenClaim := { program := "ytiflfdlglncjlaa", sum := "145ceadb5e8b43779d9527422e4ef060af7aec0594d74182a2a1b32b83f2469f", func := "tstate/tstatelaw16.MicroKeeps", spec := "microKeeps", unfollowed := true, recurses := true, apart := false, narrowed := true }
def MicroKeepsUptoSaid : Prop := microKeepsUptoRow.holds Try.pinned (OpenSpec.upto microKeepsSpec)

end Rows
end Go.Proofs.Ytiflfdlglncjlaa
