/-
  No cell of these rows narrows 'for every input' (looked for: loops, veiled, ifaces, maps, wideKeys, modest, calm, conditions, laid).
  DERIVED. THE GIVEN ROWS OF THIS SEAT. 10 by the template 'for every input the law returns true; each argument reads behind the call as it read before'; 0 by the template 'total and deterministic' (their statements: YtfejikddclgkcaaTotals.lean).
  GIVEN WITH THE SEED: the statements are not yours to turn. If you find one false, say at which input.
  Laid BY PROGRAM, IN A SANDBOX (cutbox-rows.mjs): the forced cells as the released guide's own fill.sh prints them over the translation 3f620bb02dd28be8… (all of the seat's roots in one cut). By AI agents, Wed Nov 11 2026. No macro, syntax, notation, axiom, sorry.
-/
import Derived.Test.YtfejikddclgkcaaChecked
import GoSem.Claim
import GoSem.ClaimJoined
import GoSem.ClaimMapViews
import Derived.JoinedTies
import Derived.KernelRfl
namespace Go.Proofs.Ytfejikddclgkcaa
/- THE CELL 'sum', in the pinned program and in every row, IS THE sha256 OF THE DUMP (.gsa) THAT YtfejikddclgkcaaProg.lean LOADS. Nothing in Lean hashes anything: it is a label: what it is worth is what the hold of that sum in a sandbox is worth. -/
noncomputable def Try.pinned : Pinned := { name := "ytfejikddclgkcaa", sum := "3f620bb02dd28be870c4ab69a61e6d359872a53f0347707d119a30aeac8d5548", checked := Try.checked }
namespace Rows
def none {H : Type} : Left H := { results := [], args := [] }

/-- 'tstatelaw12.MemoryValidates': WHATEVER THE INPUT: true; the input reads as it did. -/
def memoryValidatesSpec : ChangeSpec := { name := "memoryValidates", fn := fun _ => fun
  | [d1, d2, d3] => { results := [.lit (.bool true)], args := [d1, d2, d3] }
  | _ => none }
def memoryValidatesRow : OpenClaim := { program := "ytfejikddclgkcaa", sum := "3f620bb02dd28be870c4ab69a61e6d359872a53f0347707d119a30aeac8d5548", func := "tstate/tstatelaw12.MemoryValidates", spec := "memoryValidates", inPlace := ["slices.overlaps[tstate/api.Cell]"], unfollowed := true, recurses := true, apart := false }
def MemoryValidatesSaid : Prop := memoryValidatesRow.holds Try.pinned (OpenSpec.ofChange memoryValidatesSpec)

/-- ITS FALSE NEIGHBOUR: 'it returns false'. Refute it at one input. -/
def memoryValidatesWrong : ChangeSpec := { name := "memoryValidates", fn := fun _ => fun
  | [d1, d2, d3] => { results := [.lit (.bool false)], args := [d1, d2, d3] }
  | _ => none }
def MemoryValidatesWrongFalsely : Prop := memoryValidatesRow.holds Try.pinned (OpenSpec.ofChange memoryValidatesWrong)

/-- 'tstatelaw12.MemoryNormalizes': WHATEVER THE INPUT: true; the input reads as it did. -/
def memoryNormalizesSpec : ChangeSpec := { name := "memoryNormalizes", fn := fun _ => fun
  | [d1, d2, d3, d4] => { results := [.lit (.bool true)], args := [d1, d2, d3, d4] }
  | _ => none }
def memoryNormalizesRow : OpenClaim := { program := "ytfejikddclgkcaa", sum := "3f620bb02dd28be870c4ab69a61e6d359872a53f0347707d119a30aeac8d5548", func := "tstate/tstatelaw12.MemoryNormalizes", spec := "memoryNormalizes", inPlace := ["slices.overlaps[tstate/api.Cell]"], unfollowed := true, recurses := true, apart := false }
def MemoryNormalizesSaid : Prop := memoryNormalizesRow.holds Try.pinned (OpenSpec.ofChange memoryNormalizesSpec)

/-- ITS FALSE NEIGHBOUR: 'it returns false'. Refute it at one input. -/
def memoryNormalizesWrong : ChangeSpec := { name := "memoryNormalizes", fn := fun _ => fun
  | [d1, d2, d3, d4] => { results := [.lit (.bool false)], args := [d1, d2, d3, d4] }
  | _ => none }
def MemoryNormalizesWrongFalsely : Prop := memoryNormalizesRow.holds Try.pinned (OpenSpec.ofChange memoryNormalizesWrong)

/-- 'tstatelaw12.MemoryLoads': WHATEVER THE INPUT: true; the input reads as it did. -/
def memoryLoadsSpec : ChangeSpec := { name := "memoryLoads", fn := fun _ => fun
  | [d1, d2] => { results := [.lit (.bool true)], args := [d1, d2] }
  | _ => none }
def memoryLoadsRow : OpenClaim := { program := "ytfejikddclgkcaa", sum := "3f620bb02dd28be870c4ab69a61e6d359872a53f0347707d119a30aeac8d5548", func := "tstate/tstatelaw12.MemoryLoads", spec := "memoryLoads", inPlace := ["slices.overlaps[tstate/api.Cell]"], unfollowed := true, recurses := true, apart := false }
def MemoryLoadsSaid : Prop := memoryLoadsRow.holds Try.pinned (OpenSpec.ofChange memoryLoadsSpec)

/-- ITS FALSE NEIGHBOUR: 'it returns false'. Refute it at one input. -/
def memoryLoadsWrong : ChangeSpec := { name := "memoryLoads", fn := fun _ => fun
  | [d1, d2] => { results := [.lit (.bool false)], args := [d1, d2] }
  | _ => none }
def MemoryLoadsWrongFalsely : Prop := memoryLoadsRow.holds Try.pinned (OpenSpec.ofChange memoryLoadsWrong)

/-- 'tstatelaw12.MemoryKeeps': WHATEVER THE INPUT: true; the input reads as it did. -/
def memoryKeepsSpec : ChangeSpec := { name := "memoryKeeps", fn := fun _ => fun
  | [d1, d2, d3, d4] => { results := [.lit (.bool true)], args := [d1, d2, d3, d4] }
  | _ => none }
def memoryKeepsRow : OpenClaim := { program := "ytfejikddclgkcaa", sum := "3f620bb02dd28be870c4ab69a61e6d359872a53f0347707d119a30aeac8d5548", func := "tstate/tstatelaw12.MemoryKeeps", spec := "memoryKeeps", inPlace := ["slices.overlaps[tstate/api.Cell]"], unfollowed := true, recurses := true, apart := false }
def MemoryKeepsSaid : Prop := memoryKeepsRow.holds Try.pinned (OpenSpec.ofChange memoryKeepsSpec)

/-- ITS FALSE NEIGHBOUR: 'it returns false'. Refute it at one input. -/
def memoryKeepsWrong : ChangeSpec := { name := "memoryKeeps", fn := fun _ => fun
  | [d1, d2, d3, d4] => { results := [.lit (.bool false)], args := [d1, d2, d3, d4] }
  | _ => none }
def MemoryKeepsWrongFalsely : Prop := memoryKeepsRow.holds Try.pinned (OpenSpec.ofChange memoryKeepsWrong)

/-- 'tstatelaw12.MemoryExchanges': WHATEVER THE INPUT: true; the input reads as it did. -/
def memoryExchangesSpec : ChangeSpec := { name := "memoryExchanges", fn := fun _ => fun
  | [d1, d2, d3, d4, d5] => { results := [.lit (.bool true)], args := [d1, d2, d3, d4, d5] }
  | _ => none }
def memoryExchangesRow : OpenClaim := { program := "ytfejikddclgkcaa", sum := "3f620bb02dd28be870c4ab69a61e6d359872a53f0347707d119a30aeac8d5548", func := "tstate/tstatelaw12.MemoryExchanges", spec := "memoryExchanges", inPlace := ["slices.overlaps[tstate/api.Cell]"], unfollowed := true, recurses := true, apart := false }
def MemoryExchangesSaid : Prop := memoryExchangesRow.holds Try.pinned (OpenSpec.ofChange memoryExchangesSpec)

/-- ITS FALSE NEIGHBOUR: 'it returns false'. Refute it at one input. -/
def memoryExchangesWrong : ChangeSpec := { name := "memoryExchanges", fn := fun _ => fun
  | [d1, d2, d3, d4, d5] => { results := [.lit (.bool false)], args := [d1, d2, d3, d4, d5] }
  | _ => none }
def MemoryExchangesWrongFalsely : Prop := memoryExchangesRow.holds Try.pinned (OpenSpec.ofChange memoryExchangesWrong)

/-- 'tstatelaw13.RegionsReads': WHATEVER THE INPUT: true; the input reads as it did. -/
def regionsReadsSpec : ChangeSpec := { name := "regionsReads", fn := fun _ => fun
  | [d1, d2, d3, d4] => { results := [.lit (.bool true)], args := [d1, d2, d3, d4] }
  | _ => none }
def regionsReadsRow : OpenClaim := { program := "ytfejikddclgkcaa", sum := "3f620bb02dd28be870c4ab69a61e6d359872a53f0347707d119a30aeac8d5548", func := "tstate/tstatelaw13.RegionsReads", spec := "regionsReads", inPlace := ["slices.overlaps[tstate/api.Cell]"], unfollowed := true, recurses := true, apart := false }
def RegionsReadsSaid : Prop := regionsReadsRow.holds Try.pinned (OpenSpec.ofChange regionsReadsSpec)

/-- ITS FALSE NEIGHBOUR: 'it returns false'. Refute it at one input. -/
def regionsReadsWrong : ChangeSpec := { name := "regionsReads", fn := fun _ => fun
  | [d1, d2, d3, d4] => { results := [.lit (.bool false)], args := [d1, d2, d3, d4] }
  | _ => none }
def RegionsReadsWrongFalsely : Prop := regionsReadsRow.holds Try.pinned (OpenSpec.ofChange regionsReadsWrong)

/-- 'tstatelaw13.RegionsWrites': WHATEVER THE INPUT: true; the input reads as it did. -/
def regionsWritesSpec : ChangeSpec := { name := "regionsWrites", fn := fun _ => fun
  | [d1, d2, d3, d4, d5] => { results := [.lit (.bool true)], args := [d1, d2, d3, d4, d5] }
  | _ => none }
def regionsWritesRow : OpenClaim := { program := "ytfejikddclgkcaa", sum := "3f620bb02dd28be870c4ab69a61e6d359872a53f0347707d119a30aeac8d5548", func := "tstate/tstatelaw13.RegionsWrites", spec := "regionsWrites", inPlace := ["slices.overlaps[tstate/api.Cell]"], unfollowed := true, recurses := true, apart := false }
def RegionsWritesSaid : Prop := regionsWritesRow.holds Try.pinned (OpenSpec.ofChange regionsWritesSpec)

/-- ITS FALSE NEIGHBOUR: 'it returns false'. Refute it at one input. -/
def regionsWritesWrong : ChangeSpec := { name := "regionsWrites", fn := fun _ => fun
  | [d1, d2, d3, d4, d5] => { results := [.lit (.bool false)], args := [d1, d2, d3, d4, d5] }
  | _ => none }
def RegionsWritesWrongFalsely : Prop := regionsWritesRow.holds Try.pinned (OpenSpec.ofChange regionsWritesWrong)

/-- 'tstatelaw13.RegionsKeeps': WHATEVER THE INPUT: true; the input reads as it did. -/
def regionsKeepsSpec : ChangeSpec := { name := "regionsKeeps", fn := fun _ => fun
  | [d1, d2, d3] => { results := [.lit (.bool true)], args := [d1, d2, d3] }
  | _ => none }
def regionsKeepsRow : OpenClaim := { program := "ytfejikddclgkcaa", sum := "3f620bb02dd28be870c4ab69a61e6d359872a53f0347707d119a30aeac8d5548", func := "tstate/tstatelaw13.RegionsKeeps", spec := "regionsKeeps", inPlace := ["slices.overlaps[tstate/api.Cell]"], unfollowed := true, recurses := true, apart := false }
def RegionsKeepsSaid : Prop := regionsKeepsRow.holds Try.pinned (OpenSpec.ofChange regionsKeepsSpec)

/-- ITS FALSE NEIGHBOUR: 'it returns false'. Refute it at one input. -/
def regionsKeepsWrong : ChangeSpec := { name := "regionsKeeps", fn := fun _ => fun
  | [d1, d2, d3] => { results := [.lit (.bool false)], args := [d1, d2, d3] }
  | _ => none }
def RegionsKeepsWrongFalsely : Prop := regionsKeepsRow.holds Try.pinned (OpenSpec.ofChange regionsKeepsWrong)

/-- 'tstatelaw13.RegionsCovers': WHATEVER THE INPUT: true; the input reads as it did. -/
def regionsCoversSpec : ChangeSpec := { name := "regionsCovers", fn := fun _ => fun
  | [d1, d2, d3] => { results := [.lit (.bool true)], args := [d1, d2, d3] }
  | _ => none }
def regionsCoversRow : OpenClaim := { program := "ytfejikddclgkcaa", sum := "3f620bb02dd28be870c4ab69a61e6d359872a53f0347707d119a30aeac8d5548", func := "tstate/tstatelaw13.RegionsCovers", spec := "regionsCovers", inPlace := ["slices.overlaps[tstate/api.Cell]"], unfollowed := true, recurses := true, apart := false }
def RegionsCoversSaid : Prop := regionsCoversRow.holds Try.pinned (OpenSpec.ofChange regionsCoversSpec)

/-- ITS FALSE NEIGHBOUR: 'it returns false'. Refute it at one input. -/
def regionsCoversWrong : ChangeSpec := { name := "regionsCovers", fn := fun _ => fun
  | [d1, d2, d3] => { results := [.lit (.bool false)], args := [d1, d2, d3] }
  | _ => none }
def RegionsCoversWrongFalsely : Prop := regionsCoversRow.holds Try.pinned (OpenSpec.ofChange regionsCoversWrong)

/-- 'tstatelaw13.RegionsValidates': WHATEVER THE INPUT: true; the input reads as it did. -/
def regionsValidatesSpec : ChangeSpec := { name := "regionsValidates", fn := fun _ => fun
  | [d1, d2, d3, d4, d5] => { results := [.lit (.bool true)], args := [d1, d2, d3, d4, d5] }
  | _ => none }
def regionsValidatesRow : OpenClaim := { program := "ytfejikddclgkcaa", sum := "3f620bb02dd28be870c4ab69a61e6d359872a53f0347707d119a30aeac8d5548", func := "tstate/tstatelaw13.RegionsValidates", spec := "regionsValidates", inPlace := ["slices.overlaps[tstate/api.Cell]"], unfollowed := true, recurses := true, apart := false }
def RegionsValidatesSaid : Prop := regionsValidatesRow.holds Try.pinned (OpenSpec.ofChange regionsValidatesSpec)

/-- ITS FALSE NEIGHBOUR: 'it returns false'. Refute it at one input. -/
def regionsValidatesWrong : ChangeSpec := { name := "regionsValidates", fn := fun _ => fun
  | [d1, d2, d3, d4, d5] => { results := [.lit (.bool false)], args := [d1, d2, d3, d4, d5] }
  | _ => none }
def RegionsValidatesWrongFalsely : Prop := regionsValidatesRow.holds Try.pinned (OpenSpec.ofChange regionsValidatesWrong)

/- THE SECOND FORM. 'bulk': how many values and letters a reading holds, each counted each time it is reached (what is shared counts as often as it is met; a slice's spare places count too). A statement '..UptoSaid' is the law's where the arguments, and the package variables that the reading takes, are together of bulk at most 1048576: NARROWER than '..Said'. Prove '..Said' where nothing that the law and all that it calls make is longer than what came in: it says more and counts as full. Else prove '..UptoSaid'. A law counts once. -/
mutual
def uptoBulk {H : Type} : DataW H → Nat
  | .lit (.string bytes) => bytes.length + 1
  | .lit _ => 1
  | .nil => 1
  | .ptr d => uptoBulk d + 1
  | .slice elems spare => uptoBulkAll elems + uptoBulkAll spare + 1
  | .agg parts => uptoBulkAll parts + 1
  | .iface _ d => uptoBulk d + 1
  | .map entries => uptoBulkEntries entries + 1
  | .held _ => 1
def uptoBulkAll {H : Type} : List (DataW H) → Nat
  | [] => 0
  | d :: r => uptoBulk d + uptoBulkAll r
def uptoBulkEntries {H : Type} : List (Lit × DataW H) → Nat
  | [] => 0
  | x :: r => uptoBulkEntry x + uptoBulkEntries r
def uptoBulkEntry {H : Type} : Lit × DataW H → Nat
  | (.string bytes, d) => bytes.length + uptoBulk d + 1
  | (_, d) => uptoBulk d + 1
 end
def uptoSmall : (H : Type) → List (DataW H) → Bool := fun _ ds => decide (uptoBulkAll ds ≤ 1048576)
def OpenSpec.upto (s : _root_.Go.ChangeSpec) : _root_.Go.OpenSpec := { _root_.Go.OpenSpec.ofChange s with cond := some uptoSmall }

/-- 'tstatelaw12.MemoryValidates', WHERE WHAT IT READS IS OF BULK AT MOST 1048576: true; the input reads as it did. -/
def memoryValidatesUptoRow : OpenClaim := { program := "ytfejikddclgkcaa", sum := "3f620bb02dd28be870c4ab69a61e6d359872a53f0347707d119a30aeac8d5548", func := "tstate/tstatelaw12.MemoryValidates", spec := "memoryValidates", inPlace := ["slices.overlaps[tstate/api.Cell]"], unfollowed := true, recurses := true, apart := false, narrowed := true }
def MemoryValidatesUptoSaid : Prop := memoryValidatesUptoRow.holds Try.pinned (OpenSpec.upto memoryValidatesSpec)

/-- 'tstatelaw12.MemoryNormalizes', WHERE WHAT IT READS IS OF BULK AT MOST 1048576: true; the input reads as it did. -/
def memoryNormalizesUptoRow : OpenClaim := { program := "ytfejikddclgkcaa", sum := "3f620bb02dd28be870c4ab69a61e6d359872a53f0347707d119a30aeac8d5548", func := "tstate/tstatelaw12.MemoryNormalizes", spec := "memoryNormalizes", inPlace := ["slices.overlaps[tstate/api.Cell]"], unfollowed := true, recurses := true, apart := false, narrowed := true }
def MemoryNormalizesUptoSaid : Prop := memoryNormalizesUptoRow.holds Try.pinned (OpenSpec.upto memoryNormalizesSpec)

/-- 'tstatelaw12.MemoryLoads', WHERE WHAT IT READS IS OF BULK AT MOST 1048576: true; the input reads as it did. -/
def memoryLoadsUptoRow : OpenClaim := { program := "ytfejikddclgkcaa", sum := "3f620bb02dd28be870c4ab69a61e6d359872a53f0347707d119a30aeac8d5548", func := "tstate/tstatelaw12.MemoryLoads", spec := "memoryLoads", inPlace := ["slices.overlaps[tstate/api.Cell]"], unfollowed := true, recurses := true, apart := false, narrowed := true }
def MemoryLoadsUptoSaid : Prop := memoryLoadsUptoRow.holds Try.pinned (OpenSpec.upto memoryLoadsSpec)

/-- 'tstatelaw12.MemoryKeeps', WHERE WHAT IT READS IS OF BULK AT MOST 1048576: true; the input reads as it did. -/
def memoryKeepsUptoRow : OpenClaim := { program := "ytfejikddclgkcaa", sum := "3f620bb02dd28be870c4ab69a61e6d359872a53f0347707d119a30aeac8d5548", func := "tstate/tstatelaw12.MemoryKeeps", spec := "memoryKeeps", inPlace := ["slices.overlaps[tstate/api.Cell]"], unfollowed := true, recurses := true, apart := false, narrowed := true }
def MemoryKeepsUptoSaid : Prop := memoryKeepsUptoRow.holds Try.pinned (OpenSpec.upto memoryKeepsSpec)

/-- 'tstatelaw12.MemoryExchanges', WHERE WHAT IT READS IS OF BULK AT MOST 1048576: true; the input reads as it did. -/
def memoryExchangesUptoRow : OpenClaim := { program := "ytfejikddclgkcaa", sum := "3f620bb02dd28be870c4ab69a61e6d359872a53f0347707d119a30aeac8d5548", func := "tstate/tstatelaw12.MemoryExchanges", spec := "memoryExchanges", inPlace := ["slices.overlaps[tstate/api.Cell]"], unfollowed := true, recurses := true, apart := false, narrowed := true }
def MemoryExchangesUptoSaid : Prop := memoryExchangesUptoRow.holds Try.pinned (OpenSpec.upto memoryExchangesSpec)

/-- 'tstatelaw13.RegionsReads', WHERE WHAT IT READS IS OF BULK AT MOST 1048576: true; the input reads as it did. -/
def regionsReadsUptoRow : OpenClaim := { program := "ytfejikddclgkcaa", sum := "3f620bb02dd28be870c4ab69a61e6d359872a53f0347707d119a30aeac8d5548", func := "tstate/tstatelaw13.RegionsReads", spec := "regionsReads", inPlace := ["slices.overlaps[tstate/api.Cell]"], unfollowed := true, recurses := true, apart := false, narrowed := true }
def RegionsReadsUptoSaid : Prop := regionsReadsUptoRow.holds Try.pinned (OpenSpec.upto regionsReadsSpec)

/-- 'tstatelaw13.RegionsWrites', WHERE WHAT IT READS IS OF BULK AT MOST 1048576: true; the input reads as it did. -/
def regionsWritesUptoRow : OpenClaim := { program := "ytfejikddclgkcaa", sum := "3f620bb02dd28be870c4ab69a61e6d359872a53f0347707d119a30aeac8d5548", func := "tstate/tstatelaw13.RegionsWrites", spec := "regionsWrites", inPlace := ["slices.overlaps[tstate/api.Cell]"], unfollowed := true, recurses := true, apart := false, narrowed := true }
def RegionsWritesUptoSaid : Prop := regionsWritesUptoRow.holds Try.pinned (OpenSpec.upto regionsWritesSpec)

/-- 'tstatelaw13.RegionsKeeps', WHERE WHAT IT READS IS OF BULK AT MOST 1048576: true; the input reads as it did. -/
def regionsKeepsUptoRow : OpenClaim := { program := "ytfejikddclgkcaa", sum := "3f620bb02dd28be870c4ab69a61e6d359872a53f0347707d119a30aeac8d5548", func := "tstate/tstatelaw13.RegionsKeeps", spec := "regionsKeeps", inPlace := ["slices.overlaps[tstate/api.Cell]"], unfollowed := true, recurses := true, apart := false, narrowed := true }
def RegionsKeepsUptoSaid : Prop := regionsKeepsUptoRow.holds Try.pinned (OpenSpec.upto regionsKeepsSpec)

/-- 'tstatelaw13.RegionsCovers', WHERE WHAT IT READS IS OF BULK AT MOST 1048576: true; the input reads as it did. -/
def regionsCoversUptoRow : OpenClaim := { program := "ytfejikddclgkcaa", sum := "3f620bb02dd28be870c4ab69a61e6d359872a53f0347707d119a30aeac8d5548", func := "tstate/tstatelaw13.RegionsCovers", spec := "regionsCovers", inPlace := ["slices.overlaps[tstate/api.Cell]"], unfollowed := true, recurses := true, apart := false, narrowed := true }
def RegionsCoversUptoSaid : Prop := regionsCoversUptoRow.holds Try.pinned (OpenSpec.upto regionsCoversSpec)

/-- 'tstatelaw13.RegionsValidates', WHERE WHAT IT READS IS OF BULK AT MOST 1048576: true; the input reads as it did. -/
def regionsValidatesUptoRow : OpenClaim := { program := "ytfejikddclgkcaa", sum := "3f620bb02dd28be870c4ab69a61e6d359872a53f0347707d119a30aeac8d5548", func := "tstate/tstatelaw13.RegionsValidates", spec := "regionsValidates", inPlace := ["slices.overlaps[tstate/api.Cell]"], unfollowed := true, recurses := true, apart := false, narrowed := true }
def RegionsValidatesUptoSaid : Prop := regionsValidatesUptoRow.holds Try.pinned (OpenSpec.upto regionsValidatesSpec)

end Rows
end Go.Proofs.Ytfejikddclgkcaa
