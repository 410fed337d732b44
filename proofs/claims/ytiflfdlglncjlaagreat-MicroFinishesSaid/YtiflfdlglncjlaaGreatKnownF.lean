/-
  The fixed example. Conditions: none.
-/
import Derived.Test.YtiflfdlglncjlaaGreatLawZkF
import Derived.Test.YtiflfdlglncjlaaGreatS3D
open Go Go.S3 Go.Proofs
set_option linter.unusedVariables false
set_option linter.unusedSimpArgs false
set_option maxRecDepth 100000
namespace Go.Proofs.YtiflfdlglncjlaaGreat
noncomputable section
theorem kKnown_at (a : HL kKnownTs) : ∃ l, AllOk Tryz.prog l ∧ (evVal (envX Tryz.prog l [] 127 8) Tryz.f5 kKnownTs kKnownRs a).val = some true := by
  refine ⟨kKnownL 25, kKnownL_ok 25, ?_⟩
  rw [kKnown_25_ev a]
  kernel_rfl
def kKnownE : Entry := pureE kKnownTs kKnownRs (fun _ => none) (fun _ => true)
theorem kKnown_ok : EntryOk Tryz.prog 5 kKnownE := pure_any Tryz.func5 rfl (by kernel_rfl) Tryz.call5 fun a _ _ => kKnown_at a
end
end Go.Proofs.YtiflfdlglncjlaaGreat
