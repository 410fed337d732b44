/-
  The fixed example. Conditions: none.
-/
import Derived.Test.YtiflfdlglncjlaaGreatLawZkN
import Derived.Test.YtiflfdlglncjlaaGreatS3D
open Go Go.S3 Go.Proofs
set_option linter.unusedVariables false
set_option linter.unusedSimpArgs false
set_option maxRecDepth 100000
namespace Go.Proofs.YtiflfdlglncjlaaGreat
noncomputable section
theorem kKnownN_at (a : HL kKnownNTs) : ∃ l, AllOk Tryz.prog l ∧ (evVal (envX Tryz.prog l [] 127 8) Tryz.f5 kKnownNTs kKnownNRs a).val = some true := by
  refine ⟨kKnownNL 25, kKnownNL_ok 25, ?_⟩
  rw [kKnownN_25_ev a]
  kernel_rfl
def kKnownNE : Entry := pureE kKnownNTs kKnownNRs (fun _ => none) (fun _ => true)
theorem kKnownN_ok : EntryOk Tryz.prog 5 kKnownNE := pure_any Tryz.func5 rfl (by kernel_rfl) Tryz.call5 fun a _ _ => kKnownN_at a
end
end Go.Proofs.YtiflfdlglncjlaaGreat
