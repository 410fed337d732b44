/-
  The law of the state behind an instruction, as a plain function: always true. Conditions: none.
-/
import Derived.Test.YtiflfdlglncjlaaGreatLawZf
import Derived.Test.YtiflfdlglncjlaaGreatOpZ
open Go Go.S3 Go.Proofs
set_option linter.unusedVariables false
set_option linter.unusedSimpArgs false
set_option maxRecDepth 100000
namespace Go.Proofs.YtiflfdlglncjlaaGreat
noncomputable section
theorem fin_law (c s g l n op) : lMFinC c s g l n op = true ∧ lMFin c s g l n op = true := by
  have c1 := (operate_ok n op).1
  have e : (lMFinT c s g l n op).val = some true := by
    simp only [lMFinT, RT.val, c1]
    cases (decide (iN (List.length g) > 40) || decide (iN (List.length n) > 80)) <;> simp
  exact ⟨by simp only [lMFinC, e]; rfl, by simp only [lMFin, e, getO]⟩
end
end Go.Proofs.YtiflfdlglncjlaaGreat
