/-
  Contracts of functions of values that are handed a function last. Conditions: none (definitions and lemmas).
-/
import Derived.Test.YtghoimllhpjkjaaGreatS3Stg
set_option linter.unusedVariables false
set_option linter.unusedSimpArgs false
namespace Go.S3
section
variable {P : Program} {l : List (FuncId × Entry)} {ol : List (Nat × Ora)} {n k : Nat} {f : FuncId} {fn : Func}
end
end Go.S3
