/-
  Functions that make a slice of the caller's anew, in place or in a new block. Conditions: none (lemmas).
-/
import Derived.Test.YtghoimllhpjkjaaGreatS3Stg
import Derived.Laws.CopyRow
import Derived.Laws.IdiomCopy
import Derived.Laws.AppendOwn
set_option linter.unusedVariables false
set_option linter.unusedSimpArgs false
namespace Go.S3
variable {P : Program}
end Go.S3
