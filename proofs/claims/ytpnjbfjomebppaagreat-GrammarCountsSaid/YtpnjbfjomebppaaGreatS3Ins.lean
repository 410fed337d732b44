import Derived.Test.YtpnjbfjomebppaaGreatS3Stg
import Derived.Laws.IdiomCopy
set_option linter.unusedVariables false
set_option linter.unusedSimpArgs false
namespace Go.S3
variable {P:Program}
end Go.S3
