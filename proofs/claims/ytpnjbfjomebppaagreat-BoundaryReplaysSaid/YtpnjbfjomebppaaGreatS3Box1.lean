import Derived.Test.YtpnjbfjomebppaaGreatS3D
set_option linter.unusedVariables false
set_option linter.unusedSimpArgs false
namespace Go.S3
section
variable {P:Program} {l:List (FuncId×En)} {ol:List (Nat×Ora)} {n k:Nat} {f:FuncId} {fn:Func}
