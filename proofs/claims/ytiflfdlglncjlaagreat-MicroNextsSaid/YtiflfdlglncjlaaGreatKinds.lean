/-
  The kinds of instructions, told to the executor. Conditions: none.
-/
import Derived.Test.YtiflfdlglncjlaaGreatLeafEq
import Derived.Test.YtiflfdlglncjlaaGreatS3D
set_option linter.unusedSimpArgs false
open Go Go.S3 Go.Proofs
set_option linter.unusedVariables false
set_option maxRecDepth 100000
namespace Go.Proofs.YtiflfdlglncjlaaGreat
noncomputable section
abbrev instrR : R := R.pair (.int .i64) (R.pair (.int .i64) (R.pair (.int .i64) (R.pair (.int .i64) (R.pair (.int .i64) (R.pair (.int .i64) (.int .i64))))))
def pDecKE (k : Int) : Entry := pinE pDecodeTs instrR (fun a => rDecode a.1 a.2) k
theorem pDecK_ok (k : Int) : EntryOk Tryz.prog 35 (pDecKE k) := pinE_ok pDecode1_ok k
def rDecKE (k : Int) : Entry := pinE rDecodeTs instrR (fun a => rDecode a.1 a.2) k
theorem rDecK_ok (k : Int) : EntryOk Tryz.prog 19 (rDecKE k) := pinE_ok rDecode1_ok k
end
end Go.Proofs.YtiflfdlglncjlaaGreat
