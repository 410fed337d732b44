/-
  The kinds of instructions, told to the executor. Conditions: none.
-/
import Derived.Test.YteboknglfjadoaaGreatLeafEq
import Derived.Test.YteboknglfjadoaaGreatS3D
set_option linter.unusedSimpArgs false
open Go Go.S3 Go.Proofs
set_option linter.unusedVariables false
set_option maxRecDepth 100000
namespace Go.Proofs.YteboknglfjadoaaGreat
noncomputable section
abbrev instrR : R := R.pair (.int .i64) (R.pair (.int .i64) (R.pair (.int .i64) (R.pair (.int .i64) (R.pair (.int .i64) (R.pair (.int .i64) (.int .i64))))))
def pDecKE (k : Int) : Entry := pinE pDecodeTs instrR (fun a => rDecode a.1 a.2) k
theorem pDecK_ok (k : Int) : EntryOk Tryz.prog 178 (pDecKE k) := pinE_ok pDecode1_ok k
def rDecKE (k : Int) : Entry := pinE rDecodeTs instrR (fun a => rDecode a.1 a.2) k
theorem rDecK_ok (k : Int) : EntryOk Tryz.prog 25 (rDecKE k) := pinE_ok rDecode1_ok k
def pcOf (c : TC) : Int := c.2.1.2.2.2.2.2.2.2.2.2
def spOf (c : TC) : Int := c.2.1.2.2.2.2.2.2.2.2.1
/-- Registers with other flags, another SP and another PC. -/
def rgx (r : TR) (f : TF) (sp pc : Int) : TR := (r.1, r.2.1, r.2.2.1, r.2.2.2.1, r.2.2.2.2.1, r.2.2.2.2.2.1, r.2.2.2.2.2.2.1, f, sp, pc)
/-- Of some cycles, that behind as many bytes as there are. -/
def fin3 (g : List Int) (l : List TY) : RT (Option (TY × Bool)) := .br (decide (iN (List.length g) ≥ iN (List.length l))) (.leaf (some (((0, 0, 0, 0), false)))) (.br (inRng (iN (List.length g)) (List.length l)) (.leaf (some ((R.get RY l (iN (List.length g)), true)))) (.leaf none))
end
end Go.Proofs.YteboknglfjadoaaGreat
