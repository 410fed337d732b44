/-
  The state behind an instruction: the program's is that of the plan, kind by kind. Conditions: none.
-/
import Derived.Test.YtiflfdlglncjlaaGreatFinX
import Derived.Test.YtiflfdlglncjlaaGreatFin1
import Derived.Test.YtiflfdlglncjlaaGreatFin2
import Derived.Test.YtiflfdlglncjlaaGreatFin3
import Derived.Test.YtiflfdlglncjlaaGreatFin4
open Go Go.S3 Go.Proofs
set_option linter.unusedVariables false
set_option linter.unusedSimpArgs false
set_option maxRecDepth 100000
namespace Go.Proofs.YtiflfdlglncjlaaGreat
noncomputable section
theorem pf_13 (c) (s : Int) (g : List Int) (l) (hk : (rDecode c.1 (g.getD 0 0)).1 = 13) : (pFin_13T c s g l).val = some (finX c s g l) := by
  simp only [pFin_13T, RT.val]
  simp only [qat0, mat0, qat1, mat1, rg0, hk, internal_eq, qPair_eq, qReg_eq, qTaken_eq, mTaken_eq, qBehind_eq, mBehind_eq, qJoin1, mWord1, qJoin3, qOp_eq, rStepped_eq, on_eq, finX, spOf]
  generalize rInternal s = bi
  cases bi with
  | true => simp [wPC, wSP]
  | false =>
    generalize (s == 5) = bs
    simp only [finI, hk, finR, wPC, wSP, wA, wF, fCY, fVCY, spOfR, flOf, behindX, pcOf, joinX]
    generalize rDecode c.1 (g.getD 0 0) = i at hk ⊢
    simp (config := { implicitDefEqProofs := false }) [w_i64, qat_ok, mat_ok, hk]
theorem pf_14 (c) (s : Int) (g : List Int) (l) (hk : (rDecode c.1 (g.getD 0 0)).1 = 14) : (pFin_14T c s g l).val = some (finX c s g l) := by
  simp only [pFin_14T, RT.val]
  simp only [qat0, mat0, qat1, mat1, rg0, hk, internal_eq, qPair_eq, qReg_eq, qTaken_eq, mTaken_eq, qBehind_eq, mBehind_eq, qJoin1, mWord1, qJoin3, qOp_eq, rStepped_eq, on_eq, finX, spOf]
  generalize rInternal s = bi
  cases bi with
  | true => simp [wPC, wSP]
  | false =>
    generalize (s == 5) = bs
    simp only [finI, hk, finR, wPC, wSP, wA, wF, fCY, fVCY, spOfR, flOf, behindX, pcOf, joinX]
    generalize rDecode c.1 (g.getD 0 0) = i at hk ⊢
    generalize (i.2.2.1 == 6) = b0
    cases b0 <;> simp (config := { implicitDefEqProofs := false }) [w_i64, qat_ok, mat_ok, hk]
theorem pf_15 (c) (s : Int) (g : List Int) (l) (hk : (rDecode c.1 (g.getD 0 0)).1 = 15) : (pFin_15T c s g l).val = some (finX c s g l) := by
  simp only [pFin_15T, RT.val]
  simp only [qat0, mat0, qat1, mat1, rg0, hk, internal_eq, qPair_eq, qReg_eq, qTaken_eq, mTaken_eq, qBehind_eq, mBehind_eq, qJoin1, mWord1, qJoin3, qOp_eq, rStepped_eq, on_eq, finX, spOf]
  generalize rInternal s = bi
  cases bi with
  | true => simp [wPC, wSP]
  | false =>
    generalize (s == 5) = bs
    simp only [finI, hk, finR, wPC, wSP, wA, wF, fCY, fVCY, spOfR, flOf, behindX, pcOf, joinX]
    generalize rDecode c.1 (g.getD 0 0) = i at hk ⊢
    generalize (i.2.2.1 == 6) = b0
    cases b0 <;> simp (config := { implicitDefEqProofs := false }) [w_i64, qat_ok, mat_ok, hk]
theorem pf_16 (c) (s : Int) (g : List Int) (l) (hk : (rDecode c.1 (g.getD 0 0)).1 = 16) : (pFin_16T c s g l).val = some (finX c s g l) := by
  simp only [pFin_16T, RT.val]
  simp only [qat0, mat0, qat1, mat1, rg0, hk, internal_eq, qPair_eq, qReg_eq, qTaken_eq, mTaken_eq, qBehind_eq, mBehind_eq, qJoin1, mWord1, qJoin3, qOp_eq, rStepped_eq, on_eq, finX, spOf]
  generalize rInternal s = bi
  cases bi with
  | true => simp [wPC, wSP]
  | false =>
    generalize (s == 5) = bs
    simp only [finI, hk, finR, wPC, wSP, wA, wF, fCY, fVCY, spOfR, flOf, behindX, pcOf, joinX]
    generalize rDecode c.1 (g.getD 0 0) = i at hk ⊢
    simp (config := { implicitDefEqProofs := false }) [w_i64, qat_ok, mat_ok, hk]
theorem pf_17 (c) (s : Int) (g : List Int) (l) (hk : (rDecode c.1 (g.getD 0 0)).1 = 17) : (pFin_17T c s g l).val = some (finX c s g l) := by
  simp only [pFin_17T, RT.val]
  simp only [qat0, mat0, qat1, mat1, rg0, hk, internal_eq, qPair_eq, qReg_eq, qTaken_eq, mTaken_eq, qBehind_eq, mBehind_eq, qJoin1, mWord1, qJoin3, qOp_eq, rStepped_eq, on_eq, finX, spOf]
  generalize rInternal s = bi
  cases bi with
  | true => simp [wPC, wSP]
  | false =>
    generalize (s == 5) = bs
    simp only [finI, hk, finR, wPC, wSP, wA, wF, fCY, fVCY, spOfR, flOf, behindX, pcOf, joinX]
    generalize rDecode c.1 (g.getD 0 0) = i at hk ⊢
    simp (config := { implicitDefEqProofs := false }) [w_i64, qat_ok, mat_ok, hk]
theorem pf_18 (c) (s : Int) (g : List Int) (l) (hk : (rDecode c.1 (g.getD 0 0)).1 = 18) : (pFin_18T c s g l).val = some (finX c s g l) := by
  simp only [pFin_18T, RT.val]
  simp only [qat0, mat0, qat1, mat1, rg0, hk, internal_eq, qPair_eq, qReg_eq, qTaken_eq, mTaken_eq, qBehind_eq, mBehind_eq, qJoin1, mWord1, qJoin3, qOp_eq, rStepped_eq, on_eq, finX, spOf]
  generalize rInternal s = bi
  cases bi with
  | true => simp [wPC, wSP]
  | false =>
    generalize (s == 5) = bs
    simp only [finI, hk, finR, wPC, wSP, wA, wF, fCY, fVCY, spOfR, flOf, behindX, pcOf, joinX]
    generalize rDecode c.1 (g.getD 0 0) = i at hk ⊢
    simp (config := { implicitDefEqProofs := false }) [w_i64, qat_ok, mat_ok, hk]
theorem pf_19 (c) (s : Int) (g : List Int) (l) (hk : (rDecode c.1 (g.getD 0 0)).1 = 19) : (pFin_19T c s g l).val = some (finX c s g l) := by
  simp only [pFin_19T, RT.val]
  simp only [qat0, mat0, qat1, mat1, rg0, hk, internal_eq, qPair_eq, qReg_eq, qTaken_eq, mTaken_eq, qBehind_eq, mBehind_eq, qJoin1, mWord1, qJoin3, qOp_eq, rStepped_eq, on_eq, finX, spOf]
  generalize rInternal s = bi
  cases bi with
  | true => simp [wPC, wSP]
  | false =>
    generalize (s == 5) = bs
    simp only [finI, hk, finR, wPC, wSP, wA, wF, fCY, fVCY, spOfR, flOf, behindX, pcOf, joinX]
    generalize rDecode c.1 (g.getD 0 0) = i at hk ⊢
    simp (config := { implicitDefEqProofs := false }) [w_i64, qat_ok, mat_ok, hk]
theorem pf_20 (c) (s : Int) (g : List Int) (l) (hk : (rDecode c.1 (g.getD 0 0)).1 = 20) : (pFin_20T c s g l).val = some (finX c s g l) := by
  simp only [pFin_20T, RT.val]
  simp only [qat0, mat0, qat1, mat1, rg0, hk, internal_eq, qPair_eq, qReg_eq, qTaken_eq, mTaken_eq, qBehind_eq, mBehind_eq, qJoin1, mWord1, qJoin3, qOp_eq, rStepped_eq, on_eq, finX, spOf]
  generalize rInternal s = bi
  cases bi with
  | true => simp [wPC, wSP]
  | false =>
    generalize (s == 5) = bs
    simp only [finI, hk, finR, wPC, wSP, wA, wF, fCY, fVCY, spOfR, flOf, behindX, pcOf, joinX]
    generalize rDecode c.1 (g.getD 0 0) = i at hk ⊢
    simp (config := { implicitDefEqProofs := false }) [w_i64, qat_ok, mat_ok, hk]
theorem pf_21 (c) (s : Int) (g : List Int) (l) (hk : (rDecode c.1 (g.getD 0 0)).1 = 21) : (pFin_21T c s g l).val = some (finX c s g l) := by
  simp only [pFin_21T, RT.val]
  simp only [qat0, mat0, qat1, mat1, rg0, hk, internal_eq, qPair_eq, qReg_eq, qTaken_eq, mTaken_eq, qBehind_eq, mBehind_eq, qJoin1, mWord1, qJoin3, qOp_eq, rStepped_eq, on_eq, finX, spOf]
  generalize rInternal s = bi
  cases bi with
  | true => simp [wPC, wSP]
  | false =>
    generalize (s == 5) = bs
    simp only [finI, hk, finR, wPC, wSP, wA, wF, fCY, fVCY, spOfR, flOf, behindX, pcOf, joinX]
    generalize rDecode c.1 (g.getD 0 0) = i at hk ⊢
    simp (config := { implicitDefEqProofs := false }) [w_i64, qat_ok, mat_ok, hk]
theorem pf_22 (c) (s : Int) (g : List Int) (l) (hk : (rDecode c.1 (g.getD 0 0)).1 = 22) : (pFin_22T c s g l).val = some (finX c s g l) := by
  simp only [pFin_22T, RT.val]
  simp only [qat0, mat0, qat1, mat1, rg0, hk, internal_eq, qPair_eq, qReg_eq, qTaken_eq, mTaken_eq, qBehind_eq, mBehind_eq, qJoin1, mWord1, qJoin3, qOp_eq, rStepped_eq, on_eq, finX, spOf]
  generalize rInternal s = bi
  cases bi with
  | true => simp [wPC, wSP]
  | false =>
    generalize (s == 5) = bs
    simp only [finI, hk, finR, wPC, wSP, wA, wF, fCY, fVCY, spOfR, flOf, behindX, pcOf, joinX]
    generalize rDecode c.1 (g.getD 0 0) = i at hk ⊢
    simp (config := { implicitDefEqProofs := false }) [w_i64, qat_ok, mat_ok, hk]
theorem pf_23 (c) (s : Int) (g : List Int) (l) (hk : (rDecode c.1 (g.getD 0 0)).1 = 23) : (pFin_23T c s g l).val = some (finX c s g l) := by
  simp only [pFin_23T, RT.val]
  simp only [qat0, mat0, qat1, mat1, rg0, hk, internal_eq, qPair_eq, qReg_eq, qTaken_eq, mTaken_eq, qBehind_eq, mBehind_eq, qJoin1, mWord1, qJoin3, qOp_eq, rStepped_eq, on_eq, finX, spOf]
  generalize rInternal s = bi
  cases bi with
  | true => simp [wPC, wSP]
  | false =>
    generalize (s == 5) = bs
    simp only [finI, hk, finR, wPC, wSP, wA, wF, fCY, fVCY, spOfR, flOf, behindX, pcOf, joinX]
    generalize rDecode c.1 (g.getD 0 0) = i at hk ⊢
    simp (config := { implicitDefEqProofs := false }) [w_i64, qat_ok, mat_ok, hk]
theorem pf_24 (c) (s : Int) (g : List Int) (l) (hk : (rDecode c.1 (g.getD 0 0)).1 = 24) : (pFin_24T c s g l).val = some (finX c s g l) := by
  simp only [pFin_24T, RT.val]
  simp only [qat0, mat0, qat1, mat1, rg0, hk, internal_eq, qPair_eq, qReg_eq, qTaken_eq, mTaken_eq, qBehind_eq, mBehind_eq, qJoin1, mWord1, qJoin3, qOp_eq, rStepped_eq, on_eq, finX, spOf]
  generalize rInternal s = bi
  cases bi with
  | true => simp [wPC, wSP]
  | false =>
    generalize (s == 5) = bs
    simp only [finI, hk, finR, wPC, wSP, wA, wF, fCY, fVCY, spOfR, flOf, behindX, pcOf, joinX]
    generalize rDecode c.1 (g.getD 0 0) = i at hk ⊢
    generalize rHolds _ _ = b0
    cases b0 <;> simp (config := { implicitDefEqProofs := false }) [w_i64, qat_ok, mat_ok, hk]
end
end Go.Proofs.YtiflfdlglncjlaaGreat
