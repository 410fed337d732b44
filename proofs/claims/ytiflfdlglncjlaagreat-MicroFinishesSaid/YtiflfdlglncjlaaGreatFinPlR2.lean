/-
  The state behind an instruction: the reference's is that of the plan, kind by kind. Conditions: none.
-/
import Derived.Test.YtiflfdlglncjlaaGreatFinRX
import Derived.Test.YtiflfdlglncjlaaGreatFin1
import Derived.Test.YtiflfdlglncjlaaGreatFin2
import Derived.Test.YtiflfdlglncjlaaGreatFin3
import Derived.Test.YtiflfdlglncjlaaGreatFin4
open Go Go.S3 Go.Proofs
set_option linter.unusedVariables false
set_option linter.unusedSimpArgs false
set_option maxRecDepth 100000
namespace Go.Proofs.YtiflfdlglncjlaaGreat
noncomputable section
theorem rf_13 (c) (s : Int) (g : List Int) (l) (hb : ∀ j : Nat, inR .u8 (g[j]?.getD 0)) (hk : (rDecode c.1 (g.getD 0 0)).1 = 13) : (rFin_13T c s g l).val = some (finX c s g l) := by
  simp only [rFin_13T, RT.val]
  simp only [qat0, mat0, qat1, mat1, rg0, hk, internal_eq, qPair_eq, qReg_eq, qTaken_eq, mTaken_eq, qBehind_eq, mBehind_eq, qJoin1, mWord1, qJoin3, qOp_eq, rStepped_eq, on_eq, finX, spOf]
  generalize rInternal s = bi
  cases bi with
  | true => simp [wPC, wSP]
  | false =>
    generalize (s == 5) = bs
    simp only [finI, hk, finR, wPC, wSP, wA, wF, fCY, fVCY, spOfR, flOf, behindX, pcOf, joinX]
    generalize rDecode c.1 (g.getD 0 0) = i at hk ⊢
    simp (config := { implicitDefEqProofs := false }) [w_i64, qat_ok, mat_ok, hk, rset_up, rset_fl, rset_sp, rsp_up, rsp_fl, rpair_up, rsp_join, not_eq, hb]
theorem rf_14 (c) (s : Int) (g : List Int) (l) (hb : ∀ j : Nat, inR .u8 (g[j]?.getD 0)) (hk : (rDecode c.1 (g.getD 0 0)).1 = 14) : (rFin_14T c s g l).val = some (finX c s g l) := by
  simp only [rFin_14T, RT.val]
  simp only [qat0, mat0, qat1, mat1, rg0, hk, internal_eq, qPair_eq, qReg_eq, qTaken_eq, mTaken_eq, qBehind_eq, mBehind_eq, qJoin1, mWord1, qJoin3, qOp_eq, rStepped_eq, on_eq, finX, spOf]
  generalize rInternal s = bi
  cases bi with
  | true => simp [wPC, wSP]
  | false =>
    generalize (s == 5) = bs
    simp only [finI, hk, finR, wPC, wSP, wA, wF, fCY, fVCY, spOfR, flOf, behindX, pcOf, joinX]
    generalize rDecode c.1 (g.getD 0 0) = i at hk ⊢
    generalize (i.2.2.1 == 6) = b0
    cases b0 <;> simp (config := { implicitDefEqProofs := false }) [w_i64, qat_ok, mat_ok, hk, rset_up, rset_fl, rset_sp, rsp_up, rsp_fl, rpair_up, rsp_join, not_eq, hb]
theorem rf_15 (c) (s : Int) (g : List Int) (l) (hb : ∀ j : Nat, inR .u8 (g[j]?.getD 0)) (hk : (rDecode c.1 (g.getD 0 0)).1 = 15) : (rFin_15T c s g l).val = some (finX c s g l) := by
  simp only [rFin_15T, RT.val]
  simp only [qat0, mat0, qat1, mat1, rg0, hk, internal_eq, qPair_eq, qReg_eq, qTaken_eq, mTaken_eq, qBehind_eq, mBehind_eq, qJoin1, mWord1, qJoin3, qOp_eq, rStepped_eq, on_eq, finX, spOf]
  generalize rInternal s = bi
  cases bi with
  | true => simp [wPC, wSP]
  | false =>
    generalize (s == 5) = bs
    simp only [finI, hk, finR, wPC, wSP, wA, wF, fCY, fVCY, spOfR, flOf, behindX, pcOf, joinX]
    generalize rDecode c.1 (g.getD 0 0) = i at hk ⊢
    generalize (i.2.2.1 == 6) = b0
    cases b0 <;> simp (config := { implicitDefEqProofs := false }) [w_i64, qat_ok, mat_ok, hk, rset_up, rset_fl, rset_sp, rsp_up, rsp_fl, rpair_up, rsp_join, not_eq, hb]
theorem rf_16 (c) (s : Int) (g : List Int) (l) (hb : ∀ j : Nat, inR .u8 (g[j]?.getD 0)) (hk : (rDecode c.1 (g.getD 0 0)).1 = 16) : (rFin_16T c s g l).val = some (finX c s g l) := by
  simp only [rFin_16T, RT.val]
  simp only [qat0, mat0, qat1, mat1, rg0, hk, internal_eq, qPair_eq, qReg_eq, qTaken_eq, mTaken_eq, qBehind_eq, mBehind_eq, qJoin1, mWord1, qJoin3, qOp_eq, rStepped_eq, on_eq, finX, spOf]
  generalize rInternal s = bi
  cases bi with
  | true => simp [wPC, wSP]
  | false =>
    generalize (s == 5) = bs
    simp only [finI, hk, finR, wPC, wSP, wA, wF, fCY, fVCY, spOfR, flOf, behindX, pcOf, joinX]
    generalize rDecode c.1 (g.getD 0 0) = i at hk ⊢
    simp (config := { implicitDefEqProofs := false }) [w_i64, qat_ok, mat_ok, hk, rset_up, rset_fl, rset_sp, rsp_up, rsp_fl, rpair_up, rsp_join, not_eq, hb]
theorem rf_17 (c) (s : Int) (g : List Int) (l) (hb : ∀ j : Nat, inR .u8 (g[j]?.getD 0)) (hk : (rDecode c.1 (g.getD 0 0)).1 = 17) : (rFin_17T c s g l).val = some (finX c s g l) := by
  simp only [rFin_17T, RT.val]
  simp only [qat0, mat0, qat1, mat1, rg0, hk, internal_eq, qPair_eq, qReg_eq, qTaken_eq, mTaken_eq, qBehind_eq, mBehind_eq, qJoin1, mWord1, qJoin3, qOp_eq, rStepped_eq, on_eq, finX, spOf]
  generalize rInternal s = bi
  cases bi with
  | true => simp [wPC, wSP]
  | false =>
    generalize (s == 5) = bs
    simp only [finI, hk, finR, wPC, wSP, wA, wF, fCY, fVCY, spOfR, flOf, behindX, pcOf, joinX]
    generalize rDecode c.1 (g.getD 0 0) = i at hk ⊢
    simp (config := { implicitDefEqProofs := false }) [w_i64, qat_ok, mat_ok, hk, rset_up, rset_fl, rset_sp, rsp_up, rsp_fl, rpair_up, rsp_join, not_eq, hb]
theorem rf_18 (c) (s : Int) (g : List Int) (l) (hb : ∀ j : Nat, inR .u8 (g[j]?.getD 0)) (hk : (rDecode c.1 (g.getD 0 0)).1 = 18) : (rFin_18T c s g l).val = some (finX c s g l) := by
  simp only [rFin_18T, RT.val]
  simp only [qat0, mat0, qat1, mat1, rg0, hk, internal_eq, qPair_eq, qReg_eq, qTaken_eq, mTaken_eq, qBehind_eq, mBehind_eq, qJoin1, mWord1, qJoin3, qOp_eq, rStepped_eq, on_eq, finX, spOf]
  generalize rInternal s = bi
  cases bi with
  | true => simp [wPC, wSP]
  | false =>
    generalize (s == 5) = bs
    simp only [finI, hk, finR, wPC, wSP, wA, wF, fCY, fVCY, spOfR, flOf, behindX, pcOf, joinX]
    generalize rDecode c.1 (g.getD 0 0) = i at hk ⊢
    simp (config := { implicitDefEqProofs := false }) [w_i64, qat_ok, mat_ok, hk, rset_up, rset_fl, rset_sp, rsp_up, rsp_fl, rpair_up, rsp_join, not_eq, hb]
theorem rf_19 (c) (s : Int) (g : List Int) (l) (hb : ∀ j : Nat, inR .u8 (g[j]?.getD 0)) (hk : (rDecode c.1 (g.getD 0 0)).1 = 19) : (rFin_19T c s g l).val = some (finX c s g l) := by
  simp only [rFin_19T, RT.val]
  simp only [qat0, mat0, qat1, mat1, rg0, hk, internal_eq, qPair_eq, qReg_eq, qTaken_eq, mTaken_eq, qBehind_eq, mBehind_eq, qJoin1, mWord1, qJoin3, qOp_eq, rStepped_eq, on_eq, finX, spOf]
  generalize rInternal s = bi
  cases bi with
  | true => simp [wPC, wSP]
  | false =>
    generalize (s == 5) = bs
    simp only [finI, hk, finR, wPC, wSP, wA, wF, fCY, fVCY, spOfR, flOf, behindX, pcOf, joinX]
    generalize rDecode c.1 (g.getD 0 0) = i at hk ⊢
    simp (config := { implicitDefEqProofs := false }) [w_i64, qat_ok, mat_ok, hk, rset_up, rset_fl, rset_sp, rsp_up, rsp_fl, rpair_up, rsp_join, not_eq, hb]
theorem rf_20 (c) (s : Int) (g : List Int) (l) (hb : ∀ j : Nat, inR .u8 (g[j]?.getD 0)) (hk : (rDecode c.1 (g.getD 0 0)).1 = 20) : (rFin_20T c s g l).val = some (finX c s g l) := by
  simp only [rFin_20T, RT.val]
  simp only [qat0, mat0, qat1, mat1, rg0, hk, internal_eq, qPair_eq, qReg_eq, qTaken_eq, mTaken_eq, qBehind_eq, mBehind_eq, qJoin1, mWord1, qJoin3, qOp_eq, rStepped_eq, on_eq, finX, spOf]
  generalize rInternal s = bi
  cases bi with
  | true => simp [wPC, wSP]
  | false =>
    generalize (s == 5) = bs
    simp only [finI, hk, finR, wPC, wSP, wA, wF, fCY, fVCY, spOfR, flOf, behindX, pcOf, joinX]
    generalize rDecode c.1 (g.getD 0 0) = i at hk ⊢
    simp (config := { implicitDefEqProofs := false }) [w_i64, qat_ok, mat_ok, hk, rset_up, rset_fl, rset_sp, rsp_up, rsp_fl, rpair_up, rsp_join, not_eq, hb]
theorem rf_21 (c) (s : Int) (g : List Int) (l) (hb : ∀ j : Nat, inR .u8 (g[j]?.getD 0)) (hk : (rDecode c.1 (g.getD 0 0)).1 = 21) : (rFin_21T c s g l).val = some (finX c s g l) := by
  simp only [rFin_21T, RT.val]
  simp only [qat0, mat0, qat1, mat1, rg0, hk, internal_eq, qPair_eq, qReg_eq, qTaken_eq, mTaken_eq, qBehind_eq, mBehind_eq, qJoin1, mWord1, qJoin3, qOp_eq, rStepped_eq, on_eq, finX, spOf]
  generalize rInternal s = bi
  cases bi with
  | true => simp [wPC, wSP]
  | false =>
    generalize (s == 5) = bs
    simp only [finI, hk, finR, wPC, wSP, wA, wF, fCY, fVCY, spOfR, flOf, behindX, pcOf, joinX]
    generalize rDecode c.1 (g.getD 0 0) = i at hk ⊢
    simp (config := { implicitDefEqProofs := false }) [w_i64, qat_ok, mat_ok, hk, rset_up, rset_fl, rset_sp, rsp_up, rsp_fl, rpair_up, rsp_join, not_eq, hb]
theorem rf_22 (c) (s : Int) (g : List Int) (l) (hb : ∀ j : Nat, inR .u8 (g[j]?.getD 0)) (hk : (rDecode c.1 (g.getD 0 0)).1 = 22) : (rFin_22T c s g l).val = some (finX c s g l) := by
  simp only [rFin_22T, RT.val]
  simp only [qat0, mat0, qat1, mat1, rg0, hk, internal_eq, qPair_eq, qReg_eq, qTaken_eq, mTaken_eq, qBehind_eq, mBehind_eq, qJoin1, mWord1, qJoin3, qOp_eq, rStepped_eq, on_eq, finX, spOf]
  generalize rInternal s = bi
  cases bi with
  | true => simp [wPC, wSP]
  | false =>
    generalize (s == 5) = bs
    simp only [finI, hk, finR, wPC, wSP, wA, wF, fCY, fVCY, spOfR, flOf, behindX, pcOf, joinX]
    generalize rDecode c.1 (g.getD 0 0) = i at hk ⊢
    simp (config := { implicitDefEqProofs := false }) [w_i64, qat_ok, mat_ok, hk, rset_up, rset_fl, rset_sp, rsp_up, rsp_fl, rpair_up, rsp_join, not_eq, hb]
theorem rf_23 (c) (s : Int) (g : List Int) (l) (hb : ∀ j : Nat, inR .u8 (g[j]?.getD 0)) (hk : (rDecode c.1 (g.getD 0 0)).1 = 23) : (rFin_23T c s g l).val = some (finX c s g l) := by
  simp only [rFin_23T, RT.val]
  simp only [qat0, mat0, qat1, mat1, rg0, hk, internal_eq, qPair_eq, qReg_eq, qTaken_eq, mTaken_eq, qBehind_eq, mBehind_eq, qJoin1, mWord1, qJoin3, qOp_eq, rStepped_eq, on_eq, finX, spOf]
  generalize rInternal s = bi
  cases bi with
  | true => simp [wPC, wSP]
  | false =>
    generalize (s == 5) = bs
    simp only [finI, hk, finR, wPC, wSP, wA, wF, fCY, fVCY, spOfR, flOf, behindX, pcOf, joinX]
    generalize rDecode c.1 (g.getD 0 0) = i at hk ⊢
    simp (config := { implicitDefEqProofs := false }) [w_i64, qat_ok, mat_ok, hk, rset_up, rset_fl, rset_sp, rsp_up, rsp_fl, rpair_up, rsp_join, not_eq, hb]
theorem rf_24 (c) (s : Int) (g : List Int) (l) (hb : ∀ j : Nat, inR .u8 (g[j]?.getD 0)) (hk : (rDecode c.1 (g.getD 0 0)).1 = 24) : (rFin_24T c s g l).val = some (finX c s g l) := by
  simp only [rFin_24T, RT.val]
  simp only [qat0, mat0, qat1, mat1, rg0, hk, internal_eq, qPair_eq, qReg_eq, qTaken_eq, mTaken_eq, qBehind_eq, mBehind_eq, qJoin1, mWord1, qJoin3, qOp_eq, rStepped_eq, on_eq, finX, spOf]
  generalize rInternal s = bi
  cases bi with
  | true => simp [wPC, wSP]
  | false =>
    generalize (s == 5) = bs
    simp only [finI, hk, finR, wPC, wSP, wA, wF, fCY, fVCY, spOfR, flOf, behindX, pcOf, joinX]
    generalize rDecode c.1 (g.getD 0 0) = i at hk ⊢
    generalize rHolds _ _ = b0
    cases b0 <;> simp (config := { implicitDefEqProofs := false }) [w_i64, qat_ok, mat_ok, hk, rset_up, rset_fl, rset_sp, rsp_up, rsp_fl, rpair_up, rsp_join, not_eq, hb]
end
end Go.Proofs.YtiflfdlglncjlaaGreat
