/-
  The state behind an instruction: the reference's is that of the plan, kind by kind. Conditions: none.
-/
import Derived.Test.YtiflfdlglncjlaaGreatFinRX
import Derived.Test.YtiflfdlglncjlaaGreatFin1
import Derived.Test.YtiflfdlglncjlaaGreatFin2
import Derived.Test.YtiflfdlglncjlaaGreatFin3
import Derived.Test.YtiflfdlglncjlaaGreatFin4
open Go Go.S3 Go.Proofs
set_option linter.unusedVariables false
set_option linter.unusedSimpArgs false
set_option maxRecDepth 100000
namespace Go.Proofs.YtiflfdlglncjlaaGreat
noncomputable section
theorem rf_25 (c) (s : Int) (g : List Int) (l) (hb : ∀ j : Nat, inR .u8 (g[j]?.getD 0)) (hk : (rDecode c.1 (g.getD 0 0)).1 = 25) : (rFin_25T c s g l).val = some (finX c s g l) := by
  simp only [rFin_25T, RT.val]
  simp only [qat0, mat0, qat1, mat1, rg0, hk, internal_eq, qPair_eq, qReg_eq, qTaken_eq, mTaken_eq, qBehind_eq, mBehind_eq, qJoin1, mWord1, qJoin3, qOp_eq, rStepped_eq, on_eq, finX, spOf]
  generalize rInternal s = bi
  cases bi with
  | true => simp [wPC, wSP]
  | false =>
    generalize (s == 5) = bs
    simp only [finI, hk, finR, wPC, wSP, wA, wF, fCY, fVCY, spOfR, flOf, behindX, pcOf, joinX]
    generalize rDecode c.1 (g.getD 0 0) = i at hk ⊢
    generalize rHolds _ _ = b0
    cases b0 <;> simp (config := { implicitDefEqProofs := false }) [w_i64, qat_ok, mat_ok, hk, rset_up, rset_fl, rset_sp, rsp_up, rsp_fl, rpair_up, rsp_join, not_eq, hb]
theorem rf_26 (c) (s : Int) (g : List Int) (l) (hb : ∀ j : Nat, inR .u8 (g[j]?.getD 0)) (hk : (rDecode c.1 (g.getD 0 0)).1 = 26) : (rFin_26T c s g l).val = some (finX c s g l) := by
  simp only [rFin_26T, RT.val]
  simp only [qat0, mat0, qat1, mat1, rg0, hk, internal_eq, qPair_eq, qReg_eq, qTaken_eq, mTaken_eq, qBehind_eq, mBehind_eq, qJoin1, mWord1, qJoin3, qOp_eq, rStepped_eq, on_eq, finX, spOf]
  generalize rInternal s = bi
  cases bi with
  | true => simp [wPC, wSP]
  | false =>
    generalize (s == 5) = bs
    simp only [finI, hk, finR, wPC, wSP, wA, wF, fCY, fVCY, spOfR, flOf, behindX, pcOf, joinX]
    generalize rDecode c.1 (g.getD 0 0) = i at hk ⊢
    generalize rHolds _ _ = b0
    cases b0 <;> simp (config := { implicitDefEqProofs := false }) [w_i64, qat_ok, mat_ok, hk, rset_up, rset_fl, rset_sp, rsp_up, rsp_fl, rpair_up, rsp_join, not_eq, hb]
theorem rf_27 (c) (s : Int) (g : List Int) (l) (hb : ∀ j : Nat, inR .u8 (g[j]?.getD 0)) (hk : (rDecode c.1 (g.getD 0 0)).1 = 27) : (rFin_27T c s g l).val = some (finX c s g l) := by
  simp only [rFin_27T, RT.val]
  simp only [qat0, mat0, qat1, mat1, rg0, hk, internal_eq, qPair_eq, qReg_eq, qTaken_eq, mTaken_eq, qBehind_eq, mBehind_eq, qJoin1, mWord1, qJoin3, qOp_eq, rStepped_eq, on_eq, finX, spOf]
  generalize rInternal s = bi
  cases bi with
  | true => simp [wPC, wSP]
  | false =>
    generalize (s == 5) = bs
    simp only [finI, hk, finR, wPC, wSP, wA, wF, fCY, fVCY, spOfR, flOf, behindX, pcOf, joinX]
    generalize rDecode c.1 (g.getD 0 0) = i at hk ⊢
    simp (config := { implicitDefEqProofs := false }) [w_i64, qat_ok, mat_ok, hk, rset_up, rset_fl, rset_sp, rsp_up, rsp_fl, rpair_up, rsp_join, not_eq, hb]
theorem rf_28 (c) (s : Int) (g : List Int) (l) (hb : ∀ j : Nat, inR .u8 (g[j]?.getD 0)) (hk : (rDecode c.1 (g.getD 0 0)).1 = 28) : (rFin_28T c s g l).val = some (finX c s g l) := by
  simp only [rFin_28T, RT.val]
  simp only [qat0, mat0, qat1, mat1, rg0, hk, internal_eq, qPair_eq, qReg_eq, qTaken_eq, mTaken_eq, qBehind_eq, mBehind_eq, qJoin1, mWord1, qJoin3, qOp_eq, rStepped_eq, on_eq, finX, spOf]
  generalize rInternal s = bi
  cases bi with
  | true => simp [wPC, wSP]
  | false =>
    generalize (s == 5) = bs
    simp only [finI, hk, finR, wPC, wSP, wA, wF, fCY, fVCY, spOfR, flOf, behindX, pcOf, joinX]
    generalize rDecode c.1 (g.getD 0 0) = i at hk ⊢
    simp (config := { implicitDefEqProofs := false }) [w_i64, qat_ok, mat_ok, hk, rset_up, rset_fl, rset_sp, rsp_up, rsp_fl, rpair_up, rsp_join, not_eq, hb]
theorem rf_29 (c) (s : Int) (g : List Int) (l) (hb : ∀ j : Nat, inR .u8 (g[j]?.getD 0)) (hk : (rDecode c.1 (g.getD 0 0)).1 = 29) : (rFin_29T c s g l).val = some (finX c s g l) := by
  simp only [rFin_29T, RT.val]
  simp only [qat0, mat0, qat1, mat1, rg0, hk, internal_eq, qPair_eq, qReg_eq, qTaken_eq, mTaken_eq, qBehind_eq, mBehind_eq, qJoin1, mWord1, qJoin3, qOp_eq, rStepped_eq, on_eq, finX, spOf]
  generalize rInternal s = bi
  cases bi with
  | true => simp [wPC, wSP]
  | false =>
    generalize (s == 5) = bs
    simp only [finI, hk, finR, wPC, wSP, wA, wF, fCY, fVCY, spOfR, flOf, behindX, pcOf, joinX]
    generalize rDecode c.1 (g.getD 0 0) = i at hk ⊢
    simp (config := { implicitDefEqProofs := false }) [w_i64, qat_ok, mat_ok, hk, rset_up, rset_fl, rset_sp, rsp_up, rsp_fl, rpair_up, rsp_join, not_eq, hb]
theorem rf_30 (c) (s : Int) (g : List Int) (l) (hb : ∀ j : Nat, inR .u8 (g[j]?.getD 0)) (hk : (rDecode c.1 (g.getD 0 0)).1 = 30) : (rFin_30T c s g l).val = some (finX c s g l) := by
  simp only [rFin_30T, RT.val]
  simp only [qat0, mat0, qat1, mat1, rg0, hk, internal_eq, qPair_eq, qReg_eq, qTaken_eq, mTaken_eq, qBehind_eq, mBehind_eq, qJoin1, mWord1, qJoin3, qOp_eq, rStepped_eq, on_eq, finX, spOf]
  generalize rInternal s = bi
  cases bi with
  | true => simp [wPC, wSP]
  | false =>
    generalize (s == 5) = bs
    simp only [finI, hk, finR, wPC, wSP, wA, wF, fCY, fVCY, spOfR, flOf, behindX, pcOf, joinX]
    generalize rDecode c.1 (g.getD 0 0) = i at hk ⊢
    simp (config := { implicitDefEqProofs := false }) [w_i64, qat_ok, mat_ok, hk, rset_up, rset_fl, rset_sp, rsp_up, rsp_fl, rpair_up, rsp_join, not_eq, hb]
theorem rf_31 (c) (s : Int) (g : List Int) (l) (hb : ∀ j : Nat, inR .u8 (g[j]?.getD 0)) (hk : (rDecode c.1 (g.getD 0 0)).1 = 31) : (rFin_31T c s g l).val = some (finX c s g l) := by
  simp only [rFin_31T, RT.val]
  simp only [qat0, mat0, qat1, mat1, rg0, hk, internal_eq, qPair_eq, qReg_eq, qTaken_eq, mTaken_eq, qBehind_eq, mBehind_eq, qJoin1, mWord1, qJoin3, qOp_eq, rStepped_eq, on_eq, finX, spOf]
  generalize rInternal s = bi
  cases bi with
  | true => simp [wPC, wSP]
  | false =>
    generalize (s == 5) = bs
    simp only [finI, hk, finR, wPC, wSP, wA, wF, fCY, fVCY, spOfR, flOf, behindX, pcOf, joinX]
    generalize rDecode c.1 (g.getD 0 0) = i at hk ⊢
    generalize (i.2.2.2.2.1 == 3) = b0
    cases b0 <;> simp (config := { implicitDefEqProofs := false }) [w_i64, qat_ok, mat_ok, hk, rset_up, rset_fl, rset_sp, rsp_up, rsp_fl, rpair_up, rsp_join, not_eq, hb, rSetPSW, rSetPSWT, RT.val]
theorem rf_32 (c) (s : Int) (g : List Int) (l) (hb : ∀ j : Nat, inR .u8 (g[j]?.getD 0)) (hk : (rDecode c.1 (g.getD 0 0)).1 = 32) : (rFin_32T c s g l).val = some (finX c s g l) := by
  simp only [rFin_32T, RT.val]
  simp only [qat0, mat0, qat1, mat1, rg0, hk, internal_eq, qPair_eq, qReg_eq, qTaken_eq, mTaken_eq, qBehind_eq, mBehind_eq, qJoin1, mWord1, qJoin3, qOp_eq, rStepped_eq, on_eq, finX, spOf]
  generalize rInternal s = bi
  cases bi with
  | true => simp [wPC, wSP]
  | false =>
    generalize (s == 5) = bs
    simp only [finI, hk, finR, wPC, wSP, wA, wF, fCY, fVCY, spOfR, flOf, behindX, pcOf, joinX]
    generalize rDecode c.1 (g.getD 0 0) = i at hk ⊢
    simp (config := { implicitDefEqProofs := false }) [w_i64, qat_ok, mat_ok, hk, rset_up, rset_fl, rset_sp, rsp_up, rsp_fl, rpair_up, rsp_join, not_eq, hb]
theorem rf_33 (c) (s : Int) (g : List Int) (l) (hb : ∀ j : Nat, inR .u8 (g[j]?.getD 0)) (hk : (rDecode c.1 (g.getD 0 0)).1 = 33) : (rFin_33T c s g l).val = some (finX c s g l) := by
  simp only [rFin_33T, RT.val]
  simp only [qat0, mat0, qat1, mat1, rg0, hk, internal_eq, qPair_eq, qReg_eq, qTaken_eq, mTaken_eq, qBehind_eq, mBehind_eq, qJoin1, mWord1, qJoin3, qOp_eq, rStepped_eq, on_eq, finX, spOf]
  generalize rInternal s = bi
  cases bi with
  | true => simp [wPC, wSP]
  | false =>
    generalize (s == 5) = bs
    simp only [finI, hk, finR, wPC, wSP, wA, wF, fCY, fVCY, spOfR, flOf, behindX, pcOf, joinX]
    generalize rDecode c.1 (g.getD 0 0) = i at hk ⊢
    simp (config := { implicitDefEqProofs := false }) [w_i64, qat_ok, mat_ok, hk, rset_up, rset_fl, rset_sp, rsp_up, rsp_fl, rpair_up, rsp_join, not_eq, hb]
theorem rf_34 (c) (s : Int) (g : List Int) (l) (hb : ∀ j : Nat, inR .u8 (g[j]?.getD 0)) (hk : (rDecode c.1 (g.getD 0 0)).1 = 34) : (rFin_34T c s g l).val = some (finX c s g l) := by
  simp only [rFin_34T, RT.val]
  simp only [qat0, mat0, qat1, mat1, rg0, hk, internal_eq, qPair_eq, qReg_eq, qTaken_eq, mTaken_eq, qBehind_eq, mBehind_eq, qJoin1, mWord1, qJoin3, qOp_eq, rStepped_eq, on_eq, finX, spOf]
  generalize rInternal s = bi
  cases bi with
  | true => simp [wPC, wSP]
  | false =>
    generalize (s == 5) = bs
    simp only [finI, hk, finR, wPC, wSP, wA, wF, fCY, fVCY, spOfR, flOf, behindX, pcOf, joinX]
    generalize rDecode c.1 (g.getD 0 0) = i at hk ⊢
    simp (config := { implicitDefEqProofs := false }) [w_i64, qat_ok, mat_ok, hk, rset_up, rset_fl, rset_sp, rsp_up, rsp_fl, rpair_up, rsp_join, not_eq, hb]
theorem rf_35 (c) (s : Int) (g : List Int) (l) (hb : ∀ j : Nat, inR .u8 (g[j]?.getD 0)) (hk : (rDecode c.1 (g.getD 0 0)).1 = 35) : (rFin_35T c s g l).val = some (finX c s g l) := by
  simp only [rFin_35T, RT.val]
  simp only [qat0, mat0, qat1, mat1, rg0, hk, internal_eq, qPair_eq, qReg_eq, qTaken_eq, mTaken_eq, qBehind_eq, mBehind_eq, qJoin1, mWord1, qJoin3, qOp_eq, rStepped_eq, on_eq, finX, spOf]
  generalize rInternal s = bi
  cases bi with
  | true => simp [wPC, wSP]
  | false =>
    generalize (s == 5) = bs
    simp only [finI, hk, finR, wPC, wSP, wA, wF, fCY, fVCY, spOfR, flOf, behindX, pcOf, joinX]
    generalize rDecode c.1 (g.getD 0 0) = i at hk ⊢
    simp (config := { implicitDefEqProofs := false }) [w_i64, qat_ok, mat_ok, hk, rset_up, rset_fl, rset_sp, rsp_up, rsp_fl, rpair_up, rsp_join, not_eq, hb]
theorem rf_36 (c) (s : Int) (g : List Int) (l) (hb : ∀ j : Nat, inR .u8 (g[j]?.getD 0)) (hk : (rDecode c.1 (g.getD 0 0)).1 = 36) : (rFin_36T c s g l).val = some (finX c s g l) := by
  simp only [rFin_36T, RT.val]
  simp only [qat0, mat0, qat1, mat1, rg0, hk, internal_eq, qPair_eq, qReg_eq, qTaken_eq, mTaken_eq, qBehind_eq, mBehind_eq, qJoin1, mWord1, qJoin3, qOp_eq, rStepped_eq, on_eq, finX, spOf]
  generalize rInternal s = bi
  cases bi with
  | true => simp [wPC, wSP]
  | false =>
    generalize (s == 5) = bs
    simp only [finI, hk, finR, wPC, wSP, wA, wF, fCY, fVCY, spOfR, flOf, behindX, pcOf, joinX]
    generalize rDecode c.1 (g.getD 0 0) = i at hk ⊢
    simp (config := { implicitDefEqProofs := false }) [w_i64, qat_ok, mat_ok, hk, rset_up, rset_fl, rset_sp, rsp_up, rsp_fl, rpair_up, rsp_join, not_eq, hb]
end
end Go.Proofs.YtiflfdlglncjlaaGreat
