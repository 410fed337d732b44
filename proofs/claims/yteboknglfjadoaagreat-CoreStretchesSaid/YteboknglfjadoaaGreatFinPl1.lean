/-
  The state behind an instruction: the program's is that of the plan, kind by kind. Conditions: none.
-/
import Derived.Test.YteboknglfjadoaaGreatFinX
import Derived.Test.YteboknglfjadoaaGreatFin1
import Derived.Test.YteboknglfjadoaaGreatFin2
import Derived.Test.YteboknglfjadoaaGreatFin3
import Derived.Test.YteboknglfjadoaaGreatFin4
open Go Go.S3 Go.Proofs
set_option linter.unusedVariables false
set_option linter.unusedSimpArgs false
set_option maxRecDepth 100000
namespace Go.Proofs.YteboknglfjadoaaGreat
noncomputable section
theorem fp_1 (c) (s : Int) (g : List Int) (l) (n : Int) (hk : (rDecode c.1 (g.getD 0 0)).1 = n) : (n = 1 → (pFin_1T c s g l).val = some (finX c s g l)) ∧ (n = 6 → (pFin_6T c s g l).val = some (finX c s g l)) ∧ (n = 10 → (pFin_10T c s g l).val = some (finX c s g l)) ∧ (n = 17 → (pFin_17T c s g l).val = some (finX c s g l)) ∧ (n = 21 → (pFin_21T c s g l).val = some (finX c s g l)) ∧ (n = 28 → (pFin_28T c s g l).val = some (finX c s g l)) ∧ (n = 33 → (pFin_33T c s g l).val = some (finX c s g l)) ∧ (n = 37 → (pFin_37T c s g l).val = some (finX c s g l)) ∧ (n = 43 → (pFin_43T c s g l).val = some (finX c s g l)) := by
  refine ⟨?_, ?_, ?_, ?_, ?_, ?_, ?_, ?_, ?_⟩
  all_goals intro e; subst e
  all_goals simp only [pFin_1T, pFin_6T, pFin_10T, pFin_17T, pFin_21T, pFin_28T, pFin_33T, pFin_37T, pFin_43T, RT.val, rgx]
  all_goals simp only [qat0, mat0, qat1, mat1, rg0, hk, internal_eq, qPair_eq, qReg_eq, qTaken_eq, mTaken_eq, qBehind_eq, mBehind_eq, qJoin1, mWord1, qJoin3, qOp_eq, rStepped_eq, on_eq, finX, spOf]
  all_goals generalize rInternal s = bi
  all_goals cases bi with
  | true => simp [wPC, wSP]
  | false =>
    generalize (s == 5) = bs
    simp only [finI, hk, finR, wPC, wSP, wA, wF, fCY, fVCY, spOfR, flOf, behindX, pcOf, joinX]
    generalize rDecode c.1 (g.getD 0 0) = i at hk ⊢
    simp (config := { implicitDefEqProofs := false }) [w_i64, qat_ok, mat_ok, hk]
theorem fp_2 (c) (s : Int) (g : List Int) (l) (n : Int) (hk : (rDecode c.1 (g.getD 0 0)).1 = n) : (n = 3 → (pFin_3T c s g l).val = some (finX c s g l)) ∧ (n = 7 → (pFin_7T c s g l).val = some (finX c s g l)) ∧ (n = 11 → (pFin_11T c s g l).val = some (finX c s g l)) ∧ (n = 18 → (pFin_18T c s g l).val = some (finX c s g l)) ∧ (n = 22 → (pFin_22T c s g l).val = some (finX c s g l)) ∧ (n = 29 → (pFin_29T c s g l).val = some (finX c s g l)) ∧ (n = 34 → (pFin_34T c s g l).val = some (finX c s g l)) ∧ (n = 40 → (pFin_40T c s g l).val = some (finX c s g l)) ∧ (n = 44 → (pFin_44T c s g l).val = some (finX c s g l)) := by
  refine ⟨?_, ?_, ?_, ?_, ?_, ?_, ?_, ?_, ?_⟩
  all_goals intro e; subst e
  all_goals simp only [pFin_3T, pFin_7T, pFin_11T, pFin_18T, pFin_22T, pFin_29T, pFin_34T, pFin_40T, pFin_44T, RT.val, rgx]
  all_goals simp only [qat0, mat0, qat1, mat1, rg0, hk, internal_eq, qPair_eq, qReg_eq, qTaken_eq, mTaken_eq, qBehind_eq, mBehind_eq, qJoin1, mWord1, qJoin3, qOp_eq, rStepped_eq, on_eq, finX, spOf]
  all_goals generalize rInternal s = bi
  all_goals cases bi with
  | true => simp [wPC, wSP]
  | false =>
    generalize (s == 5) = bs
    simp only [finI, hk, finR, wPC, wSP, wA, wF, fCY, fVCY, spOfR, flOf, behindX, pcOf, joinX]
    generalize rDecode c.1 (g.getD 0 0) = i at hk ⊢
    simp (config := { implicitDefEqProofs := false }) [w_i64, qat_ok, mat_ok, hk]
theorem fp_3 (c) (s : Int) (g : List Int) (l) (n : Int) (hk : (rDecode c.1 (g.getD 0 0)).1 = n) : (n = 4 → (pFin_4T c s g l).val = some (finX c s g l)) ∧ (n = 8 → (pFin_8T c s g l).val = some (finX c s g l)) ∧ (n = 13 → (pFin_13T c s g l).val = some (finX c s g l)) ∧ (n = 19 → (pFin_19T c s g l).val = some (finX c s g l)) ∧ (n = 23 → (pFin_23T c s g l).val = some (finX c s g l)) ∧ (n = 30 → (pFin_30T c s g l).val = some (finX c s g l)) ∧ (n = 35 → (pFin_35T c s g l).val = some (finX c s g l)) ∧ (n = 41 → (pFin_41T c s g l).val = some (finX c s g l)) ∧ (n = 46 → (pFin_46T c s g l).val = some (finX c s g l)) := by
  refine ⟨?_, ?_, ?_, ?_, ?_, ?_, ?_, ?_, ?_⟩
  all_goals intro e; subst e
  all_goals simp only [pFin_4T, pFin_8T, pFin_13T, pFin_19T, pFin_23T, pFin_30T, pFin_35T, pFin_41T, pFin_46T, RT.val, rgx]
  all_goals simp only [qat0, mat0, qat1, mat1, rg0, hk, internal_eq, qPair_eq, qReg_eq, qTaken_eq, mTaken_eq, qBehind_eq, mBehind_eq, qJoin1, mWord1, qJoin3, qOp_eq, rStepped_eq, on_eq, finX, spOf]
  all_goals generalize rInternal s = bi
  all_goals cases bi with
  | true => simp [wPC, wSP]
  | false =>
    generalize (s == 5) = bs
    simp only [finI, hk, finR, wPC, wSP, wA, wF, fCY, fVCY, spOfR, flOf, behindX, pcOf, joinX]
    generalize rDecode c.1 (g.getD 0 0) = i at hk ⊢
    simp (config := { implicitDefEqProofs := false }) [w_i64, qat_ok, mat_ok, hk]
theorem fp_4 (c) (s : Int) (g : List Int) (l) (n : Int) (hk : (rDecode c.1 (g.getD 0 0)).1 = n) : (n = 5 → (pFin_5T c s g l).val = some (finX c s g l)) ∧ (n = 9 → (pFin_9T c s g l).val = some (finX c s g l)) ∧ (n = 16 → (pFin_16T c s g l).val = some (finX c s g l)) ∧ (n = 20 → (pFin_20T c s g l).val = some (finX c s g l)) ∧ (n = 27 → (pFin_27T c s g l).val = some (finX c s g l)) ∧ (n = 32 → (pFin_32T c s g l).val = some (finX c s g l)) ∧ (n = 36 → (pFin_36T c s g l).val = some (finX c s g l)) ∧ (n = 42 → (pFin_42T c s g l).val = some (finX c s g l)) ∧ (n = 47 → (pFin_47T c s g l).val = some (finX c s g l)) := by
  refine ⟨?_, ?_, ?_, ?_, ?_, ?_, ?_, ?_, ?_⟩
  all_goals intro e; subst e
  all_goals simp only [pFin_5T, pFin_9T, pFin_16T, pFin_20T, pFin_27T, pFin_32T, pFin_36T, pFin_42T, pFin_47T, RT.val, rgx]
  all_goals simp only [qat0, mat0, qat1, mat1, rg0, hk, internal_eq, qPair_eq, qReg_eq, qTaken_eq, mTaken_eq, qBehind_eq, mBehind_eq, qJoin1, mWord1, qJoin3, qOp_eq, rStepped_eq, on_eq, finX, spOf]
  all_goals generalize rInternal s = bi
  all_goals cases bi with
  | true => simp [wPC, wSP]
  | false =>
    generalize (s == 5) = bs
    simp only [finI, hk, finR, wPC, wSP, wA, wF, fCY, fVCY, spOfR, flOf, behindX, pcOf, joinX]
    generalize rDecode c.1 (g.getD 0 0) = i at hk ⊢
    simp (config := { implicitDefEqProofs := false }) [w_i64, qat_ok, mat_ok, hk]
theorem fp_5 (c) (s : Int) (g : List Int) (l) (n : Int) (hk : (rDecode c.1 (g.getD 0 0)).1 = n) : (n = 2 → (pFin_2T c s g l).val = some (finX c s g l)) ∧ (n = 12 → (pFin_12T c s g l).val = some (finX c s g l)) := by
  refine ⟨?_, ?_⟩
  all_goals intro e; subst e
  all_goals simp only [pFin_2T, pFin_12T, RT.val, rgx]
  all_goals simp only [qat0, mat0, qat1, mat1, rg0, hk, internal_eq, qPair_eq, qReg_eq, qTaken_eq, mTaken_eq, qBehind_eq, mBehind_eq, qJoin1, mWord1, qJoin3, qOp_eq, rStepped_eq, on_eq, finX, spOf]
  all_goals generalize rInternal s = bi
  all_goals cases bi with
  | true => simp [wPC, wSP]
  | false =>
    generalize (s == 5) = bs
    simp only [finI, hk, finR, wPC, wSP, wA, wF, fCY, fVCY, spOfR, flOf, behindX, pcOf, joinX]
    generalize rDecode c.1 (g.getD 0 0) = i at hk ⊢
    generalize (i.2.2.2.1 == 6) = b0
    cases b0 <;> simp (config := { implicitDefEqProofs := false }) [w_i64, qat_ok, mat_ok, hk]
theorem fp_6 (c) (s : Int) (g : List Int) (l) (n : Int) (hk : (rDecode c.1 (g.getD 0 0)).1 = n) : (n = 14 → (pFin_14T c s g l).val = some (finX c s g l)) ∧ (n = 15 → (pFin_15T c s g l).val = some (finX c s g l)) := by
  refine ⟨?_, ?_⟩
  all_goals intro e; subst e
  all_goals simp only [pFin_14T, pFin_15T, RT.val, rgx]
  all_goals simp only [qat0, mat0, qat1, mat1, rg0, hk, internal_eq, qPair_eq, qReg_eq, qTaken_eq, mTaken_eq, qBehind_eq, mBehind_eq, qJoin1, mWord1, qJoin3, qOp_eq, rStepped_eq, on_eq, finX, spOf]
  all_goals generalize rInternal s = bi
  all_goals cases bi with
  | true => simp [wPC, wSP]
  | false =>
    generalize (s == 5) = bs
    simp only [finI, hk, finR, wPC, wSP, wA, wF, fCY, fVCY, spOfR, flOf, behindX, pcOf, joinX]
    generalize rDecode c.1 (g.getD 0 0) = i at hk ⊢
    generalize (i.2.2.1 == 6) = b0
    cases b0 <;> simp (config := { implicitDefEqProofs := false }) [w_i64, qat_ok, mat_ok, hk]
theorem fp_7 (c) (s : Int) (g : List Int) (l) (n : Int) (hk : (rDecode c.1 (g.getD 0 0)).1 = n) : (n = 24 → (pFin_24T c s g l).val = some (finX c s g l)) ∧ (n = 25 → (pFin_25T c s g l).val = some (finX c s g l)) ∧ (n = 26 → (pFin_26T c s g l).val = some (finX c s g l)) ∧ (n = 45 → (pFin_45T c s g l).val = some (finX c s g l)) := by
  refine ⟨?_, ?_, ?_, ?_⟩
  all_goals intro e; subst e
  all_goals simp only [pFin_24T, pFin_25T, pFin_26T, pFin_45T, RT.val, rgx]
  all_goals simp only [qat0, mat0, qat1, mat1, rg0, hk, internal_eq, qPair_eq, qReg_eq, qTaken_eq, mTaken_eq, qBehind_eq, mBehind_eq, qJoin1, mWord1, qJoin3, qOp_eq, rStepped_eq, on_eq, finX, spOf]
  all_goals generalize rInternal s = bi
  all_goals cases bi with
  | true => simp [wPC, wSP]
  | false =>
    generalize (s == 5) = bs
    simp only [finI, hk, finR, wPC, wSP, wA, wF, fCY, fVCY, spOfR, flOf, behindX, pcOf, joinX]
    generalize rDecode c.1 (g.getD 0 0) = i at hk ⊢
    generalize rHolds _ _ = b0
    cases b0 <;> simp (config := { implicitDefEqProofs := false }) [w_i64, qat_ok, mat_ok, hk]
theorem fp_8 (c) (s : Int) (g : List Int) (l) (n : Int) (hk : (rDecode c.1 (g.getD 0 0)).1 = n) : (n = 31 → (pFin_31T c s g l).val = some (finX c s g l)) := by
  skip
  all_goals intro e; subst e
  all_goals simp only [pFin_31T, RT.val, rgx]
  all_goals simp only [qat0, mat0, qat1, mat1, rg0, hk, internal_eq, qPair_eq, qReg_eq, qTaken_eq, mTaken_eq, qBehind_eq, mBehind_eq, qJoin1, mWord1, qJoin3, qOp_eq, rStepped_eq, on_eq, finX, spOf]
  all_goals generalize rInternal s = bi
  all_goals cases bi with
  | true => simp [wPC, wSP]
  | false =>
    generalize (s == 5) = bs
    simp only [finI, hk, finR, wPC, wSP, wA, wF, fCY, fVCY, spOfR, flOf, behindX, pcOf, joinX]
    generalize rDecode c.1 (g.getD 0 0) = i at hk ⊢
    generalize (i.2.2.2.2.1 == 3) = b0
    cases b0 <;> simp (config := { implicitDefEqProofs := false }) [w_i64, qat_ok, mat_ok, hk]
theorem fp_9 (c) (s : Int) (g : List Int) (l) (n : Int) (hk : (rDecode c.1 (g.getD 0 0)).1 = n) : (n = 38 → (pFin_38T c s g l).val = some (finX c s g l)) := by
  skip
  all_goals intro e; subst e
  all_goals simp only [pFin_38T, RT.val, rgx]
  all_goals simp only [qat0, mat0, qat1, mat1, rg0, hk, internal_eq, qPair_eq, qReg_eq, qTaken_eq, mTaken_eq, qBehind_eq, mBehind_eq, qJoin1, mWord1, qJoin3, qOp_eq, rStepped_eq, on_eq, finX, spOf]
  all_goals generalize rInternal s = bi
  all_goals cases bi with
  | true => simp [wPC, wSP]
  | false =>
    generalize (s == 5) = bs
    simp only [finI, hk, finR, wPC, wSP, wA, wF, fCY, fVCY, spOfR, flOf, behindX, pcOf, joinX]
    generalize rDecode c.1 (g.getD 0 0) = i at hk ⊢
    simp [w_i64, qat_ok, mat_ok, hk, rim_eq]
theorem fp_10 (c) (s : Int) (g : List Int) (l) (n : Int) (hk : (rDecode c.1 (g.getD 0 0)).1 = n) : (n = 39 → (pFin_39T c s g l).val = some (finX c s g l)) := by
  skip
  all_goals intro e; subst e
  all_goals simp only [pFin_39T, RT.val, rgx]
  all_goals simp only [qat0, mat0, qat1, mat1, rg0, hk, internal_eq, qPair_eq, qReg_eq, qTaken_eq, mTaken_eq, qBehind_eq, mBehind_eq, qJoin1, mWord1, qJoin3, qOp_eq, rStepped_eq, on_eq, finX, spOf]
  all_goals generalize rInternal s = bi
  all_goals cases bi with
  | true => simp [wPC, wSP]
  | false =>
    generalize (s == 5) = bs
    simp only [finI, hk, finR, wPC, wSP, wA, wF, fCY, fVCY, spOfR, flOf, behindX, pcOf, joinX]
    generalize rDecode c.1 (g.getD 0 0) = i at hk ⊢
    simp [w_i64, qat_ok, mat_ok, hk, rSim, rSimT, RT.val]
end
end Go.Proofs.YteboknglfjadoaaGreat
