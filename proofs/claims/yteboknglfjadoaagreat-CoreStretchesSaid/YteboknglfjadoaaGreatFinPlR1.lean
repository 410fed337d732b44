/-
  The state behind an instruction: the reference's is that of the plan, kind by kind. Conditions: none.
-/
import Derived.Test.YteboknglfjadoaaGreatFinRX
import Derived.Test.YteboknglfjadoaaGreatFin1
import Derived.Test.YteboknglfjadoaaGreatFin2
import Derived.Test.YteboknglfjadoaaGreatFin3
import Derived.Test.YteboknglfjadoaaGreatFin4
open Go Go.S3 Go.Proofs
set_option linter.unusedVariables false
set_option linter.unusedSimpArgs false
set_option maxRecDepth 100000
namespace Go.Proofs.YteboknglfjadoaaGreat
noncomputable section
theorem fr_1 (c) (s : Int) (g : List Int) (l) (hb : ∀ j : Nat, inR .u8 (g[j]?.getD 0)) (n : Int) (hk : (rDecode c.1 (g.getD 0 0)).1 = n) : (n = 1 → (rFin_1T c s g l).val = some (finX c s g l)) ∧ (n = 6 → (rFin_6T c s g l).val = some (finX c s g l)) ∧ (n = 10 → (rFin_10T c s g l).val = some (finX c s g l)) ∧ (n = 17 → (rFin_17T c s g l).val = some (finX c s g l)) ∧ (n = 21 → (rFin_21T c s g l).val = some (finX c s g l)) ∧ (n = 28 → (rFin_28T c s g l).val = some (finX c s g l)) ∧ (n = 33 → (rFin_33T c s g l).val = some (finX c s g l)) ∧ (n = 37 → (rFin_37T c s g l).val = some (finX c s g l)) ∧ (n = 43 → (rFin_43T c s g l).val = some (finX c s g l)) := by
  refine ⟨?_, ?_, ?_, ?_, ?_, ?_, ?_, ?_, ?_⟩
  all_goals intro e; subst e
  all_goals simp only [rFin_1T, rFin_6T, rFin_10T, rFin_17T, rFin_21T, rFin_28T, rFin_33T, rFin_37T, rFin_43T, RT.val, rgx]
  all_goals simp only [qat0, mat0, qat1, mat1, rg0, hk, internal_eq, qPair_eq, qReg_eq, qTaken_eq, mTaken_eq, qBehind_eq, mBehind_eq, qJoin1, mWord1, qJoin3, qOp_eq, rStepped_eq, on_eq, finX, spOf]
  all_goals generalize rInternal s = bi
  all_goals cases bi with
  | true => simp [wPC, wSP]
  | false =>
    generalize (s == 5) = bs
    simp only [finI, hk, finR, wPC, wSP, wA, wF, fCY, fVCY, spOfR, flOf, behindX, pcOf, joinX]
    generalize rDecode c.1 (g.getD 0 0) = i at hk ⊢
    simp (config := { implicitDefEqProofs := false }) [w_i64, qat_ok, mat_ok, hk, rset_up, rset_fl, rset_sp, rsp_up, rsp_fl, rpair_up, rsp_join, not_eq, hb]
theorem fr_2 (c) (s : Int) (g : List Int) (l) (hb : ∀ j : Nat, inR .u8 (g[j]?.getD 0)) (n : Int) (hk : (rDecode c.1 (g.getD 0 0)).1 = n) : (n = 3 → (rFin_3T c s g l).val = some (finX c s g l)) ∧ (n = 7 → (rFin_7T c s g l).val = some (finX c s g l)) ∧ (n = 11 → (rFin_11T c s g l).val = some (finX c s g l)) ∧ (n = 18 → (rFin_18T c s g l).val = some (finX c s g l)) ∧ (n = 22 → (rFin_22T c s g l).val = some (finX c s g l)) ∧ (n = 29 → (rFin_29T c s g l).val = some (finX c s g l)) ∧ (n = 34 → (rFin_34T c s g l).val = some (finX c s g l)) ∧ (n = 40 → (rFin_40T c s g l).val = some (finX c s g l)) ∧ (n = 44 → (rFin_44T c s g l).val = some (finX c s g l)) := by
  refine ⟨?_, ?_, ?_, ?_, ?_, ?_, ?_, ?_, ?_⟩
  all_goals intro e; subst e
  all_goals simp only [rFin_3T, rFin_7T, rFin_11T, rFin_18T, rFin_22T, rFin_29T, rFin_34T, rFin_40T, rFin_44T, RT.val, rgx]
  all_goals simp only [qat0, mat0, qat1, mat1, rg0, hk, internal_eq, qPair_eq, qReg_eq, qTaken_eq, mTaken_eq, qBehind_eq, mBehind_eq, qJoin1, mWord1, qJoin3, qOp_eq, rStepped_eq, on_eq, finX, spOf]
  all_goals generalize rInternal s = bi
  all_goals cases bi with
  | true => simp [wPC, wSP]
  | false =>
    generalize (s == 5) = bs
    simp only [finI, hk, finR, wPC, wSP, wA, wF, fCY, fVCY, spOfR, flOf, behindX, pcOf, joinX]
    generalize rDecode c.1 (g.getD 0 0) = i at hk ⊢
    simp (config := { implicitDefEqProofs := false }) [w_i64, qat_ok, mat_ok, hk, rset_up, rset_fl, rset_sp, rsp_up, rsp_fl, rpair_up, rsp_join, not_eq, hb]
theorem fr_3 (c) (s : Int) (g : List Int) (l) (hb : ∀ j : Nat, inR .u8 (g[j]?.getD 0)) (n : Int) (hk : (rDecode c.1 (g.getD 0 0)).1 = n) : (n = 4 → (rFin_4T c s g l).val = some (finX c s g l)) ∧ (n = 8 → (rFin_8T c s g l).val = some (finX c s g l)) ∧ (n = 13 → (rFin_13T c s g l).val = some (finX c s g l)) ∧ (n = 19 → (rFin_19T c s g l).val = some (finX c s g l)) ∧ (n = 23 → (rFin_23T c s g l).val = some (finX c s g l)) ∧ (n = 30 → (rFin_30T c s g l).val = some (finX c s g l)) ∧ (n = 35 → (rFin_35T c s g l).val = some (finX c s g l)) ∧ (n = 41 → (rFin_41T c s g l).val = some (finX c s g l)) ∧ (n = 46 → (rFin_46T c s g l).val = some (finX c s g l)) := by
  refine ⟨?_, ?_, ?_, ?_, ?_, ?_, ?_, ?_, ?_⟩
  all_goals intro e; subst e
  all_goals simp only [rFin_4T, rFin_8T, rFin_13T, rFin_19T, rFin_23T, rFin_30T, rFin_35T, rFin_41T, rFin_46T, RT.val, rgx]
  all_goals simp only [qat0, mat0, qat1, mat1, rg0, hk, internal_eq, qPair_eq, qReg_eq, qTaken_eq, mTaken_eq, qBehind_eq, mBehind_eq, qJoin1, mWord1, qJoin3, qOp_eq, rStepped_eq, on_eq, finX, spOf]
  all_goals generalize rInternal s = bi
  all_goals cases bi with
  | true => simp [wPC, wSP]
  | false =>
    generalize (s == 5) = bs
    simp only [finI, hk, finR, wPC, wSP, wA, wF, fCY, fVCY, spOfR, flOf, behindX, pcOf, joinX]
    generalize rDecode c.1 (g.getD 0 0) = i at hk ⊢
    simp (config := { implicitDefEqProofs := false }) [w_i64, qat_ok, mat_ok, hk, rset_up, rset_fl, rset_sp, rsp_up, rsp_fl, rpair_up, rsp_join, not_eq, hb]
theorem fr_4 (c) (s : Int) (g : List Int) (l) (hb : ∀ j : Nat, inR .u8 (g[j]?.getD 0)) (n : Int) (hk : (rDecode c.1 (g.getD 0 0)).1 = n) : (n = 5 → (rFin_5T c s g l).val = some (finX c s g l)) ∧ (n = 9 → (rFin_9T c s g l).val = some (finX c s g l)) ∧ (n = 16 → (rFin_16T c s g l).val = some (finX c s g l)) ∧ (n = 20 → (rFin_20T c s g l).val = some (finX c s g l)) ∧ (n = 27 → (rFin_27T c s g l).val = some (finX c s g l)) ∧ (n = 32 → (rFin_32T c s g l).val = some (finX c s g l)) ∧ (n = 36 → (rFin_36T c s g l).val = some (finX c s g l)) ∧ (n = 42 → (rFin_42T c s g l).val = some (finX c s g l)) ∧ (n = 47 → (rFin_47T c s g l).val = some (finX c s g l)) := by
  refine ⟨?_, ?_, ?_, ?_, ?_, ?_, ?_, ?_, ?_⟩
  all_goals intro e; subst e
  all_goals simp only [rFin_5T, rFin_9T, rFin_16T, rFin_20T, rFin_27T, rFin_32T, rFin_36T, rFin_42T, rFin_47T, RT.val, rgx]
  all_goals simp only [qat0, mat0, qat1, mat1, rg0, hk, internal_eq, qPair_eq, qReg_eq, qTaken_eq, mTaken_eq, qBehind_eq, mBehind_eq, qJoin1, mWord1, qJoin3, qOp_eq, rStepped_eq, on_eq, finX, spOf]
  all_goals generalize rInternal s = bi
  all_goals cases bi with
  | true => simp [wPC, wSP]
  | false =>
    generalize (s == 5) = bs
    simp only [finI, hk, finR, wPC, wSP, wA, wF, fCY, fVCY, spOfR, flOf, behindX, pcOf, joinX]
    generalize rDecode c.1 (g.getD 0 0) = i at hk ⊢
    simp (config := { implicitDefEqProofs := false }) [w_i64, qat_ok, mat_ok, hk, rset_up, rset_fl, rset_sp, rsp_up, rsp_fl, rpair_up, rsp_join, not_eq, hb]
theorem fr_5 (c) (s : Int) (g : List Int) (l) (hb : ∀ j : Nat, inR .u8 (g[j]?.getD 0)) (n : Int) (hk : (rDecode c.1 (g.getD 0 0)).1 = n) : (n = 2 → (rFin_2T c s g l).val = some (finX c s g l)) ∧ (n = 12 → (rFin_12T c s g l).val = some (finX c s g l)) := by
  refine ⟨?_, ?_⟩
  all_goals intro e; subst e
  all_goals simp only [rFin_2T, rFin_12T, RT.val, rgx]
  all_goals simp only [qat0, mat0, qat1, mat1, rg0, hk, internal_eq, qPair_eq, qReg_eq, qTaken_eq, mTaken_eq, qBehind_eq, mBehind_eq, qJoin1, mWord1, qJoin3, qOp_eq, rStepped_eq, on_eq, finX, spOf]
  all_goals generalize rInternal s = bi
  all_goals cases bi with
  | true => simp [wPC, wSP]
  | false =>
    generalize (s == 5) = bs
    simp only [finI, hk, finR, wPC, wSP, wA, wF, fCY, fVCY, spOfR, flOf, behindX, pcOf, joinX]
    generalize rDecode c.1 (g.getD 0 0) = i at hk ⊢
    generalize (i.2.2.2.1 == 6) = b0
    cases b0 <;> simp (config := { implicitDefEqProofs := false }) [w_i64, qat_ok, mat_ok, hk, rset_up, rset_fl, rset_sp, rsp_up, rsp_fl, rpair_up, rsp_join, not_eq, hb]
theorem fr_6 (c) (s : Int) (g : List Int) (l) (hb : ∀ j : Nat, inR .u8 (g[j]?.getD 0)) (n : Int) (hk : (rDecode c.1 (g.getD 0 0)).1 = n) : (n = 14 → (rFin_14T c s g l).val = some (finX c s g l)) ∧ (n = 15 → (rFin_15T c s g l).val = some (finX c s g l)) := by
  refine ⟨?_, ?_⟩
  all_goals intro e; subst e
  all_goals simp only [rFin_14T, rFin_15T, RT.val, rgx]
  all_goals simp only [qat0, mat0, qat1, mat1, rg0, hk, internal_eq, qPair_eq, qReg_eq, qTaken_eq, mTaken_eq, qBehind_eq, mBehind_eq, qJoin1, mWord1, qJoin3, qOp_eq, rStepped_eq, on_eq, finX, spOf]
  all_goals generalize rInternal s = bi
  all_goals cases bi with
  | true => simp [wPC, wSP]
  | false =>
    generalize (s == 5) = bs
    simp only [finI, hk, finR, wPC, wSP, wA, wF, fCY, fVCY, spOfR, flOf, behindX, pcOf, joinX]
    generalize rDecode c.1 (g.getD 0 0) = i at hk ⊢
    generalize (i.2.2.1 == 6) = b0
    cases b0 <;> simp (config := { implicitDefEqProofs := false }) [w_i64, qat_ok, mat_ok, hk, rset_up, rset_fl, rset_sp, rsp_up, rsp_fl, rpair_up, rsp_join, not_eq, hb]
theorem fr_7 (c) (s : Int) (g : List Int) (l) (hb : ∀ j : Nat, inR .u8 (g[j]?.getD 0)) (n : Int) (hk : (rDecode c.1 (g.getD 0 0)).1 = n) : (n = 24 → (rFin_24T c s g l).val = some (finX c s g l)) ∧ (n = 25 → (rFin_25T c s g l).val = some (finX c s g l)) ∧ (n = 26 → (rFin_26T c s g l).val = some (finX c s g l)) ∧ (n = 45 → (rFin_45T c s g l).val = some (finX c s g l)) := by
  refine ⟨?_, ?_, ?_, ?_⟩
  all_goals intro e; subst e
  all_goals simp only [rFin_24T, rFin_25T, rFin_26T, rFin_45T, RT.val, rgx]
  all_goals simp only [qat0, mat0, qat1, mat1, rg0, hk, internal_eq, qPair_eq, qReg_eq, qTaken_eq, mTaken_eq, qBehind_eq, mBehind_eq, qJoin1, mWord1, qJoin3, qOp_eq, rStepped_eq, on_eq, finX, spOf]
  all_goals generalize rInternal s = bi
  all_goals cases bi with
  | true => simp [wPC, wSP]
  | false =>
    generalize (s == 5) = bs
    simp only [finI, hk, finR, wPC, wSP, wA, wF, fCY, fVCY, spOfR, flOf, behindX, pcOf, joinX]
    generalize rDecode c.1 (g.getD 0 0) = i at hk ⊢
    generalize rHolds _ _ = b0
    cases b0 <;> simp (config := { implicitDefEqProofs := false }) [w_i64, qat_ok, mat_ok, hk, rset_up, rset_fl, rset_sp, rsp_up, rsp_fl, rpair_up, rsp_join, not_eq, hb]
theorem fr_8 (c) (s : Int) (g : List Int) (l) (hb : ∀ j : Nat, inR .u8 (g[j]?.getD 0)) (n : Int) (hk : (rDecode c.1 (g.getD 0 0)).1 = n) : (n = 31 → (rFin_31T c s g l).val = some (finX c s g l)) := by
  skip
  all_goals intro e; subst e
  all_goals simp only [rFin_31T, RT.val, rgx]
  all_goals simp only [qat0, mat0, qat1, mat1, rg0, hk, internal_eq, qPair_eq, qReg_eq, qTaken_eq, mTaken_eq, qBehind_eq, mBehind_eq, qJoin1, mWord1, qJoin3, qOp_eq, rStepped_eq, on_eq, finX, spOf]
  all_goals generalize rInternal s = bi
  all_goals cases bi with
  | true => simp [wPC, wSP]
  | false =>
    generalize (s == 5) = bs
    simp only [finI, hk, finR, wPC, wSP, wA, wF, fCY, fVCY, spOfR, flOf, behindX, pcOf, joinX]
    generalize rDecode c.1 (g.getD 0 0) = i at hk ⊢
    generalize (i.2.2.2.2.1 == 3) = b0
    cases b0 <;> simp (config := { implicitDefEqProofs := false }) [w_i64, qat_ok, mat_ok, hk, rset_up, rset_fl, rset_sp, rsp_up, rsp_fl, rpair_up, rsp_join, not_eq, hb, rSetPSW, rSetPSWT, RT.val]
theorem fr_9 (c) (s : Int) (g : List Int) (l) (hb : ∀ j : Nat, inR .u8 (g[j]?.getD 0)) (n : Int) (hk : (rDecode c.1 (g.getD 0 0)).1 = n) : (n = 38 → (rFin_38T c s g l).val = some (finX c s g l)) := by
  skip
  all_goals intro e; subst e
  all_goals simp only [rFin_38T, RT.val, rgx]
  all_goals simp only [qat0, mat0, qat1, mat1, rg0, hk, internal_eq, qPair_eq, qReg_eq, qTaken_eq, mTaken_eq, qBehind_eq, mBehind_eq, qJoin1, mWord1, qJoin3, qOp_eq, rStepped_eq, on_eq, finX, spOf]
  all_goals generalize rInternal s = bi
  all_goals cases bi with
  | true => simp [wPC, wSP]
  | false =>
    generalize (s == 5) = bs
    simp only [finI, hk, finR, wPC, wSP, wA, wF, fCY, fVCY, spOfR, flOf, behindX, pcOf, joinX]
    generalize rDecode c.1 (g.getD 0 0) = i at hk ⊢
    simp [w_i64, qat_ok, mat_ok, hk, rim_eq]
    rfl
theorem fr_10 (c) (s : Int) (g : List Int) (l) (hb : ∀ j : Nat, inR .u8 (g[j]?.getD 0)) (n : Int) (hk : (rDecode c.1 (g.getD 0 0)).1 = n) : (n = 39 → (rFin_39T c s g l).val = some (finX c s g l)) := by
  skip
  all_goals intro e; subst e
  all_goals simp only [rFin_39T, RT.val, rgx]
  all_goals simp only [qat0, mat0, qat1, mat1, rg0, hk, internal_eq, qPair_eq, qReg_eq, qTaken_eq, mTaken_eq, qBehind_eq, mBehind_eq, qJoin1, mWord1, qJoin3, qOp_eq, rStepped_eq, on_eq, finX, spOf]
  all_goals generalize rInternal s = bi
  all_goals cases bi with
  | true => simp [wPC, wSP]
  | false =>
    generalize (s == 5) = bs
    simp only [finI, hk, finR, wPC, wSP, wA, wF, fCY, fVCY, spOfR, flOf, behindX, pcOf, joinX]
    generalize rDecode c.1 (g.getD 0 0) = i at hk ⊢
    simp [w_i64, qat_ok, mat_ok, hk, rSim, rSimT, RT.val]
end
end Go.Proofs.YteboknglfjadoaaGreat
