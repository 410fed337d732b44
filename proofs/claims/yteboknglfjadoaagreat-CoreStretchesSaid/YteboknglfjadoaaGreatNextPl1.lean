/-
  The next machine cycle: the program's and the reference's are that of the plan, kind by kind. Conditions: none.
-/
import Derived.Test.YteboknglfjadoaaGreatPlan
import Derived.Test.YteboknglfjadoaaGreatNext1
import Derived.Test.YteboknglfjadoaaGreatNext2
import Derived.Test.YteboknglfjadoaaGreatNext3
import Derived.Test.YteboknglfjadoaaGreatNext4
open Go Go.S3 Go.Proofs
set_option linter.unusedVariables false
set_option linter.unusedSimpArgs false
set_option maxRecDepth 100000
namespace Go.Proofs.YteboknglfjadoaaGreat
noncomputable section
theorem nx_2 (c) (s : Int) (g : List Int) (n : Int) (hk : (rDecode c.1 (g.getD 0 0)).1 = n) : (n = 4 → (pNext_4T c s g).val = some (nextX c s g)) ∧ (n = 8 → (pNext_8T c s g).val = some (nextX c s g)) ∧ (n = 13 → (pNext_13T c s g).val = some (nextX c s g)) ∧ (n = 19 → (pNext_19T c s g).val = some (nextX c s g)) ∧ (n = 23 → (pNext_23T c s g).val = some (nextX c s g)) ∧ (n = 31 → (pNext_31T c s g).val = some (nextX c s g)) ∧ (n = 36 → (pNext_36T c s g).val = some (nextX c s g)) ∧ (n = 41 → (pNext_41T c s g).val = some (nextX c s g)) ∧ (n = 46 → (pNext_46T c s g).val = some (nextX c s g)) ∧ (n = 4 → (rNext_4T c s g).val = some (nextX c s g)) ∧ (n = 8 → (rNext_8T c s g).val = some (nextX c s g)) ∧ (n = 13 → (rNext_13T c s g).val = some (nextX c s g)) ∧ (n = 19 → (rNext_19T c s g).val = some (nextX c s g)) ∧ (n = 23 → (rNext_23T c s g).val = some (nextX c s g)) ∧ (n = 31 → (rNext_31T c s g).val = some (nextX c s g)) ∧ (n = 36 → (rNext_36T c s g).val = some (nextX c s g)) ∧ (n = 41 → (rNext_41T c s g).val = some (nextX c s g)) ∧ (n = 46 → (rNext_46T c s g).val = some (nextX c s g)) := by
  refine ⟨?_, ?_, ?_, ?_, ?_, ?_, ?_, ?_, ?_, ?_, ?_, ?_, ?_, ?_, ?_, ?_, ?_, ?_⟩
  all_goals intro e; subst e
  all_goals simp only [pNext_4T, pNext_8T, pNext_13T, pNext_19T, pNext_23T, pNext_31T, pNext_36T, pNext_41T, pNext_46T, rNext_4T, rNext_8T, rNext_13T, rNext_19T, rNext_23T, rNext_31T, rNext_36T, rNext_41T, rNext_46T, RT.val, fin3, pk]
  all_goals simp only [qat0, mat0, qat1, mat1, rg0, hk, internal_eq, qPair_eq, qReg_eq, qTaken_eq, mTaken_eq, qBehind_eq, mBehind_eq, qJoin1, mWord1, qCounted_eq, rStepped_eq, on_eq, nextX, planX, behindX, takenX]
  all_goals generalize rInternal s = bi
  all_goals generalize (s == 5) = bs
  all_goals cases g with
  | nil => cases bi <;> cases bs <;> simp [len00, pick_zero, pcOf, spOf, pushX]
  | cons o t =>
    simp only [List.getD_cons_zero] at hk
    simp only [len0, List.getD_cons_zero, bodyX, hk, targetX, takenX, behindX, countX, bne]
    generalize rDecode c.1 o = i at hk ⊢
    cases bi <;> cases bs <;> simp [pick_cons, pushX, popX, pcOf, spOf, opC, readW, writeW, joinX, idleX, w_i64, setI, R.get]
theorem nx_4 (c) (s : Int) (g : List Int) (n : Int) (hk : (rDecode c.1 (g.getD 0 0)).1 = n) : (n = 6 → (pNext_6T c s g).val = some (nextX c s g)) ∧ (n = 10 → (pNext_10T c s g).val = some (nextX c s g)) ∧ (n = 17 → (pNext_17T c s g).val = some (nextX c s g)) ∧ (n = 21 → (pNext_21T c s g).val = some (nextX c s g)) ∧ (n = 28 → (pNext_28T c s g).val = some (nextX c s g)) ∧ (n = 34 → (pNext_34T c s g).val = some (nextX c s g)) ∧ (n = 39 → (pNext_39T c s g).val = some (nextX c s g)) ∧ (n = 43 → (pNext_43T c s g).val = some (nextX c s g)) ∧ (n = 6 → (rNext_6T c s g).val = some (nextX c s g)) ∧ (n = 10 → (rNext_10T c s g).val = some (nextX c s g)) ∧ (n = 17 → (rNext_17T c s g).val = some (nextX c s g)) ∧ (n = 21 → (rNext_21T c s g).val = some (nextX c s g)) ∧ (n = 28 → (rNext_28T c s g).val = some (nextX c s g)) ∧ (n = 34 → (rNext_34T c s g).val = some (nextX c s g)) ∧ (n = 39 → (rNext_39T c s g).val = some (nextX c s g)) ∧ (n = 43 → (rNext_43T c s g).val = some (nextX c s g)) := by
  refine ⟨?_, ?_, ?_, ?_, ?_, ?_, ?_, ?_, ?_, ?_, ?_, ?_, ?_, ?_, ?_, ?_⟩
  all_goals intro e; subst e
  all_goals simp only [pNext_6T, pNext_10T, pNext_17T, pNext_21T, pNext_28T, pNext_34T, pNext_39T, pNext_43T, rNext_6T, rNext_10T, rNext_17T, rNext_21T, rNext_28T, rNext_34T, rNext_39T, rNext_43T, RT.val, fin3, pk]
  all_goals simp only [qat0, mat0, qat1, mat1, rg0, hk, internal_eq, qPair_eq, qReg_eq, qTaken_eq, mTaken_eq, qBehind_eq, mBehind_eq, qJoin1, mWord1, qCounted_eq, rStepped_eq, on_eq, nextX, planX, behindX, takenX]
  all_goals generalize rInternal s = bi
  all_goals generalize (s == 5) = bs
  all_goals cases g with
  | nil => cases bi <;> cases bs <;> simp [len00, pick_zero, pcOf, spOf, pushX]
  | cons o t =>
    simp only [List.getD_cons_zero] at hk
    simp only [len0, List.getD_cons_zero, bodyX, hk, targetX, takenX, behindX, countX, bne]
    generalize rDecode c.1 o = i at hk ⊢
    cases bi <;> cases bs <;> simp [pick_cons, pushX, popX, pcOf, spOf, opC, readW, writeW, joinX, idleX, w_i64, setI, R.get]
theorem nx_6 (c) (s : Int) (g : List Int) (n : Int) (hk : (rDecode c.1 (g.getD 0 0)).1 = n) : (n = 3 → (pNext_3T c s g).val = some (nextX c s g)) ∧ (n = 14 → (pNext_14T c s g).val = some (nextX c s g)) ∧ (n = 15 → (pNext_15T c s g).val = some (nextX c s g)) ∧ (n = 3 → (rNext_3T c s g).val = some (nextX c s g)) ∧ (n = 14 → (rNext_14T c s g).val = some (nextX c s g)) ∧ (n = 15 → (rNext_15T c s g).val = some (nextX c s g)) := by
  refine ⟨?_, ?_, ?_, ?_, ?_, ?_⟩
  all_goals intro e; subst e
  all_goals simp only [pNext_3T, pNext_14T, pNext_15T, rNext_3T, rNext_14T, rNext_15T, RT.val, fin3, pk]
  all_goals simp only [qat0, mat0, qat1, mat1, rg0, hk, internal_eq, qPair_eq, qReg_eq, qTaken_eq, mTaken_eq, qBehind_eq, mBehind_eq, qJoin1, mWord1, qCounted_eq, rStepped_eq, on_eq, nextX, planX, behindX, takenX]
  all_goals generalize rInternal s = bi
  all_goals generalize (s == 5) = bs
  all_goals cases g with
  | nil => cases bi <;> cases bs <;> simp [len00, pick_zero, pcOf, spOf, pushX]
  | cons o t =>
    simp only [List.getD_cons_zero] at hk
    simp only [len0, List.getD_cons_zero, bodyX, hk, targetX, takenX, behindX, countX, bne]
    generalize rDecode c.1 o = i at hk ⊢
    generalize (i.2.2.1 == 6) = b0
    cases b0 <;> cases bi <;> cases bs <;> simp [pick_cons, pushX, popX, pcOf, spOf, opC, readW, writeW, joinX, idleX, w_i64, setI, R.get]
theorem nx_8 (c) (s : Int) (g : List Int) (n : Int) (hk : (rDecode c.1 (g.getD 0 0)).1 = n) : (n = 24 → (pNext_24T c s g).val = some (nextX c s g)) ∧ (n = 25 → (pNext_25T c s g).val = some (nextX c s g)) ∧ (n = 24 → (rNext_24T c s g).val = some (nextX c s g)) ∧ (n = 25 → (rNext_25T c s g).val = some (nextX c s g)) := by
  refine ⟨?_, ?_, ?_, ?_⟩
  all_goals intro e; subst e
  all_goals simp only [pNext_24T, pNext_25T, rNext_24T, rNext_25T, RT.val, fin3, pk]
  all_goals simp only [qat0, mat0, qat1, mat1, rg0, hk, internal_eq, qPair_eq, qReg_eq, qTaken_eq, mTaken_eq, qBehind_eq, mBehind_eq, qJoin1, mWord1, qCounted_eq, rStepped_eq, on_eq, nextX, planX, behindX, takenX]
  all_goals generalize rInternal s = bi
  all_goals generalize (s == 5) = bs
  all_goals cases g with
  | nil => cases bi <;> cases bs <;> simp [len00, pick_zero, pcOf, spOf, pushX]
  | cons o t =>
    simp only [List.getD_cons_zero] at hk
    simp only [len0, List.getD_cons_zero, bodyX, hk, targetX, takenX, behindX, countX, bne]
    generalize rDecode c.1 o = i at hk ⊢
    generalize rHolds _ _ = b0
    generalize (c.1 == 2) = b1
    cases b0 <;> cases b1 <;> cases bi <;> cases bs <;> simp [pick_cons, pushX, popX, pcOf, spOf, opC, readW, writeW, joinX, idleX, w_i64, setI, R.get]
theorem nx_10 (c) (s : Int) (g : List Int) (n : Int) (hk : (rDecode c.1 (g.getD 0 0)).1 = n) : (n = 30 → (pNext_30T c s g).val = some (nextX c s g)) ∧ (n = 30 → (rNext_30T c s g).val = some (nextX c s g)) := by
  refine ⟨?_, ?_⟩
  all_goals intro e; subst e
  all_goals simp only [pNext_30T, rNext_30T, RT.val, fin3, pk]
  all_goals simp only [qat0, mat0, qat1, mat1, rg0, hk, internal_eq, qPair_eq, qReg_eq, qTaken_eq, mTaken_eq, qBehind_eq, mBehind_eq, qJoin1, mWord1, qCounted_eq, rStepped_eq, on_eq, nextX, planX, behindX, takenX]
  all_goals generalize rInternal s = bi
  all_goals generalize (s == 5) = bs
  all_goals cases g with
  | nil => cases bi <;> cases bs <;> simp [len00, pick_zero, pcOf, spOf, pushX]
  | cons o t =>
    simp only [List.getD_cons_zero] at hk
    simp only [len0, List.getD_cons_zero, bodyX, hk, targetX, takenX, behindX, countX, bne]
    generalize rDecode c.1 o = i at hk ⊢
    generalize (i.2.2.2.2.1 == 3) = b0
    cases b0 <;> cases bi <;> cases bs <;> simp [pick_cons, pushX, popX, pcOf, spOf, opC, readW, writeW, joinX, idleX, w_i64, setI, R.get]
end
end Go.Proofs.YteboknglfjadoaaGreat
