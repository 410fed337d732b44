/-
  The next machine cycle: the program's and the reference's are that of the plan, kind by kind. Conditions: none.
-/
import Derived.Test.YteboknglfjadoaaGreatPlan
import Derived.Test.YteboknglfjadoaaGreatNext1
import Derived.Test.YteboknglfjadoaaGreatNext2
import Derived.Test.YteboknglfjadoaaGreatNext3
import Derived.Test.YteboknglfjadoaaGreatNext4
open Go Go.S3 Go.Proofs
set_option linter.unusedVariables false
set_option linter.unusedSimpArgs false
set_option maxRecDepth 100000
namespace Go.Proofs.YteboknglfjadoaaGreat
noncomputable section
theorem nx_1 (c) (s : Int) (g : List Int) (n : Int) (hk : (rDecode c.1 (g.getD 0 0)).1 = n) : (n = 1 → (pNext_1T c s g).val = some (nextX c s g)) ∧ (n = 7 → (pNext_7T c s g).val = some (nextX c s g)) ∧ (n = 11 → (pNext_11T c s g).val = some (nextX c s g)) ∧ (n = 18 → (pNext_18T c s g).val = some (nextX c s g)) ∧ (n = 22 → (pNext_22T c s g).val = some (nextX c s g)) ∧ (n = 29 → (pNext_29T c s g).val = some (nextX c s g)) ∧ (n = 35 → (pNext_35T c s g).val = some (nextX c s g)) ∧ (n = 40 → (pNext_40T c s g).val = some (nextX c s g)) ∧ (n = 44 → (pNext_44T c s g).val = some (nextX c s g)) ∧ (n = 1 → (rNext_1T c s g).val = some (nextX c s g)) ∧ (n = 7 → (rNext_7T c s g).val = some (nextX c s g)) ∧ (n = 11 → (rNext_11T c s g).val = some (nextX c s g)) ∧ (n = 18 → (rNext_18T c s g).val = some (nextX c s g)) ∧ (n = 22 → (rNext_22T c s g).val = some (nextX c s g)) ∧ (n = 29 → (rNext_29T c s g).val = some (nextX c s g)) ∧ (n = 35 → (rNext_35T c s g).val = some (nextX c s g)) ∧ (n = 40 → (rNext_40T c s g).val = some (nextX c s g)) ∧ (n = 44 → (rNext_44T c s g).val = some (nextX c s g)) := by
  refine ⟨?_, ?_, ?_, ?_, ?_, ?_, ?_, ?_, ?_, ?_, ?_, ?_, ?_, ?_, ?_, ?_, ?_, ?_⟩
  all_goals intro e; subst e
  all_goals simp only [pNext_1T, pNext_7T, pNext_11T, pNext_18T, pNext_22T, pNext_29T, pNext_35T, pNext_40T, pNext_44T, rNext_1T, rNext_7T, rNext_11T, rNext_18T, rNext_22T, rNext_29T, rNext_35T, rNext_40T, rNext_44T, RT.val, fin3, pk]
  all_goals simp only [qat0, mat0, qat1, mat1, rg0, hk, internal_eq, qPair_eq, qReg_eq, qTaken_eq, mTaken_eq, qBehind_eq, mBehind_eq, qJoin1, mWord1, qCounted_eq, rStepped_eq, on_eq, nextX, planX, behindX, takenX]
  all_goals generalize rInternal s = bi
  all_goals generalize (s == 5) = bs
  all_goals cases g with
  | nil => cases bi <;> cases bs <;> simp [len00, pick_zero, pcOf, spOf, pushX]
  | cons o t =>
    simp only [List.getD_cons_zero] at hk
    simp only [len0, List.getD_cons_zero, bodyX, hk, targetX, takenX, behindX, countX, bne]
    generalize rDecode c.1 o = i at hk ⊢
    cases bi <;> cases bs <;> simp [pick_cons, pushX, popX, pcOf, spOf, opC, readW, writeW, joinX, idleX, w_i64, setI, R.get]
theorem nx_3 (c) (s : Int) (g : List Int) (n : Int) (hk : (rDecode c.1 (g.getD 0 0)).1 = n) : (n = 5 → (pNext_5T c s g).val = some (nextX c s g)) ∧ (n = 9 → (pNext_9T c s g).val = some (nextX c s g)) ∧ (n = 16 → (pNext_16T c s g).val = some (nextX c s g)) ∧ (n = 20 → (pNext_20T c s g).val = some (nextX c s g)) ∧ (n = 27 → (pNext_27T c s g).val = some (nextX c s g)) ∧ (n = 33 → (pNext_33T c s g).val = some (nextX c s g)) ∧ (n = 38 → (pNext_38T c s g).val = some (nextX c s g)) ∧ (n = 42 → (pNext_42T c s g).val = some (nextX c s g)) ∧ (n = 47 → (pNext_47T c s g).val = some (nextX c s g)) ∧ (n = 5 → (rNext_5T c s g).val = some (nextX c s g)) ∧ (n = 9 → (rNext_9T c s g).val = some (nextX c s g)) ∧ (n = 16 → (rNext_16T c s g).val = some (nextX c s g)) ∧ (n = 20 → (rNext_20T c s g).val = some (nextX c s g)) ∧ (n = 27 → (rNext_27T c s g).val = some (nextX c s g)) ∧ (n = 33 → (rNext_33T c s g).val = some (nextX c s g)) ∧ (n = 38 → (rNext_38T c s g).val = some (nextX c s g)) ∧ (n = 42 → (rNext_42T c s g).val = some (nextX c s g)) ∧ (n = 47 → (rNext_47T c s g).val = some (nextX c s g)) := by
  refine ⟨?_, ?_, ?_, ?_, ?_, ?_, ?_, ?_, ?_, ?_, ?_, ?_, ?_, ?_, ?_, ?_, ?_, ?_⟩
  all_goals intro e; subst e
  all_goals simp only [pNext_5T, pNext_9T, pNext_16T, pNext_20T, pNext_27T, pNext_33T, pNext_38T, pNext_42T, pNext_47T, rNext_5T, rNext_9T, rNext_16T, rNext_20T, rNext_27T, rNext_33T, rNext_38T, rNext_42T, rNext_47T, RT.val, fin3, pk]
  all_goals simp only [qat0, mat0, qat1, mat1, rg0, hk, internal_eq, qPair_eq, qReg_eq, qTaken_eq, mTaken_eq, qBehind_eq, mBehind_eq, qJoin1, mWord1, qCounted_eq, rStepped_eq, on_eq, nextX, planX, behindX, takenX]
  all_goals generalize rInternal s = bi
  all_goals generalize (s == 5) = bs
  all_goals cases g with
  | nil => cases bi <;> cases bs <;> simp [len00, pick_zero, pcOf, spOf, pushX]
  | cons o t =>
    simp only [List.getD_cons_zero] at hk
    simp only [len0, List.getD_cons_zero, bodyX, hk, targetX, takenX, behindX, countX, bne]
    generalize rDecode c.1 o = i at hk ⊢
    cases bi <;> cases bs <;> simp [pick_cons, pushX, popX, pcOf, spOf, opC, readW, writeW, joinX, idleX, w_i64, setI, R.get]
theorem nx_5 (c) (s : Int) (g : List Int) (n : Int) (hk : (rDecode c.1 (g.getD 0 0)).1 = n) : (n = 2 → (pNext_2T c s g).val = some (nextX c s g)) ∧ (n = 2 → (rNext_2T c s g).val = some (nextX c s g)) := by
  refine ⟨?_, ?_⟩
  all_goals intro e; subst e
  all_goals simp only [pNext_2T, rNext_2T, RT.val, fin3, pk]
  all_goals simp only [qat0, mat0, qat1, mat1, rg0, hk, internal_eq, qPair_eq, qReg_eq, qTaken_eq, mTaken_eq, qBehind_eq, mBehind_eq, qJoin1, mWord1, qCounted_eq, rStepped_eq, on_eq, nextX, planX, behindX, takenX]
  all_goals generalize rInternal s = bi
  all_goals generalize (s == 5) = bs
  all_goals cases g with
  | nil => cases bi <;> cases bs <;> simp [len00, pick_zero, pcOf, spOf, pushX]
  | cons o t =>
    simp only [List.getD_cons_zero] at hk
    simp only [len0, List.getD_cons_zero, bodyX, hk, targetX, takenX, behindX, countX, bne]
    generalize rDecode c.1 o = i at hk ⊢
    generalize (i.2.2.2.1 == 6) = b0
    generalize (i.2.2.1 == 6) = b1
    cases b0 <;> cases b1 <;> cases bi <;> cases bs <;> simp [pick_cons, pushX, popX, pcOf, spOf, opC, readW, writeW, joinX, idleX, w_i64, setI, R.get]
theorem nx_7 (c) (s : Int) (g : List Int) (n : Int) (hk : (rDecode c.1 (g.getD 0 0)).1 = n) : (n = 12 → (pNext_12T c s g).val = some (nextX c s g)) ∧ (n = 12 → (rNext_12T c s g).val = some (nextX c s g)) := by
  refine ⟨?_, ?_⟩
  all_goals intro e; subst e
  all_goals simp only [pNext_12T, rNext_12T, RT.val, fin3, pk]
  all_goals simp only [qat0, mat0, qat1, mat1, rg0, hk, internal_eq, qPair_eq, qReg_eq, qTaken_eq, mTaken_eq, qBehind_eq, mBehind_eq, qJoin1, mWord1, qCounted_eq, rStepped_eq, on_eq, nextX, planX, behindX, takenX]
  all_goals generalize rInternal s = bi
  all_goals generalize (s == 5) = bs
  all_goals cases g with
  | nil => cases bi <;> cases bs <;> simp [len00, pick_zero, pcOf, spOf, pushX]
  | cons o t =>
    simp only [List.getD_cons_zero] at hk
    simp only [len0, List.getD_cons_zero, bodyX, hk, targetX, takenX, behindX, countX, bne]
    generalize rDecode c.1 o = i at hk ⊢
    generalize (i.2.2.2.1 == 6) = b0
    cases b0 <;> cases bi <;> cases bs <;> simp [pick_cons, pushX, popX, pcOf, spOf, opC, readW, writeW, joinX, idleX, w_i64, setI, R.get]
theorem nx_9 (c) (s : Int) (g : List Int) (n : Int) (hk : (rDecode c.1 (g.getD 0 0)).1 = n) : (n = 26 → (pNext_26T c s g).val = some (nextX c s g)) ∧ (n = 45 → (pNext_45T c s g).val = some (nextX c s g)) ∧ (n = 26 → (rNext_26T c s g).val = some (nextX c s g)) ∧ (n = 45 → (rNext_45T c s g).val = some (nextX c s g)) := by
  refine ⟨?_, ?_, ?_, ?_⟩
  all_goals intro e; subst e
  all_goals simp only [pNext_26T, pNext_45T, rNext_26T, rNext_45T, RT.val, fin3, pk]
  all_goals simp only [qat0, mat0, qat1, mat1, rg0, hk, internal_eq, qPair_eq, qReg_eq, qTaken_eq, mTaken_eq, qBehind_eq, mBehind_eq, qJoin1, mWord1, qCounted_eq, rStepped_eq, on_eq, nextX, planX, behindX, takenX]
  all_goals generalize rInternal s = bi
  all_goals generalize (s == 5) = bs
  all_goals cases g with
  | nil => cases bi <;> cases bs <;> simp [len00, pick_zero, pcOf, spOf, pushX]
  | cons o t =>
    simp only [List.getD_cons_zero] at hk
    simp only [len0, List.getD_cons_zero, bodyX, hk, targetX, takenX, behindX, countX, bne]
    generalize rDecode c.1 o = i at hk ⊢
    generalize rHolds _ _ = b0
    cases b0 <;> cases bi <;> cases bs <;> simp [pick_cons, pushX, popX, pcOf, spOf, opC, readW, writeW, joinX, idleX, w_i64, setI, R.get]
theorem nx_11 (c) (s : Int) (g : List Int) (n : Int) (hk : (rDecode c.1 (g.getD 0 0)).1 = n) : (n = 32 → (pNext_32T c s g).val = some (nextX c s g)) ∧ (n = 37 → (pNext_37T c s g).val = some (nextX c s g)) ∧ (n = 32 → (rNext_32T c s g).val = some (nextX c s g)) ∧ (n = 37 → (rNext_37T c s g).val = some (nextX c s g)) := by
  refine ⟨?_, ?_, ?_, ?_⟩
  all_goals intro e; subst e
  all_goals simp only [pNext_32T, pNext_37T, rNext_32T, rNext_37T, RT.val, fin3, pk]
  all_goals simp only [qat0, mat0, qat1, mat1, rg0, hk, internal_eq, qPair_eq, qReg_eq, qTaken_eq, mTaken_eq, qBehind_eq, mBehind_eq, qJoin1, mWord1, qCounted_eq, rStepped_eq, on_eq, nextX, planX, behindX, takenX]
  all_goals generalize rInternal s = bi
  all_goals generalize (s == 5) = bs
  all_goals cases g with
  | nil => cases bi <;> cases bs <;> simp [len00, pick_zero, pcOf, spOf, pushX]
  | cons o t =>
    simp only [List.getD_cons_zero] at hk
    simp only [len0, List.getD_cons_zero, bodyX, hk, targetX, takenX, behindX, countX, bne]
    generalize rDecode c.1 o = i at hk ⊢
    generalize (c.1 == 2) = b0
    cases b0 <;> cases bi <;> cases bs <;> simp [pick_cons, pushX, popX, pcOf, spOf, opC, readW, writeW, joinX, idleX, w_i64, setI, R.get]
end
end Go.Proofs.YteboknglfjadoaaGreat
