/-
  The next machine cycle: the program's and the reference's are that of the plan, kind by kind. Conditions: none.
-/
import Derived.Test.YtiflfdlglncjlaaGreatPlan
import Derived.Test.YtiflfdlglncjlaaGreatNext1
import Derived.Test.YtiflfdlglncjlaaGreatNext2
import Derived.Test.YtiflfdlglncjlaaGreatNext3
import Derived.Test.YtiflfdlglncjlaaGreatNext4
open Go Go.S3 Go.Proofs
set_option linter.unusedVariables false
set_option linter.unusedSimpArgs false
set_option maxRecDepth 100000
namespace Go.Proofs.YtiflfdlglncjlaaGreat
noncomputable section
theorem pn_1 (c) (s : Int) (g : List Int) (hk : (rDecode c.1 (g.getD 0 0)).1 = 1) : (pNext_1T c s g).val = some (nextX c s g) := by
  simp only [pNext_1T, RT.val, pk]
  simp only [qat0, mat0, qat1, mat1, rg0, hk, internal_eq, qPair_eq, qReg_eq, qTaken_eq, mTaken_eq, qBehind_eq, mBehind_eq, qJoin1, mWord1, qCounted_eq, rStepped_eq, on_eq, nextX, planX, behindX, takenX]
  generalize rInternal s = bi
  generalize (s == 5) = bs
  cases g with
  | nil => cases bi <;> cases bs <;> simp [len00, pick_zero, pcOf, spOf, pushX]
  | cons o t =>
    simp only [List.getD_cons_zero] at hk
    simp only [len0, List.getD_cons_zero, bodyX, hk, targetX, takenX, behindX, countX, bne]
    generalize rDecode c.1 o = i at hk ⊢
    cases bi <;> cases bs <;> simp [pick_cons, pushX, popX, pcOf, spOf, opC, readW, writeW, joinX, idleX, w_i64, setI, R.get]
theorem rn_1 (c) (s : Int) (g : List Int) (hk : (rDecode c.1 (g.getD 0 0)).1 = 1) : (rNext_1T c s g).val = some (nextX c s g) := by
  simp only [rNext_1T, RT.val, pk]
  simp only [qat0, mat0, qat1, mat1, rg0, hk, internal_eq, qPair_eq, qReg_eq, qTaken_eq, mTaken_eq, qBehind_eq, mBehind_eq, qJoin1, mWord1, qCounted_eq, rStepped_eq, on_eq, nextX, planX, behindX, takenX]
  generalize rInternal s = bi
  generalize (s == 5) = bs
  cases g with
  | nil => cases bi <;> cases bs <;> simp [len00, pick_zero, pcOf, spOf, pushX]
  | cons o t =>
    simp only [List.getD_cons_zero] at hk
    simp only [len0, List.getD_cons_zero, bodyX, hk, targetX, takenX, behindX, countX, bne]
    generalize rDecode c.1 o = i at hk ⊢
    cases bi <;> cases bs <;> simp [pick_cons, pushX, popX, pcOf, spOf, opC, readW, writeW, joinX, idleX, w_i64, setI, R.get]
theorem pn_2 (c) (s : Int) (g : List Int) (hk : (rDecode c.1 (g.getD 0 0)).1 = 2) : (pNext_2T c s g).val = some (nextX c s g) := by
  simp only [pNext_2T, RT.val, pk]
  simp only [qat0, mat0, qat1, mat1, rg0, hk, internal_eq, qPair_eq, qReg_eq, qTaken_eq, mTaken_eq, qBehind_eq, mBehind_eq, qJoin1, mWord1, qCounted_eq, rStepped_eq, on_eq, nextX, planX, behindX, takenX]
  generalize rInternal s = bi
  generalize (s == 5) = bs
  cases g with
  | nil => cases bi <;> cases bs <;> simp [len00, pick_zero, pcOf, spOf, pushX]
  | cons o t =>
    simp only [List.getD_cons_zero] at hk
    simp only [len0, List.getD_cons_zero, bodyX, hk, targetX, takenX, behindX, countX, bne]
    generalize rDecode c.1 o = i at hk ⊢
    generalize (i.2.2.2.1 == 6) = b0
    generalize (i.2.2.1 == 6) = b1
    cases b0 <;> cases b1 <;> cases bi <;> cases bs <;> simp [pick_cons, pushX, popX, pcOf, spOf, opC, readW, writeW, joinX, idleX, w_i64, setI, R.get]
theorem rn_2 (c) (s : Int) (g : List Int) (hk : (rDecode c.1 (g.getD 0 0)).1 = 2) : (rNext_2T c s g).val = some (nextX c s g) := by
  simp only [rNext_2T, RT.val, pk]
  simp only [qat0, mat0, qat1, mat1, rg0, hk, internal_eq, qPair_eq, qReg_eq, qTaken_eq, mTaken_eq, qBehind_eq, mBehind_eq, qJoin1, mWord1, qCounted_eq, rStepped_eq, on_eq, nextX, planX, behindX, takenX]
  generalize rInternal s = bi
  generalize (s == 5) = bs
  cases g with
  | nil => cases bi <;> cases bs <;> simp [len00, pick_zero, pcOf, spOf, pushX]
  | cons o t =>
    simp only [List.getD_cons_zero] at hk
    simp only [len0, List.getD_cons_zero, bodyX, hk, targetX, takenX, behindX, countX, bne]
    generalize rDecode c.1 o = i at hk ⊢
    generalize (i.2.2.2.1 == 6) = b0
    generalize (i.2.2.1 == 6) = b1
    cases b0 <;> cases b1 <;> cases bi <;> cases bs <;> simp [pick_cons, pushX, popX, pcOf, spOf, opC, readW, writeW, joinX, idleX, w_i64, setI, R.get]
theorem pn_3 (c) (s : Int) (g : List Int) (hk : (rDecode c.1 (g.getD 0 0)).1 = 3) : (pNext_3T c s g).val = some (nextX c s g) := by
  simp only [pNext_3T, RT.val, pk]
  simp only [qat0, mat0, qat1, mat1, rg0, hk, internal_eq, qPair_eq, qReg_eq, qTaken_eq, mTaken_eq, qBehind_eq, mBehind_eq, qJoin1, mWord1, qCounted_eq, rStepped_eq, on_eq, nextX, planX, behindX, takenX]
  generalize rInternal s = bi
  generalize (s == 5) = bs
  cases g with
  | nil => cases bi <;> cases bs <;> simp [len00, pick_zero, pcOf, spOf, pushX]
  | cons o t =>
    simp only [List.getD_cons_zero] at hk
    simp only [len0, List.getD_cons_zero, bodyX, hk, targetX, takenX, behindX, countX, bne]
    generalize rDecode c.1 o = i at hk ⊢
    generalize (i.2.2.1 == 6) = b0
    cases b0 <;> cases bi <;> cases bs <;> simp [pick_cons, pushX, popX, pcOf, spOf, opC, readW, writeW, joinX, idleX, w_i64, setI, R.get]
theorem rn_3 (c) (s : Int) (g : List Int) (hk : (rDecode c.1 (g.getD 0 0)).1 = 3) : (rNext_3T c s g).val = some (nextX c s g) := by
  simp only [rNext_3T, RT.val, pk]
  simp only [qat0, mat0, qat1, mat1, rg0, hk, internal_eq, qPair_eq, qReg_eq, qTaken_eq, mTaken_eq, qBehind_eq, mBehind_eq, qJoin1, mWord1, qCounted_eq, rStepped_eq, on_eq, nextX, planX, behindX, takenX]
  generalize rInternal s = bi
  generalize (s == 5) = bs
  cases g with
  | nil => cases bi <;> cases bs <;> simp [len00, pick_zero, pcOf, spOf, pushX]
  | cons o t =>
    simp only [List.getD_cons_zero] at hk
    simp only [len0, List.getD_cons_zero, bodyX, hk, targetX, takenX, behindX, countX, bne]
    generalize rDecode c.1 o = i at hk ⊢
    generalize (i.2.2.1 == 6) = b0
    cases b0 <;> cases bi <;> cases bs <;> simp [pick_cons, pushX, popX, pcOf, spOf, opC, readW, writeW, joinX, idleX, w_i64, setI, R.get]
theorem pn_4 (c) (s : Int) (g : List Int) (hk : (rDecode c.1 (g.getD 0 0)).1 = 4) : (pNext_4T c s g).val = some (nextX c s g) := by
  simp only [pNext_4T, RT.val, pk]
  simp only [qat0, mat0, qat1, mat1, rg0, hk, internal_eq, qPair_eq, qReg_eq, qTaken_eq, mTaken_eq, qBehind_eq, mBehind_eq, qJoin1, mWord1, qCounted_eq, rStepped_eq, on_eq, nextX, planX, behindX, takenX]
  generalize rInternal s = bi
  generalize (s == 5) = bs
  cases g with
  | nil => cases bi <;> cases bs <;> simp [len00, pick_zero, pcOf, spOf, pushX]
  | cons o t =>
    simp only [List.getD_cons_zero] at hk
    simp only [len0, List.getD_cons_zero, bodyX, hk, targetX, takenX, behindX, countX, bne]
    generalize rDecode c.1 o = i at hk ⊢
    cases bi <;> cases bs <;> simp [pick_cons, pushX, popX, pcOf, spOf, opC, readW, writeW, joinX, idleX, w_i64, setI, R.get]
theorem rn_4 (c) (s : Int) (g : List Int) (hk : (rDecode c.1 (g.getD 0 0)).1 = 4) : (rNext_4T c s g).val = some (nextX c s g) := by
  simp only [rNext_4T, RT.val, pk]
  simp only [qat0, mat0, qat1, mat1, rg0, hk, internal_eq, qPair_eq, qReg_eq, qTaken_eq, mTaken_eq, qBehind_eq, mBehind_eq, qJoin1, mWord1, qCounted_eq, rStepped_eq, on_eq, nextX, planX, behindX, takenX]
  generalize rInternal s = bi
  generalize (s == 5) = bs
  cases g with
  | nil => cases bi <;> cases bs <;> simp [len00, pick_zero, pcOf, spOf, pushX]
  | cons o t =>
    simp only [List.getD_cons_zero] at hk
    simp only [len0, List.getD_cons_zero, bodyX, hk, targetX, takenX, behindX, countX, bne]
    generalize rDecode c.1 o = i at hk ⊢
    cases bi <;> cases bs <;> simp [pick_cons, pushX, popX, pcOf, spOf, opC, readW, writeW, joinX, idleX, w_i64, setI, R.get]
theorem pn_5 (c) (s : Int) (g : List Int) (hk : (rDecode c.1 (g.getD 0 0)).1 = 5) : (pNext_5T c s g).val = some (nextX c s g) := by
  simp only [pNext_5T, RT.val, pk]
  simp only [qat0, mat0, qat1, mat1, rg0, hk, internal_eq, qPair_eq, qReg_eq, qTaken_eq, mTaken_eq, qBehind_eq, mBehind_eq, qJoin1, mWord1, qCounted_eq, rStepped_eq, on_eq, nextX, planX, behindX, takenX]
  generalize rInternal s = bi
  generalize (s == 5) = bs
  cases g with
  | nil => cases bi <;> cases bs <;> simp [len00, pick_zero, pcOf, spOf, pushX]
  | cons o t =>
    simp only [List.getD_cons_zero] at hk
    simp only [len0, List.getD_cons_zero, bodyX, hk, targetX, takenX, behindX, countX, bne]
    generalize rDecode c.1 o = i at hk ⊢
    cases bi <;> cases bs <;> simp [pick_cons, pushX, popX, pcOf, spOf, opC, readW, writeW, joinX, idleX, w_i64, setI, R.get]
theorem rn_5 (c) (s : Int) (g : List Int) (hk : (rDecode c.1 (g.getD 0 0)).1 = 5) : (rNext_5T c s g).val = some (nextX c s g) := by
  simp only [rNext_5T, RT.val, pk]
  simp only [qat0, mat0, qat1, mat1, rg0, hk, internal_eq, qPair_eq, qReg_eq, qTaken_eq, mTaken_eq, qBehind_eq, mBehind_eq, qJoin1, mWord1, qCounted_eq, rStepped_eq, on_eq, nextX, planX, behindX, takenX]
  generalize rInternal s = bi
  generalize (s == 5) = bs
  cases g with
  | nil => cases bi <;> cases bs <;> simp [len00, pick_zero, pcOf, spOf, pushX]
  | cons o t =>
    simp only [List.getD_cons_zero] at hk
    simp only [len0, List.getD_cons_zero, bodyX, hk, targetX, takenX, behindX, countX, bne]
    generalize rDecode c.1 o = i at hk ⊢
    cases bi <;> cases bs <;> simp [pick_cons, pushX, popX, pcOf, spOf, opC, readW, writeW, joinX, idleX, w_i64, setI, R.get]
theorem pn_6 (c) (s : Int) (g : List Int) (hk : (rDecode c.1 (g.getD 0 0)).1 = 6) : (pNext_6T c s g).val = some (nextX c s g) := by
  simp only [pNext_6T, RT.val, pk]
  simp only [qat0, mat0, qat1, mat1, rg0, hk, internal_eq, qPair_eq, qReg_eq, qTaken_eq, mTaken_eq, qBehind_eq, mBehind_eq, qJoin1, mWord1, qCounted_eq, rStepped_eq, on_eq, nextX, planX, behindX, takenX]
  generalize rInternal s = bi
  generalize (s == 5) = bs
  cases g with
  | nil => cases bi <;> cases bs <;> simp [len00, pick_zero, pcOf, spOf, pushX]
  | cons o t =>
    simp only [List.getD_cons_zero] at hk
    simp only [len0, List.getD_cons_zero, bodyX, hk, targetX, takenX, behindX, countX, bne]
    generalize rDecode c.1 o = i at hk ⊢
    cases bi <;> cases bs <;> simp [pick_cons, pushX, popX, pcOf, spOf, opC, readW, writeW, joinX, idleX, w_i64, setI, R.get]
theorem rn_6 (c) (s : Int) (g : List Int) (hk : (rDecode c.1 (g.getD 0 0)).1 = 6) : (rNext_6T c s g).val = some (nextX c s g) := by
  simp only [rNext_6T, RT.val, pk]
  simp only [qat0, mat0, qat1, mat1, rg0, hk, internal_eq, qPair_eq, qReg_eq, qTaken_eq, mTaken_eq, qBehind_eq, mBehind_eq, qJoin1, mWord1, qCounted_eq, rStepped_eq, on_eq, nextX, planX, behindX, takenX]
  generalize rInternal s = bi
  generalize (s == 5) = bs
  cases g with
  | nil => cases bi <;> cases bs <;> simp [len00, pick_zero, pcOf, spOf, pushX]
  | cons o t =>
    simp only [List.getD_cons_zero] at hk
    simp only [len0, List.getD_cons_zero, bodyX, hk, targetX, takenX, behindX, countX, bne]
    generalize rDecode c.1 o = i at hk ⊢
    cases bi <;> cases bs <;> simp [pick_cons, pushX, popX, pcOf, spOf, opC, readW, writeW, joinX, idleX, w_i64, setI, R.get]
theorem pn_7 (c) (s : Int) (g : List Int) (hk : (rDecode c.1 (g.getD 0 0)).1 = 7) : (pNext_7T c s g).val = some (nextX c s g) := by
  simp only [pNext_7T, RT.val, pk]
  simp only [qat0, mat0, qat1, mat1, rg0, hk, internal_eq, qPair_eq, qReg_eq, qTaken_eq, mTaken_eq, qBehind_eq, mBehind_eq, qJoin1, mWord1, qCounted_eq, rStepped_eq, on_eq, nextX, planX, behindX, takenX]
  generalize rInternal s = bi
  generalize (s == 5) = bs
  cases g with
  | nil => cases bi <;> cases bs <;> simp [len00, pick_zero, pcOf, spOf, pushX]
  | cons o t =>
    simp only [List.getD_cons_zero] at hk
    simp only [len0, List.getD_cons_zero, bodyX, hk, targetX, takenX, behindX, countX, bne]
    generalize rDecode c.1 o = i at hk ⊢
    cases bi <;> cases bs <;> simp [pick_cons, pushX, popX, pcOf, spOf, opC, readW, writeW, joinX, idleX, w_i64, setI, R.get]
theorem rn_7 (c) (s : Int) (g : List Int) (hk : (rDecode c.1 (g.getD 0 0)).1 = 7) : (rNext_7T c s g).val = some (nextX c s g) := by
  simp only [rNext_7T, RT.val, pk]
  simp only [qat0, mat0, qat1, mat1, rg0, hk, internal_eq, qPair_eq, qReg_eq, qTaken_eq, mTaken_eq, qBehind_eq, mBehind_eq, qJoin1, mWord1, qCounted_eq, rStepped_eq, on_eq, nextX, planX, behindX, takenX]
  generalize rInternal s = bi
  generalize (s == 5) = bs
  cases g with
  | nil => cases bi <;> cases bs <;> simp [len00, pick_zero, pcOf, spOf, pushX]
  | cons o t =>
    simp only [List.getD_cons_zero] at hk
    simp only [len0, List.getD_cons_zero, bodyX, hk, targetX, takenX, behindX, countX, bne]
    generalize rDecode c.1 o = i at hk ⊢
    cases bi <;> cases bs <;> simp [pick_cons, pushX, popX, pcOf, spOf, opC, readW, writeW, joinX, idleX, w_i64, setI, R.get]
theorem pn_8 (c) (s : Int) (g : List Int) (hk : (rDecode c.1 (g.getD 0 0)).1 = 8) : (pNext_8T c s g).val = some (nextX c s g) := by
  simp only [pNext_8T, RT.val, pk]
  simp only [qat0, mat0, qat1, mat1, rg0, hk, internal_eq, qPair_eq, qReg_eq, qTaken_eq, mTaken_eq, qBehind_eq, mBehind_eq, qJoin1, mWord1, qCounted_eq, rStepped_eq, on_eq, nextX, planX, behindX, takenX]
  generalize rInternal s = bi
  generalize (s == 5) = bs
  cases g with
  | nil => cases bi <;> cases bs <;> simp [len00, pick_zero, pcOf, spOf, pushX]
  | cons o t =>
    simp only [List.getD_cons_zero] at hk
    simp only [len0, List.getD_cons_zero, bodyX, hk, targetX, takenX, behindX, countX, bne]
    generalize rDecode c.1 o = i at hk ⊢
    cases bi <;> cases bs <;> simp [pick_cons, pushX, popX, pcOf, spOf, opC, readW, writeW, joinX, idleX, w_i64, setI, R.get]
theorem rn_8 (c) (s : Int) (g : List Int) (hk : (rDecode c.1 (g.getD 0 0)).1 = 8) : (rNext_8T c s g).val = some (nextX c s g) := by
  simp only [rNext_8T, RT.val, pk]
  simp only [qat0, mat0, qat1, mat1, rg0, hk, internal_eq, qPair_eq, qReg_eq, qTaken_eq, mTaken_eq, qBehind_eq, mBehind_eq, qJoin1, mWord1, qCounted_eq, rStepped_eq, on_eq, nextX, planX, behindX, takenX]
  generalize rInternal s = bi
  generalize (s == 5) = bs
  cases g with
  | nil => cases bi <;> cases bs <;> simp [len00, pick_zero, pcOf, spOf, pushX]
  | cons o t =>
    simp only [List.getD_cons_zero] at hk
    simp only [len0, List.getD_cons_zero, bodyX, hk, targetX, takenX, behindX, countX, bne]
    generalize rDecode c.1 o = i at hk ⊢
    cases bi <;> cases bs <;> simp [pick_cons, pushX, popX, pcOf, spOf, opC, readW, writeW, joinX, idleX, w_i64, setI, R.get]
theorem pn_9 (c) (s : Int) (g : List Int) (hk : (rDecode c.1 (g.getD 0 0)).1 = 9) : (pNext_9T c s g).val = some (nextX c s g) := by
  simp only [pNext_9T, RT.val, pk]
  simp only [qat0, mat0, qat1, mat1, rg0, hk, internal_eq, qPair_eq, qReg_eq, qTaken_eq, mTaken_eq, qBehind_eq, mBehind_eq, qJoin1, mWord1, qCounted_eq, rStepped_eq, on_eq, nextX, planX, behindX, takenX]
  generalize rInternal s = bi
  generalize (s == 5) = bs
  cases g with
  | nil => cases bi <;> cases bs <;> simp [len00, pick_zero, pcOf, spOf, pushX]
  | cons o t =>
    simp only [List.getD_cons_zero] at hk
    simp only [len0, List.getD_cons_zero, bodyX, hk, targetX, takenX, behindX, countX, bne]
    generalize rDecode c.1 o = i at hk ⊢
    cases bi <;> cases bs <;> simp [pick_cons, pushX, popX, pcOf, spOf, opC, readW, writeW, joinX, idleX, w_i64, setI, R.get]
theorem rn_9 (c) (s : Int) (g : List Int) (hk : (rDecode c.1 (g.getD 0 0)).1 = 9) : (rNext_9T c s g).val = some (nextX c s g) := by
  simp only [rNext_9T, RT.val, pk]
  simp only [qat0, mat0, qat1, mat1, rg0, hk, internal_eq, qPair_eq, qReg_eq, qTaken_eq, mTaken_eq, qBehind_eq, mBehind_eq, qJoin1, mWord1, qCounted_eq, rStepped_eq, on_eq, nextX, planX, behindX, takenX]
  generalize rInternal s = bi
  generalize (s == 5) = bs
  cases g with
  | nil => cases bi <;> cases bs <;> simp [len00, pick_zero, pcOf, spOf, pushX]
  | cons o t =>
    simp only [List.getD_cons_zero] at hk
    simp only [len0, List.getD_cons_zero, bodyX, hk, targetX, takenX, behindX, countX, bne]
    generalize rDecode c.1 o = i at hk ⊢
    cases bi <;> cases bs <;> simp [pick_cons, pushX, popX, pcOf, spOf, opC, readW, writeW, joinX, idleX, w_i64, setI, R.get]
theorem pn_10 (c) (s : Int) (g : List Int) (hk : (rDecode c.1 (g.getD 0 0)).1 = 10) : (pNext_10T c s g).val = some (nextX c s g) := by
  simp only [pNext_10T, RT.val, pk]
  simp only [qat0, mat0, qat1, mat1, rg0, hk, internal_eq, qPair_eq, qReg_eq, qTaken_eq, mTaken_eq, qBehind_eq, mBehind_eq, qJoin1, mWord1, qCounted_eq, rStepped_eq, on_eq, nextX, planX, behindX, takenX]
  generalize rInternal s = bi
  generalize (s == 5) = bs
  cases g with
  | nil => cases bi <;> cases bs <;> simp [len00, pick_zero, pcOf, spOf, pushX]
  | cons o t =>
    simp only [List.getD_cons_zero] at hk
    simp only [len0, List.getD_cons_zero, bodyX, hk, targetX, takenX, behindX, countX, bne]
    generalize rDecode c.1 o = i at hk ⊢
    cases bi <;> cases bs <;> simp [pick_cons, pushX, popX, pcOf, spOf, opC, readW, writeW, joinX, idleX, w_i64, setI, R.get]
theorem rn_10 (c) (s : Int) (g : List Int) (hk : (rDecode c.1 (g.getD 0 0)).1 = 10) : (rNext_10T c s g).val = some (nextX c s g) := by
  simp only [rNext_10T, RT.val, pk]
  simp only [qat0, mat0, qat1, mat1, rg0, hk, internal_eq, qPair_eq, qReg_eq, qTaken_eq, mTaken_eq, qBehind_eq, mBehind_eq, qJoin1, mWord1, qCounted_eq, rStepped_eq, on_eq, nextX, planX, behindX, takenX]
  generalize rInternal s = bi
  generalize (s == 5) = bs
  cases g with
  | nil => cases bi <;> cases bs <;> simp [len00, pick_zero, pcOf, spOf, pushX]
  | cons o t =>
    simp only [List.getD_cons_zero] at hk
    simp only [len0, List.getD_cons_zero, bodyX, hk, targetX, takenX, behindX, countX, bne]
    generalize rDecode c.1 o = i at hk ⊢
    cases bi <;> cases bs <;> simp [pick_cons, pushX, popX, pcOf, spOf, opC, readW, writeW, joinX, idleX, w_i64, setI, R.get]
theorem pn_11 (c) (s : Int) (g : List Int) (hk : (rDecode c.1 (g.getD 0 0)).1 = 11) : (pNext_11T c s g).val = some (nextX c s g) := by
  simp only [pNext_11T, RT.val, pk]
  simp only [qat0, mat0, qat1, mat1, rg0, hk, internal_eq, qPair_eq, qReg_eq, qTaken_eq, mTaken_eq, qBehind_eq, mBehind_eq, qJoin1, mWord1, qCounted_eq, rStepped_eq, on_eq, nextX, planX, behindX, takenX]
  generalize rInternal s = bi
  generalize (s == 5) = bs
  cases g with
  | nil => cases bi <;> cases bs <;> simp [len00, pick_zero, pcOf, spOf, pushX]
  | cons o t =>
    simp only [List.getD_cons_zero] at hk
    simp only [len0, List.getD_cons_zero, bodyX, hk, targetX, takenX, behindX, countX, bne]
    generalize rDecode c.1 o = i at hk ⊢
    cases bi <;> cases bs <;> simp [pick_cons, pushX, popX, pcOf, spOf, opC, readW, writeW, joinX, idleX, w_i64, setI, R.get]
theorem rn_11 (c) (s : Int) (g : List Int) (hk : (rDecode c.1 (g.getD 0 0)).1 = 11) : (rNext_11T c s g).val = some (nextX c s g) := by
  simp only [rNext_11T, RT.val, pk]
  simp only [qat0, mat0, qat1, mat1, rg0, hk, internal_eq, qPair_eq, qReg_eq, qTaken_eq, mTaken_eq, qBehind_eq, mBehind_eq, qJoin1, mWord1, qCounted_eq, rStepped_eq, on_eq, nextX, planX, behindX, takenX]
  generalize rInternal s = bi
  generalize (s == 5) = bs
  cases g with
  | nil => cases bi <;> cases bs <;> simp [len00, pick_zero, pcOf, spOf, pushX]
  | cons o t =>
    simp only [List.getD_cons_zero] at hk
    simp only [len0, List.getD_cons_zero, bodyX, hk, targetX, takenX, behindX, countX, bne]
    generalize rDecode c.1 o = i at hk ⊢
    cases bi <;> cases bs <;> simp [pick_cons, pushX, popX, pcOf, spOf, opC, readW, writeW, joinX, idleX, w_i64, setI, R.get]
theorem pn_12 (c) (s : Int) (g : List Int) (hk : (rDecode c.1 (g.getD 0 0)).1 = 12) : (pNext_12T c s g).val = some (nextX c s g) := by
  simp only [pNext_12T, RT.val, pk]
  simp only [qat0, mat0, qat1, mat1, rg0, hk, internal_eq, qPair_eq, qReg_eq, qTaken_eq, mTaken_eq, qBehind_eq, mBehind_eq, qJoin1, mWord1, qCounted_eq, rStepped_eq, on_eq, nextX, planX, behindX, takenX]
  generalize rInternal s = bi
  generalize (s == 5) = bs
  cases g with
  | nil => cases bi <;> cases bs <;> simp [len00, pick_zero, pcOf, spOf, pushX]
  | cons o t =>
    simp only [List.getD_cons_zero] at hk
    simp only [len0, List.getD_cons_zero, bodyX, hk, targetX, takenX, behindX, countX, bne]
    generalize rDecode c.1 o = i at hk ⊢
    generalize (i.2.2.2.1 == 6) = b0
    cases b0 <;> cases bi <;> cases bs <;> simp [pick_cons, pushX, popX, pcOf, spOf, opC, readW, writeW, joinX, idleX, w_i64, setI, R.get]
theorem rn_12 (c) (s : Int) (g : List Int) (hk : (rDecode c.1 (g.getD 0 0)).1 = 12) : (rNext_12T c s g).val = some (nextX c s g) := by
  simp only [rNext_12T, RT.val, pk]
  simp only [qat0, mat0, qat1, mat1, rg0, hk, internal_eq, qPair_eq, qReg_eq, qTaken_eq, mTaken_eq, qBehind_eq, mBehind_eq, qJoin1, mWord1, qCounted_eq, rStepped_eq, on_eq, nextX, planX, behindX, takenX]
  generalize rInternal s = bi
  generalize (s == 5) = bs
  cases g with
  | nil => cases bi <;> cases bs <;> simp [len00, pick_zero, pcOf, spOf, pushX]
  | cons o t =>
    simp only [List.getD_cons_zero] at hk
    simp only [len0, List.getD_cons_zero, bodyX, hk, targetX, takenX, behindX, countX, bne]
    generalize rDecode c.1 o = i at hk ⊢
    generalize (i.2.2.2.1 == 6) = b0
    cases b0 <;> cases bi <;> cases bs <;> simp [pick_cons, pushX, popX, pcOf, spOf, opC, readW, writeW, joinX, idleX, w_i64, setI, R.get]
end
end Go.Proofs.YtiflfdlglncjlaaGreat
