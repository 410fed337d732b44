/-
  The next machine cycle: the program's and the reference's are that of the plan, kind by kind. Conditions: none.
-/
import Derived.Test.YtiflfdlglncjlaaGreatPlan
import Derived.Test.YtiflfdlglncjlaaGreatNext1
import Derived.Test.YtiflfdlglncjlaaGreatNext2
import Derived.Test.YtiflfdlglncjlaaGreatNext3
import Derived.Test.YtiflfdlglncjlaaGreatNext4
open Go Go.S3 Go.Proofs
set_option linter.unusedVariables false
set_option linter.unusedSimpArgs false
set_option maxRecDepth 100000
namespace Go.Proofs.YtiflfdlglncjlaaGreat
noncomputable section
theorem pn_25 (c) (s : Int) (g : List Int) (hk : (rDecode c.1 (g.getD 0 0)).1 = 25) : (pNext_25T c s g).val = some (nextX c s g) := by
  simp only [pNext_25T, RT.val, pk]
  simp only [qat0, mat0, qat1, mat1, rg0, hk, internal_eq, qPair_eq, qReg_eq, qTaken_eq, mTaken_eq, qBehind_eq, mBehind_eq, qJoin1, mWord1, qCounted_eq, rStepped_eq, on_eq, nextX, planX, behindX, takenX]
  generalize rInternal s = bi
  generalize (s == 5) = bs
  cases g with
  | nil => cases bi <;> cases bs <;> simp [len00, pick_zero, pcOf, spOf, pushX]
  | cons o t =>
    simp only [List.getD_cons_zero] at hk
    simp only [len0, List.getD_cons_zero, bodyX, hk, targetX, takenX, behindX, countX, bne]
    generalize rDecode c.1 o = i at hk ⊢
    generalize rHolds _ _ = b0
    generalize (c.1 == 2) = b1
    cases b0 <;> cases b1 <;> cases bi <;> cases bs <;> simp [pick_cons, pushX, popX, pcOf, spOf, opC, readW, writeW, joinX, idleX, w_i64, setI, R.get]
theorem rn_25 (c) (s : Int) (g : List Int) (hk : (rDecode c.1 (g.getD 0 0)).1 = 25) : (rNext_25T c s g).val = some (nextX c s g) := by
  simp only [rNext_25T, RT.val, pk]
  simp only [qat0, mat0, qat1, mat1, rg0, hk, internal_eq, qPair_eq, qReg_eq, qTaken_eq, mTaken_eq, qBehind_eq, mBehind_eq, qJoin1, mWord1, qCounted_eq, rStepped_eq, on_eq, nextX, planX, behindX, takenX]
  generalize rInternal s = bi
  generalize (s == 5) = bs
  cases g with
  | nil => cases bi <;> cases bs <;> simp [len00, pick_zero, pcOf, spOf, pushX]
  | cons o t =>
    simp only [List.getD_cons_zero] at hk
    simp only [len0, List.getD_cons_zero, bodyX, hk, targetX, takenX, behindX, countX, bne]
    generalize rDecode c.1 o = i at hk ⊢
    generalize rHolds _ _ = b0
    generalize (c.1 == 2) = b1
    cases b0 <;> cases b1 <;> cases bi <;> cases bs <;> simp [pick_cons, pushX, popX, pcOf, spOf, opC, readW, writeW, joinX, idleX, w_i64, setI, R.get]
theorem pn_26 (c) (s : Int) (g : List Int) (hk : (rDecode c.1 (g.getD 0 0)).1 = 26) : (pNext_26T c s g).val = some (nextX c s g) := by
  simp only [pNext_26T, RT.val, pk]
  simp only [qat0, mat0, qat1, mat1, rg0, hk, internal_eq, qPair_eq, qReg_eq, qTaken_eq, mTaken_eq, qBehind_eq, mBehind_eq, qJoin1, mWord1, qCounted_eq, rStepped_eq, on_eq, nextX, planX, behindX, takenX]
  generalize rInternal s = bi
  generalize (s == 5) = bs
  cases g with
  | nil => cases bi <;> cases bs <;> simp [len00, pick_zero, pcOf, spOf, pushX]
  | cons o t =>
    simp only [List.getD_cons_zero] at hk
    simp only [len0, List.getD_cons_zero, bodyX, hk, targetX, takenX, behindX, countX, bne]
    generalize rDecode c.1 o = i at hk ⊢
    generalize rHolds _ _ = b0
    cases b0 <;> cases bi <;> cases bs <;> simp [pick_cons, pushX, popX, pcOf, spOf, opC, readW, writeW, joinX, idleX, w_i64, setI, R.get]
theorem rn_26 (c) (s : Int) (g : List Int) (hk : (rDecode c.1 (g.getD 0 0)).1 = 26) : (rNext_26T c s g).val = some (nextX c s g) := by
  simp only [rNext_26T, RT.val, pk]
  simp only [qat0, mat0, qat1, mat1, rg0, hk, internal_eq, qPair_eq, qReg_eq, qTaken_eq, mTaken_eq, qBehind_eq, mBehind_eq, qJoin1, mWord1, qCounted_eq, rStepped_eq, on_eq, nextX, planX, behindX, takenX]
  generalize rInternal s = bi
  generalize (s == 5) = bs
  cases g with
  | nil => cases bi <;> cases bs <;> simp [len00, pick_zero, pcOf, spOf, pushX]
  | cons o t =>
    simp only [List.getD_cons_zero] at hk
    simp only [len0, List.getD_cons_zero, bodyX, hk, targetX, takenX, behindX, countX, bne]
    generalize rDecode c.1 o = i at hk ⊢
    generalize rHolds _ _ = b0
    cases b0 <;> cases bi <;> cases bs <;> simp [pick_cons, pushX, popX, pcOf, spOf, opC, readW, writeW, joinX, idleX, w_i64, setI, R.get]
theorem pn_27 (c) (s : Int) (g : List Int) (hk : (rDecode c.1 (g.getD 0 0)).1 = 27) : (pNext_27T c s g).val = some (nextX c s g) := by
  simp only [pNext_27T, RT.val, pk]
  simp only [qat0, mat0, qat1, mat1, rg0, hk, internal_eq, qPair_eq, qReg_eq, qTaken_eq, mTaken_eq, qBehind_eq, mBehind_eq, qJoin1, mWord1, qCounted_eq, rStepped_eq, on_eq, nextX, planX, behindX, takenX]
  generalize rInternal s = bi
  generalize (s == 5) = bs
  cases g with
  | nil => cases bi <;> cases bs <;> simp [len00, pick_zero, pcOf, spOf, pushX]
  | cons o t =>
    simp only [List.getD_cons_zero] at hk
    simp only [len0, List.getD_cons_zero, bodyX, hk, targetX, takenX, behindX, countX, bne]
    generalize rDecode c.1 o = i at hk ⊢
    cases bi <;> cases bs <;> simp [pick_cons, pushX, popX, pcOf, spOf, opC, readW, writeW, joinX, idleX, w_i64, setI, R.get]
theorem rn_27 (c) (s : Int) (g : List Int) (hk : (rDecode c.1 (g.getD 0 0)).1 = 27) : (rNext_27T c s g).val = some (nextX c s g) := by
  simp only [rNext_27T, RT.val, pk]
  simp only [qat0, mat0, qat1, mat1, rg0, hk, internal_eq, qPair_eq, qReg_eq, qTaken_eq, mTaken_eq, qBehind_eq, mBehind_eq, qJoin1, mWord1, qCounted_eq, rStepped_eq, on_eq, nextX, planX, behindX, takenX]
  generalize rInternal s = bi
  generalize (s == 5) = bs
  cases g with
  | nil => cases bi <;> cases bs <;> simp [len00, pick_zero, pcOf, spOf, pushX]
  | cons o t =>
    simp only [List.getD_cons_zero] at hk
    simp only [len0, List.getD_cons_zero, bodyX, hk, targetX, takenX, behindX, countX, bne]
    generalize rDecode c.1 o = i at hk ⊢
    cases bi <;> cases bs <;> simp [pick_cons, pushX, popX, pcOf, spOf, opC, readW, writeW, joinX, idleX, w_i64, setI, R.get]
theorem pn_28 (c) (s : Int) (g : List Int) (hk : (rDecode c.1 (g.getD 0 0)).1 = 28) : (pNext_28T c s g).val = some (nextX c s g) := by
  simp only [pNext_28T, RT.val, pk]
  simp only [qat0, mat0, qat1, mat1, rg0, hk, internal_eq, qPair_eq, qReg_eq, qTaken_eq, mTaken_eq, qBehind_eq, mBehind_eq, qJoin1, mWord1, qCounted_eq, rStepped_eq, on_eq, nextX, planX, behindX, takenX]
  generalize rInternal s = bi
  generalize (s == 5) = bs
  cases g with
  | nil => cases bi <;> cases bs <;> simp [len00, pick_zero, pcOf, spOf, pushX]
  | cons o t =>
    simp only [List.getD_cons_zero] at hk
    simp only [len0, List.getD_cons_zero, bodyX, hk, targetX, takenX, behindX, countX, bne]
    generalize rDecode c.1 o = i at hk ⊢
    cases bi <;> cases bs <;> simp [pick_cons, pushX, popX, pcOf, spOf, opC, readW, writeW, joinX, idleX, w_i64, setI, R.get]
theorem rn_28 (c) (s : Int) (g : List Int) (hk : (rDecode c.1 (g.getD 0 0)).1 = 28) : (rNext_28T c s g).val = some (nextX c s g) := by
  simp only [rNext_28T, RT.val, pk]
  simp only [qat0, mat0, qat1, mat1, rg0, hk, internal_eq, qPair_eq, qReg_eq, qTaken_eq, mTaken_eq, qBehind_eq, mBehind_eq, qJoin1, mWord1, qCounted_eq, rStepped_eq, on_eq, nextX, planX, behindX, takenX]
  generalize rInternal s = bi
  generalize (s == 5) = bs
  cases g with
  | nil => cases bi <;> cases bs <;> simp [len00, pick_zero, pcOf, spOf, pushX]
  | cons o t =>
    simp only [List.getD_cons_zero] at hk
    simp only [len0, List.getD_cons_zero, bodyX, hk, targetX, takenX, behindX, countX, bne]
    generalize rDecode c.1 o = i at hk ⊢
    cases bi <;> cases bs <;> simp [pick_cons, pushX, popX, pcOf, spOf, opC, readW, writeW, joinX, idleX, w_i64, setI, R.get]
theorem pn_29 (c) (s : Int) (g : List Int) (hk : (rDecode c.1 (g.getD 0 0)).1 = 29) : (pNext_29T c s g).val = some (nextX c s g) := by
  simp only [pNext_29T, RT.val, pk]
  simp only [qat0, mat0, qat1, mat1, rg0, hk, internal_eq, qPair_eq, qReg_eq, qTaken_eq, mTaken_eq, qBehind_eq, mBehind_eq, qJoin1, mWord1, qCounted_eq, rStepped_eq, on_eq, nextX, planX, behindX, takenX]
  generalize rInternal s = bi
  generalize (s == 5) = bs
  cases g with
  | nil => cases bi <;> cases bs <;> simp [len00, pick_zero, pcOf, spOf, pushX]
  | cons o t =>
    simp only [List.getD_cons_zero] at hk
    simp only [len0, List.getD_cons_zero, bodyX, hk, targetX, takenX, behindX, countX, bne]
    generalize rDecode c.1 o = i at hk ⊢
    cases bi <;> cases bs <;> simp [pick_cons, pushX, popX, pcOf, spOf, opC, readW, writeW, joinX, idleX, w_i64, setI, R.get]
theorem rn_29 (c) (s : Int) (g : List Int) (hk : (rDecode c.1 (g.getD 0 0)).1 = 29) : (rNext_29T c s g).val = some (nextX c s g) := by
  simp only [rNext_29T, RT.val, pk]
  simp only [qat0, mat0, qat1, mat1, rg0, hk, internal_eq, qPair_eq, qReg_eq, qTaken_eq, mTaken_eq, qBehind_eq, mBehind_eq, qJoin1, mWord1, qCounted_eq, rStepped_eq, on_eq, nextX, planX, behindX, takenX]
  generalize rInternal s = bi
  generalize (s == 5) = bs
  cases g with
  | nil => cases bi <;> cases bs <;> simp [len00, pick_zero, pcOf, spOf, pushX]
  | cons o t =>
    simp only [List.getD_cons_zero] at hk
    simp only [len0, List.getD_cons_zero, bodyX, hk, targetX, takenX, behindX, countX, bne]
    generalize rDecode c.1 o = i at hk ⊢
    cases bi <;> cases bs <;> simp [pick_cons, pushX, popX, pcOf, spOf, opC, readW, writeW, joinX, idleX, w_i64, setI, R.get]
theorem pn_30 (c) (s : Int) (g : List Int) (hk : (rDecode c.1 (g.getD 0 0)).1 = 30) : (pNext_30T c s g).val = some (nextX c s g) := by
  simp only [pNext_30T, RT.val, pk]
  simp only [qat0, mat0, qat1, mat1, rg0, hk, internal_eq, qPair_eq, qReg_eq, qTaken_eq, mTaken_eq, qBehind_eq, mBehind_eq, qJoin1, mWord1, qCounted_eq, rStepped_eq, on_eq, nextX, planX, behindX, takenX]
  generalize rInternal s = bi
  generalize (s == 5) = bs
  cases g with
  | nil => cases bi <;> cases bs <;> simp [len00, pick_zero, pcOf, spOf, pushX]
  | cons o t =>
    simp only [List.getD_cons_zero] at hk
    simp only [len0, List.getD_cons_zero, bodyX, hk, targetX, takenX, behindX, countX, bne]
    generalize rDecode c.1 o = i at hk ⊢
    generalize (i.2.2.2.2.1 == 3) = b0
    cases b0 <;> cases bi <;> cases bs <;> simp [pick_cons, pushX, popX, pcOf, spOf, opC, readW, writeW, joinX, idleX, w_i64, setI, R.get]
theorem rn_30 (c) (s : Int) (g : List Int) (hk : (rDecode c.1 (g.getD 0 0)).1 = 30) : (rNext_30T c s g).val = some (nextX c s g) := by
  simp only [rNext_30T, RT.val, pk]
  simp only [qat0, mat0, qat1, mat1, rg0, hk, internal_eq, qPair_eq, qReg_eq, qTaken_eq, mTaken_eq, qBehind_eq, mBehind_eq, qJoin1, mWord1, qCounted_eq, rStepped_eq, on_eq, nextX, planX, behindX, takenX]
  generalize rInternal s = bi
  generalize (s == 5) = bs
  cases g with
  | nil => cases bi <;> cases bs <;> simp [len00, pick_zero, pcOf, spOf, pushX]
  | cons o t =>
    simp only [List.getD_cons_zero] at hk
    simp only [len0, List.getD_cons_zero, bodyX, hk, targetX, takenX, behindX, countX, bne]
    generalize rDecode c.1 o = i at hk ⊢
    generalize (i.2.2.2.2.1 == 3) = b0
    cases b0 <;> cases bi <;> cases bs <;> simp [pick_cons, pushX, popX, pcOf, spOf, opC, readW, writeW, joinX, idleX, w_i64, setI, R.get]
theorem pn_31 (c) (s : Int) (g : List Int) (hk : (rDecode c.1 (g.getD 0 0)).1 = 31) : (pNext_31T c s g).val = some (nextX c s g) := by
  simp only [pNext_31T, RT.val, pk]
  simp only [qat0, mat0, qat1, mat1, rg0, hk, internal_eq, qPair_eq, qReg_eq, qTaken_eq, mTaken_eq, qBehind_eq, mBehind_eq, qJoin1, mWord1, qCounted_eq, rStepped_eq, on_eq, nextX, planX, behindX, takenX]
  generalize rInternal s = bi
  generalize (s == 5) = bs
  cases g with
  | nil => cases bi <;> cases bs <;> simp [len00, pick_zero, pcOf, spOf, pushX]
  | cons o t =>
    simp only [List.getD_cons_zero] at hk
    simp only [len0, List.getD_cons_zero, bodyX, hk, targetX, takenX, behindX, countX, bne]
    generalize rDecode c.1 o = i at hk ⊢
    cases bi <;> cases bs <;> simp [pick_cons, pushX, popX, pcOf, spOf, opC, readW, writeW, joinX, idleX, w_i64, setI, R.get]
theorem rn_31 (c) (s : Int) (g : List Int) (hk : (rDecode c.1 (g.getD 0 0)).1 = 31) : (rNext_31T c s g).val = some (nextX c s g) := by
  simp only [rNext_31T, RT.val, pk]
  simp only [qat0, mat0, qat1, mat1, rg0, hk, internal_eq, qPair_eq, qReg_eq, qTaken_eq, mTaken_eq, qBehind_eq, mBehind_eq, qJoin1, mWord1, qCounted_eq, rStepped_eq, on_eq, nextX, planX, behindX, takenX]
  generalize rInternal s = bi
  generalize (s == 5) = bs
  cases g with
  | nil => cases bi <;> cases bs <;> simp [len00, pick_zero, pcOf, spOf, pushX]
  | cons o t =>
    simp only [List.getD_cons_zero] at hk
    simp only [len0, List.getD_cons_zero, bodyX, hk, targetX, takenX, behindX, countX, bne]
    generalize rDecode c.1 o = i at hk ⊢
    cases bi <;> cases bs <;> simp [pick_cons, pushX, popX, pcOf, spOf, opC, readW, writeW, joinX, idleX, w_i64, setI, R.get]
theorem pn_32 (c) (s : Int) (g : List Int) (hk : (rDecode c.1 (g.getD 0 0)).1 = 32) : (pNext_32T c s g).val = some (nextX c s g) := by
  simp only [pNext_32T, RT.val, pk]
  simp only [qat0, mat0, qat1, mat1, rg0, hk, internal_eq, qPair_eq, qReg_eq, qTaken_eq, mTaken_eq, qBehind_eq, mBehind_eq, qJoin1, mWord1, qCounted_eq, rStepped_eq, on_eq, nextX, planX, behindX, takenX]
  generalize rInternal s = bi
  generalize (s == 5) = bs
  cases g with
  | nil => cases bi <;> cases bs <;> simp [len00, pick_zero, pcOf, spOf, pushX]
  | cons o t =>
    simp only [List.getD_cons_zero] at hk
    simp only [len0, List.getD_cons_zero, bodyX, hk, targetX, takenX, behindX, countX, bne]
    generalize rDecode c.1 o = i at hk ⊢
    generalize (c.1 == 2) = b0
    cases b0 <;> cases bi <;> cases bs <;> simp [pick_cons, pushX, popX, pcOf, spOf, opC, readW, writeW, joinX, idleX, w_i64, setI, R.get]
theorem rn_32 (c) (s : Int) (g : List Int) (hk : (rDecode c.1 (g.getD 0 0)).1 = 32) : (rNext_32T c s g).val = some (nextX c s g) := by
  simp only [rNext_32T, RT.val, pk]
  simp only [qat0, mat0, qat1, mat1, rg0, hk, internal_eq, qPair_eq, qReg_eq, qTaken_eq, mTaken_eq, qBehind_eq, mBehind_eq, qJoin1, mWord1, qCounted_eq, rStepped_eq, on_eq, nextX, planX, behindX, takenX]
  generalize rInternal s = bi
  generalize (s == 5) = bs
  cases g with
  | nil => cases bi <;> cases bs <;> simp [len00, pick_zero, pcOf, spOf, pushX]
  | cons o t =>
    simp only [List.getD_cons_zero] at hk
    simp only [len0, List.getD_cons_zero, bodyX, hk, targetX, takenX, behindX, countX, bne]
    generalize rDecode c.1 o = i at hk ⊢
    generalize (c.1 == 2) = b0
    cases b0 <;> cases bi <;> cases bs <;> simp [pick_cons, pushX, popX, pcOf, spOf, opC, readW, writeW, joinX, idleX, w_i64, setI, R.get]
theorem pn_33 (c) (s : Int) (g : List Int) (hk : (rDecode c.1 (g.getD 0 0)).1 = 33) : (pNext_33T c s g).val = some (nextX c s g) := by
  simp only [pNext_33T, RT.val, pk]
  simp only [qat0, mat0, qat1, mat1, rg0, hk, internal_eq, qPair_eq, qReg_eq, qTaken_eq, mTaken_eq, qBehind_eq, mBehind_eq, qJoin1, mWord1, qCounted_eq, rStepped_eq, on_eq, nextX, planX, behindX, takenX]
  generalize rInternal s = bi
  generalize (s == 5) = bs
  cases g with
  | nil => cases bi <;> cases bs <;> simp [len00, pick_zero, pcOf, spOf, pushX]
  | cons o t =>
    simp only [List.getD_cons_zero] at hk
    simp only [len0, List.getD_cons_zero, bodyX, hk, targetX, takenX, behindX, countX, bne]
    generalize rDecode c.1 o = i at hk ⊢
    cases bi <;> cases bs <;> simp [pick_cons, pushX, popX, pcOf, spOf, opC, readW, writeW, joinX, idleX, w_i64, setI, R.get]
theorem rn_33 (c) (s : Int) (g : List Int) (hk : (rDecode c.1 (g.getD 0 0)).1 = 33) : (rNext_33T c s g).val = some (nextX c s g) := by
  simp only [rNext_33T, RT.val, pk]
  simp only [qat0, mat0, qat1, mat1, rg0, hk, internal_eq, qPair_eq, qReg_eq, qTaken_eq, mTaken_eq, qBehind_eq, mBehind_eq, qJoin1, mWord1, qCounted_eq, rStepped_eq, on_eq, nextX, planX, behindX, takenX]
  generalize rInternal s = bi
  generalize (s == 5) = bs
  cases g with
  | nil => cases bi <;> cases bs <;> simp [len00, pick_zero, pcOf, spOf, pushX]
  | cons o t =>
    simp only [List.getD_cons_zero] at hk
    simp only [len0, List.getD_cons_zero, bodyX, hk, targetX, takenX, behindX, countX, bne]
    generalize rDecode c.1 o = i at hk ⊢
    cases bi <;> cases bs <;> simp [pick_cons, pushX, popX, pcOf, spOf, opC, readW, writeW, joinX, idleX, w_i64, setI, R.get]
theorem pn_34 (c) (s : Int) (g : List Int) (hk : (rDecode c.1 (g.getD 0 0)).1 = 34) : (pNext_34T c s g).val = some (nextX c s g) := by
  simp only [pNext_34T, RT.val, pk]
  simp only [qat0, mat0, qat1, mat1, rg0, hk, internal_eq, qPair_eq, qReg_eq, qTaken_eq, mTaken_eq, qBehind_eq, mBehind_eq, qJoin1, mWord1, qCounted_eq, rStepped_eq, on_eq, nextX, planX, behindX, takenX]
  generalize rInternal s = bi
  generalize (s == 5) = bs
  cases g with
  | nil => cases bi <;> cases bs <;> simp [len00, pick_zero, pcOf, spOf, pushX]
  | cons o t =>
    simp only [List.getD_cons_zero] at hk
    simp only [len0, List.getD_cons_zero, bodyX, hk, targetX, takenX, behindX, countX, bne]
    generalize rDecode c.1 o = i at hk ⊢
    cases bi <;> cases bs <;> simp [pick_cons, pushX, popX, pcOf, spOf, opC, readW, writeW, joinX, idleX, w_i64, setI, R.get]
theorem rn_34 (c) (s : Int) (g : List Int) (hk : (rDecode c.1 (g.getD 0 0)).1 = 34) : (rNext_34T c s g).val = some (nextX c s g) := by
  simp only [rNext_34T, RT.val, pk]
  simp only [qat0, mat0, qat1, mat1, rg0, hk, internal_eq, qPair_eq, qReg_eq, qTaken_eq, mTaken_eq, qBehind_eq, mBehind_eq, qJoin1, mWord1, qCounted_eq, rStepped_eq, on_eq, nextX, planX, behindX, takenX]
  generalize rInternal s = bi
  generalize (s == 5) = bs
  cases g with
  | nil => cases bi <;> cases bs <;> simp [len00, pick_zero, pcOf, spOf, pushX]
  | cons o t =>
    simp only [List.getD_cons_zero] at hk
    simp only [len0, List.getD_cons_zero, bodyX, hk, targetX, takenX, behindX, countX, bne]
    generalize rDecode c.1 o = i at hk ⊢
    cases bi <;> cases bs <;> simp [pick_cons, pushX, popX, pcOf, spOf, opC, readW, writeW, joinX, idleX, w_i64, setI, R.get]
theorem pn_35 (c) (s : Int) (g : List Int) (hk : (rDecode c.1 (g.getD 0 0)).1 = 35) : (pNext_35T c s g).val = some (nextX c s g) := by
  simp only [pNext_35T, RT.val, pk]
  simp only [qat0, mat0, qat1, mat1, rg0, hk, internal_eq, qPair_eq, qReg_eq, qTaken_eq, mTaken_eq, qBehind_eq, mBehind_eq, qJoin1, mWord1, qCounted_eq, rStepped_eq, on_eq, nextX, planX, behindX, takenX]
  generalize rInternal s = bi
  generalize (s == 5) = bs
  cases g with
  | nil => cases bi <;> cases bs <;> simp [len00, pick_zero, pcOf, spOf, pushX]
  | cons o t =>
    simp only [List.getD_cons_zero] at hk
    simp only [len0, List.getD_cons_zero, bodyX, hk, targetX, takenX, behindX, countX, bne]
    generalize rDecode c.1 o = i at hk ⊢
    cases bi <;> cases bs <;> simp [pick_cons, pushX, popX, pcOf, spOf, opC, readW, writeW, joinX, idleX, w_i64, setI, R.get]
theorem rn_35 (c) (s : Int) (g : List Int) (hk : (rDecode c.1 (g.getD 0 0)).1 = 35) : (rNext_35T c s g).val = some (nextX c s g) := by
  simp only [rNext_35T, RT.val, pk]
  simp only [qat0, mat0, qat1, mat1, rg0, hk, internal_eq, qPair_eq, qReg_eq, qTaken_eq, mTaken_eq, qBehind_eq, mBehind_eq, qJoin1, mWord1, qCounted_eq, rStepped_eq, on_eq, nextX, planX, behindX, takenX]
  generalize rInternal s = bi
  generalize (s == 5) = bs
  cases g with
  | nil => cases bi <;> cases bs <;> simp [len00, pick_zero, pcOf, spOf, pushX]
  | cons o t =>
    simp only [List.getD_cons_zero] at hk
    simp only [len0, List.getD_cons_zero, bodyX, hk, targetX, takenX, behindX, countX, bne]
    generalize rDecode c.1 o = i at hk ⊢
    cases bi <;> cases bs <;> simp [pick_cons, pushX, popX, pcOf, spOf, opC, readW, writeW, joinX, idleX, w_i64, setI, R.get]
theorem pn_36 (c) (s : Int) (g : List Int) (hk : (rDecode c.1 (g.getD 0 0)).1 = 36) : (pNext_36T c s g).val = some (nextX c s g) := by
  simp only [pNext_36T, RT.val, pk]
  simp only [qat0, mat0, qat1, mat1, rg0, hk, internal_eq, qPair_eq, qReg_eq, qTaken_eq, mTaken_eq, qBehind_eq, mBehind_eq, qJoin1, mWord1, qCounted_eq, rStepped_eq, on_eq, nextX, planX, behindX, takenX]
  generalize rInternal s = bi
  generalize (s == 5) = bs
  cases g with
  | nil => cases bi <;> cases bs <;> simp [len00, pick_zero, pcOf, spOf, pushX]
  | cons o t =>
    simp only [List.getD_cons_zero] at hk
    simp only [len0, List.getD_cons_zero, bodyX, hk, targetX, takenX, behindX, countX, bne]
    generalize rDecode c.1 o = i at hk ⊢
    cases bi <;> cases bs <;> simp [pick_cons, pushX, popX, pcOf, spOf, opC, readW, writeW, joinX, idleX, w_i64, setI, R.get]
theorem rn_36 (c) (s : Int) (g : List Int) (hk : (rDecode c.1 (g.getD 0 0)).1 = 36) : (rNext_36T c s g).val = some (nextX c s g) := by
  simp only [rNext_36T, RT.val, pk]
  simp only [qat0, mat0, qat1, mat1, rg0, hk, internal_eq, qPair_eq, qReg_eq, qTaken_eq, mTaken_eq, qBehind_eq, mBehind_eq, qJoin1, mWord1, qCounted_eq, rStepped_eq, on_eq, nextX, planX, behindX, takenX]
  generalize rInternal s = bi
  generalize (s == 5) = bs
  cases g with
  | nil => cases bi <;> cases bs <;> simp [len00, pick_zero, pcOf, spOf, pushX]
  | cons o t =>
    simp only [List.getD_cons_zero] at hk
    simp only [len0, List.getD_cons_zero, bodyX, hk, targetX, takenX, behindX, countX, bne]
    generalize rDecode c.1 o = i at hk ⊢
    cases bi <;> cases bs <;> simp [pick_cons, pushX, popX, pcOf, spOf, opC, readW, writeW, joinX, idleX, w_i64, setI, R.get]
end
end Go.Proofs.YtiflfdlglncjlaaGreat
