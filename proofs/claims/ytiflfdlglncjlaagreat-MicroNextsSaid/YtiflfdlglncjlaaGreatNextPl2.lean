/-
  The next machine cycle: the program's and the reference's are that of the plan, kind by kind. Conditions: none.
-/
import Derived.Test.YtiflfdlglncjlaaGreatPlan
import Derived.Test.YtiflfdlglncjlaaGreatNext1
import Derived.Test.YtiflfdlglncjlaaGreatNext2
import Derived.Test.YtiflfdlglncjlaaGreatNext3
import Derived.Test.YtiflfdlglncjlaaGreatNext4
open Go Go.S3 Go.Proofs
set_option linter.unusedVariables false
set_option linter.unusedSimpArgs false
set_option maxRecDepth 100000
namespace Go.Proofs.YtiflfdlglncjlaaGreat
noncomputable section
theorem pn_13 (c) (s : Int) (g : List Int) (hk : (rDecode c.1 (g.getD 0 0)).1 = 13) : (pNext_13T c s g).val = some (nextX c s g) := by
  simp only [pNext_13T, RT.val, pk]
  simp only [qat0, mat0, qat1, mat1, rg0, hk, internal_eq, qPair_eq, qReg_eq, qTaken_eq, mTaken_eq, qBehind_eq, mBehind_eq, qJoin1, mWord1, qCounted_eq, rStepped_eq, on_eq, nextX, planX, behindX, takenX]
  generalize rInternal s = bi
  generalize (s == 5) = bs
  cases g with
  | nil => cases bi <;> cases bs <;> simp [len00, pick_zero, pcOf, spOf, pushX]
  | cons o t =>
    simp only [List.getD_cons_zero] at hk
    simp only [len0, List.getD_cons_zero, bodyX, hk, targetX, takenX, behindX, countX, bne]
    generalize rDecode c.1 o = i at hk ⊢
    cases bi <;> cases bs <;> simp [pick_cons, pushX, popX, pcOf, spOf, opC, readW, writeW, joinX, idleX, w_i64, setI, R.get]
theorem rn_13 (c) (s : Int) (g : List Int) (hk : (rDecode c.1 (g.getD 0 0)).1 = 13) : (rNext_13T c s g).val = some (nextX c s g) := by
  simp only [rNext_13T, RT.val, pk]
  simp only [qat0, mat0, qat1, mat1, rg0, hk, internal_eq, qPair_eq, qReg_eq, qTaken_eq, mTaken_eq, qBehind_eq, mBehind_eq, qJoin1, mWord1, qCounted_eq, rStepped_eq, on_eq, nextX, planX, behindX, takenX]
  generalize rInternal s = bi
  generalize (s == 5) = bs
  cases g with
  | nil => cases bi <;> cases bs <;> simp [len00, pick_zero, pcOf, spOf, pushX]
  | cons o t =>
    simp only [List.getD_cons_zero] at hk
    simp only [len0, List.getD_cons_zero, bodyX, hk, targetX, takenX, behindX, countX, bne]
    generalize rDecode c.1 o = i at hk ⊢
    cases bi <;> cases bs <;> simp [pick_cons, pushX, popX, pcOf, spOf, opC, readW, writeW, joinX, idleX, w_i64, setI, R.get]
theorem pn_14 (c) (s : Int) (g : List Int) (hk : (rDecode c.1 (g.getD 0 0)).1 = 14) : (pNext_14T c s g).val = some (nextX c s g) := by
  simp only [pNext_14T, RT.val, pk]
  simp only [qat0, mat0, qat1, mat1, rg0, hk, internal_eq, qPair_eq, qReg_eq, qTaken_eq, mTaken_eq, qBehind_eq, mBehind_eq, qJoin1, mWord1, qCounted_eq, rStepped_eq, on_eq, nextX, planX, behindX, takenX]
  generalize rInternal s = bi
  generalize (s == 5) = bs
  cases g with
  | nil => cases bi <;> cases bs <;> simp [len00, pick_zero, pcOf, spOf, pushX]
  | cons o t =>
    simp only [List.getD_cons_zero] at hk
    simp only [len0, List.getD_cons_zero, bodyX, hk, targetX, takenX, behindX, countX, bne]
    generalize rDecode c.1 o = i at hk ⊢
    generalize (i.2.2.1 == 6) = b0
    cases b0 <;> cases bi <;> cases bs <;> simp [pick_cons, pushX, popX, pcOf, spOf, opC, readW, writeW, joinX, idleX, w_i64, setI, R.get]
theorem rn_14 (c) (s : Int) (g : List Int) (hk : (rDecode c.1 (g.getD 0 0)).1 = 14) : (rNext_14T c s g).val = some (nextX c s g) := by
  simp only [rNext_14T, RT.val, pk]
  simp only [qat0, mat0, qat1, mat1, rg0, hk, internal_eq, qPair_eq, qReg_eq, qTaken_eq, mTaken_eq, qBehind_eq, mBehind_eq, qJoin1, mWord1, qCounted_eq, rStepped_eq, on_eq, nextX, planX, behindX, takenX]
  generalize rInternal s = bi
  generalize (s == 5) = bs
  cases g with
  | nil => cases bi <;> cases bs <;> simp [len00, pick_zero, pcOf, spOf, pushX]
  | cons o t =>
    simp only [List.getD_cons_zero] at hk
    simp only [len0, List.getD_cons_zero, bodyX, hk, targetX, takenX, behindX, countX, bne]
    generalize rDecode c.1 o = i at hk ⊢
    generalize (i.2.2.1 == 6) = b0
    cases b0 <;> cases bi <;> cases bs <;> simp [pick_cons, pushX, popX, pcOf, spOf, opC, readW, writeW, joinX, idleX, w_i64, setI, R.get]
theorem pn_15 (c) (s : Int) (g : List Int) (hk : (rDecode c.1 (g.getD 0 0)).1 = 15) : (pNext_15T c s g).val = some (nextX c s g) := by
  simp only [pNext_15T, RT.val, pk]
  simp only [qat0, mat0, qat1, mat1, rg0, hk, internal_eq, qPair_eq, qReg_eq, qTaken_eq, mTaken_eq, qBehind_eq, mBehind_eq, qJoin1, mWord1, qCounted_eq, rStepped_eq, on_eq, nextX, planX, behindX, takenX]
  generalize rInternal s = bi
  generalize (s == 5) = bs
  cases g with
  | nil => cases bi <;> cases bs <;> simp [len00, pick_zero, pcOf, spOf, pushX]
  | cons o t =>
    simp only [List.getD_cons_zero] at hk
    simp only [len0, List.getD_cons_zero, bodyX, hk, targetX, takenX, behindX, countX, bne]
    generalize rDecode c.1 o = i at hk ⊢
    generalize (i.2.2.1 == 6) = b0
    cases b0 <;> cases bi <;> cases bs <;> simp [pick_cons, pushX, popX, pcOf, spOf, opC, readW, writeW, joinX, idleX, w_i64, setI, R.get]
theorem rn_15 (c) (s : Int) (g : List Int) (hk : (rDecode c.1 (g.getD 0 0)).1 = 15) : (rNext_15T c s g).val = some (nextX c s g) := by
  simp only [rNext_15T, RT.val, pk]
  simp only [qat0, mat0, qat1, mat1, rg0, hk, internal_eq, qPair_eq, qReg_eq, qTaken_eq, mTaken_eq, qBehind_eq, mBehind_eq, qJoin1, mWord1, qCounted_eq, rStepped_eq, on_eq, nextX, planX, behindX, takenX]
  generalize rInternal s = bi
  generalize (s == 5) = bs
  cases g with
  | nil => cases bi <;> cases bs <;> simp [len00, pick_zero, pcOf, spOf, pushX]
  | cons o t =>
    simp only [List.getD_cons_zero] at hk
    simp only [len0, List.getD_cons_zero, bodyX, hk, targetX, takenX, behindX, countX, bne]
    generalize rDecode c.1 o = i at hk ⊢
    generalize (i.2.2.1 == 6) = b0
    cases b0 <;> cases bi <;> cases bs <;> simp [pick_cons, pushX, popX, pcOf, spOf, opC, readW, writeW, joinX, idleX, w_i64, setI, R.get]
theorem pn_16 (c) (s : Int) (g : List Int) (hk : (rDecode c.1 (g.getD 0 0)).1 = 16) : (pNext_16T c s g).val = some (nextX c s g) := by
  simp only [pNext_16T, RT.val, pk]
  simp only [qat0, mat0, qat1, mat1, rg0, hk, internal_eq, qPair_eq, qReg_eq, qTaken_eq, mTaken_eq, qBehind_eq, mBehind_eq, qJoin1, mWord1, qCounted_eq, rStepped_eq, on_eq, nextX, planX, behindX, takenX]
  generalize rInternal s = bi
  generalize (s == 5) = bs
  cases g with
  | nil => cases bi <;> cases bs <;> simp [len00, pick_zero, pcOf, spOf, pushX]
  | cons o t =>
    simp only [List.getD_cons_zero] at hk
    simp only [len0, List.getD_cons_zero, bodyX, hk, targetX, takenX, behindX, countX, bne]
    generalize rDecode c.1 o = i at hk ⊢
    cases bi <;> cases bs <;> simp [pick_cons, pushX, popX, pcOf, spOf, opC, readW, writeW, joinX, idleX, w_i64, setI, R.get]
theorem rn_16 (c) (s : Int) (g : List Int) (hk : (rDecode c.1 (g.getD 0 0)).1 = 16) : (rNext_16T c s g).val = some (nextX c s g) := by
  simp only [rNext_16T, RT.val, pk]
  simp only [qat0, mat0, qat1, mat1, rg0, hk, internal_eq, qPair_eq, qReg_eq, qTaken_eq, mTaken_eq, qBehind_eq, mBehind_eq, qJoin1, mWord1, qCounted_eq, rStepped_eq, on_eq, nextX, planX, behindX, takenX]
  generalize rInternal s = bi
  generalize (s == 5) = bs
  cases g with
  | nil => cases bi <;> cases bs <;> simp [len00, pick_zero, pcOf, spOf, pushX]
  | cons o t =>
    simp only [List.getD_cons_zero] at hk
    simp only [len0, List.getD_cons_zero, bodyX, hk, targetX, takenX, behindX, countX, bne]
    generalize rDecode c.1 o = i at hk ⊢
    cases bi <;> cases bs <;> simp [pick_cons, pushX, popX, pcOf, spOf, opC, readW, writeW, joinX, idleX, w_i64, setI, R.get]
theorem pn_17 (c) (s : Int) (g : List Int) (hk : (rDecode c.1 (g.getD 0 0)).1 = 17) : (pNext_17T c s g).val = some (nextX c s g) := by
  simp only [pNext_17T, RT.val, pk]
  simp only [qat0, mat0, qat1, mat1, rg0, hk, internal_eq, qPair_eq, qReg_eq, qTaken_eq, mTaken_eq, qBehind_eq, mBehind_eq, qJoin1, mWord1, qCounted_eq, rStepped_eq, on_eq, nextX, planX, behindX, takenX]
  generalize rInternal s = bi
  generalize (s == 5) = bs
  cases g with
  | nil => cases bi <;> cases bs <;> simp [len00, pick_zero, pcOf, spOf, pushX]
  | cons o t =>
    simp only [List.getD_cons_zero] at hk
    simp only [len0, List.getD_cons_zero, bodyX, hk, targetX, takenX, behindX, countX, bne]
    generalize rDecode c.1 o = i at hk ⊢
    cases bi <;> cases bs <;> simp [pick_cons, pushX, popX, pcOf, spOf, opC, readW, writeW, joinX, idleX, w_i64, setI, R.get]
theorem rn_17 (c) (s : Int) (g : List Int) (hk : (rDecode c.1 (g.getD 0 0)).1 = 17) : (rNext_17T c s g).val = some (nextX c s g) := by
  simp only [rNext_17T, RT.val, pk]
  simp only [qat0, mat0, qat1, mat1, rg0, hk, internal_eq, qPair_eq, qReg_eq, qTaken_eq, mTaken_eq, qBehind_eq, mBehind_eq, qJoin1, mWord1, qCounted_eq, rStepped_eq, on_eq, nextX, planX, behindX, takenX]
  generalize rInternal s = bi
  generalize (s == 5) = bs
  cases g with
  | nil => cases bi <;> cases bs <;> simp [len00, pick_zero, pcOf, spOf, pushX]
  | cons o t =>
    simp only [List.getD_cons_zero] at hk
    simp only [len0, List.getD_cons_zero, bodyX, hk, targetX, takenX, behindX, countX, bne]
    generalize rDecode c.1 o = i at hk ⊢
    cases bi <;> cases bs <;> simp [pick_cons, pushX, popX, pcOf, spOf, opC, readW, writeW, joinX, idleX, w_i64, setI, R.get]
theorem pn_18 (c) (s : Int) (g : List Int) (hk : (rDecode c.1 (g.getD 0 0)).1 = 18) : (pNext_18T c s g).val = some (nextX c s g) := by
  simp only [pNext_18T, RT.val, pk]
  simp only [qat0, mat0, qat1, mat1, rg0, hk, internal_eq, qPair_eq, qReg_eq, qTaken_eq, mTaken_eq, qBehind_eq, mBehind_eq, qJoin1, mWord1, qCounted_eq, rStepped_eq, on_eq, nextX, planX, behindX, takenX]
  generalize rInternal s = bi
  generalize (s == 5) = bs
  cases g with
  | nil => cases bi <;> cases bs <;> simp [len00, pick_zero, pcOf, spOf, pushX]
  | cons o t =>
    simp only [List.getD_cons_zero] at hk
    simp only [len0, List.getD_cons_zero, bodyX, hk, targetX, takenX, behindX, countX, bne]
    generalize rDecode c.1 o = i at hk ⊢
    cases bi <;> cases bs <;> simp [pick_cons, pushX, popX, pcOf, spOf, opC, readW, writeW, joinX, idleX, w_i64, setI, R.get]
theorem rn_18 (c) (s : Int) (g : List Int) (hk : (rDecode c.1 (g.getD 0 0)).1 = 18) : (rNext_18T c s g).val = some (nextX c s g) := by
  simp only [rNext_18T, RT.val, pk]
  simp only [qat0, mat0, qat1, mat1, rg0, hk, internal_eq, qPair_eq, qReg_eq, qTaken_eq, mTaken_eq, qBehind_eq, mBehind_eq, qJoin1, mWord1, qCounted_eq, rStepped_eq, on_eq, nextX, planX, behindX, takenX]
  generalize rInternal s = bi
  generalize (s == 5) = bs
  cases g with
  | nil => cases bi <;> cases bs <;> simp [len00, pick_zero, pcOf, spOf, pushX]
  | cons o t =>
    simp only [List.getD_cons_zero] at hk
    simp only [len0, List.getD_cons_zero, bodyX, hk, targetX, takenX, behindX, countX, bne]
    generalize rDecode c.1 o = i at hk ⊢
    cases bi <;> cases bs <;> simp [pick_cons, pushX, popX, pcOf, spOf, opC, readW, writeW, joinX, idleX, w_i64, setI, R.get]
theorem pn_19 (c) (s : Int) (g : List Int) (hk : (rDecode c.1 (g.getD 0 0)).1 = 19) : (pNext_19T c s g).val = some (nextX c s g) := by
  simp only [pNext_19T, RT.val, pk]
  simp only [qat0, mat0, qat1, mat1, rg0, hk, internal_eq, qPair_eq, qReg_eq, qTaken_eq, mTaken_eq, qBehind_eq, mBehind_eq, qJoin1, mWord1, qCounted_eq, rStepped_eq, on_eq, nextX, planX, behindX, takenX]
  generalize rInternal s = bi
  generalize (s == 5) = bs
  cases g with
  | nil => cases bi <;> cases bs <;> simp [len00, pick_zero, pcOf, spOf, pushX]
  | cons o t =>
    simp only [List.getD_cons_zero] at hk
    simp only [len0, List.getD_cons_zero, bodyX, hk, targetX, takenX, behindX, countX, bne]
    generalize rDecode c.1 o = i at hk ⊢
    cases bi <;> cases bs <;> simp [pick_cons, pushX, popX, pcOf, spOf, opC, readW, writeW, joinX, idleX, w_i64, setI, R.get]
theorem rn_19 (c) (s : Int) (g : List Int) (hk : (rDecode c.1 (g.getD 0 0)).1 = 19) : (rNext_19T c s g).val = some (nextX c s g) := by
  simp only [rNext_19T, RT.val, pk]
  simp only [qat0, mat0, qat1, mat1, rg0, hk, internal_eq, qPair_eq, qReg_eq, qTaken_eq, mTaken_eq, qBehind_eq, mBehind_eq, qJoin1, mWord1, qCounted_eq, rStepped_eq, on_eq, nextX, planX, behindX, takenX]
  generalize rInternal s = bi
  generalize (s == 5) = bs
  cases g with
  | nil => cases bi <;> cases bs <;> simp [len00, pick_zero, pcOf, spOf, pushX]
  | cons o t =>
    simp only [List.getD_cons_zero] at hk
    simp only [len0, List.getD_cons_zero, bodyX, hk, targetX, takenX, behindX, countX, bne]
    generalize rDecode c.1 o = i at hk ⊢
    cases bi <;> cases bs <;> simp [pick_cons, pushX, popX, pcOf, spOf, opC, readW, writeW, joinX, idleX, w_i64, setI, R.get]
theorem pn_20 (c) (s : Int) (g : List Int) (hk : (rDecode c.1 (g.getD 0 0)).1 = 20) : (pNext_20T c s g).val = some (nextX c s g) := by
  simp only [pNext_20T, RT.val, pk]
  simp only [qat0, mat0, qat1, mat1, rg0, hk, internal_eq, qPair_eq, qReg_eq, qTaken_eq, mTaken_eq, qBehind_eq, mBehind_eq, qJoin1, mWord1, qCounted_eq, rStepped_eq, on_eq, nextX, planX, behindX, takenX]
  generalize rInternal s = bi
  generalize (s == 5) = bs
  cases g with
  | nil => cases bi <;> cases bs <;> simp [len00, pick_zero, pcOf, spOf, pushX]
  | cons o t =>
    simp only [List.getD_cons_zero] at hk
    simp only [len0, List.getD_cons_zero, bodyX, hk, targetX, takenX, behindX, countX, bne]
    generalize rDecode c.1 o = i at hk ⊢
    cases bi <;> cases bs <;> simp [pick_cons, pushX, popX, pcOf, spOf, opC, readW, writeW, joinX, idleX, w_i64, setI, R.get]
theorem rn_20 (c) (s : Int) (g : List Int) (hk : (rDecode c.1 (g.getD 0 0)).1 = 20) : (rNext_20T c s g).val = some (nextX c s g) := by
  simp only [rNext_20T, RT.val, pk]
  simp only [qat0, mat0, qat1, mat1, rg0, hk, internal_eq, qPair_eq, qReg_eq, qTaken_eq, mTaken_eq, qBehind_eq, mBehind_eq, qJoin1, mWord1, qCounted_eq, rStepped_eq, on_eq, nextX, planX, behindX, takenX]
  generalize rInternal s = bi
  generalize (s == 5) = bs
  cases g with
  | nil => cases bi <;> cases bs <;> simp [len00, pick_zero, pcOf, spOf, pushX]
  | cons o t =>
    simp only [List.getD_cons_zero] at hk
    simp only [len0, List.getD_cons_zero, bodyX, hk, targetX, takenX, behindX, countX, bne]
    generalize rDecode c.1 o = i at hk ⊢
    cases bi <;> cases bs <;> simp [pick_cons, pushX, popX, pcOf, spOf, opC, readW, writeW, joinX, idleX, w_i64, setI, R.get]
theorem pn_21 (c) (s : Int) (g : List Int) (hk : (rDecode c.1 (g.getD 0 0)).1 = 21) : (pNext_21T c s g).val = some (nextX c s g) := by
  simp only [pNext_21T, RT.val, pk]
  simp only [qat0, mat0, qat1, mat1, rg0, hk, internal_eq, qPair_eq, qReg_eq, qTaken_eq, mTaken_eq, qBehind_eq, mBehind_eq, qJoin1, mWord1, qCounted_eq, rStepped_eq, on_eq, nextX, planX, behindX, takenX]
  generalize rInternal s = bi
  generalize (s == 5) = bs
  cases g with
  | nil => cases bi <;> cases bs <;> simp [len00, pick_zero, pcOf, spOf, pushX]
  | cons o t =>
    simp only [List.getD_cons_zero] at hk
    simp only [len0, List.getD_cons_zero, bodyX, hk, targetX, takenX, behindX, countX, bne]
    generalize rDecode c.1 o = i at hk ⊢
    cases bi <;> cases bs <;> simp [pick_cons, pushX, popX, pcOf, spOf, opC, readW, writeW, joinX, idleX, w_i64, setI, R.get]
theorem rn_21 (c) (s : Int) (g : List Int) (hk : (rDecode c.1 (g.getD 0 0)).1 = 21) : (rNext_21T c s g).val = some (nextX c s g) := by
  simp only [rNext_21T, RT.val, pk]
  simp only [qat0, mat0, qat1, mat1, rg0, hk, internal_eq, qPair_eq, qReg_eq, qTaken_eq, mTaken_eq, qBehind_eq, mBehind_eq, qJoin1, mWord1, qCounted_eq, rStepped_eq, on_eq, nextX, planX, behindX, takenX]
  generalize rInternal s = bi
  generalize (s == 5) = bs
  cases g with
  | nil => cases bi <;> cases bs <;> simp [len00, pick_zero, pcOf, spOf, pushX]
  | cons o t =>
    simp only [List.getD_cons_zero] at hk
    simp only [len0, List.getD_cons_zero, bodyX, hk, targetX, takenX, behindX, countX, bne]
    generalize rDecode c.1 o = i at hk ⊢
    cases bi <;> cases bs <;> simp [pick_cons, pushX, popX, pcOf, spOf, opC, readW, writeW, joinX, idleX, w_i64, setI, R.get]
theorem pn_22 (c) (s : Int) (g : List Int) (hk : (rDecode c.1 (g.getD 0 0)).1 = 22) : (pNext_22T c s g).val = some (nextX c s g) := by
  simp only [pNext_22T, RT.val, pk]
  simp only [qat0, mat0, qat1, mat1, rg0, hk, internal_eq, qPair_eq, qReg_eq, qTaken_eq, mTaken_eq, qBehind_eq, mBehind_eq, qJoin1, mWord1, qCounted_eq, rStepped_eq, on_eq, nextX, planX, behindX, takenX]
  generalize rInternal s = bi
  generalize (s == 5) = bs
  cases g with
  | nil => cases bi <;> cases bs <;> simp [len00, pick_zero, pcOf, spOf, pushX]
  | cons o t =>
    simp only [List.getD_cons_zero] at hk
    simp only [len0, List.getD_cons_zero, bodyX, hk, targetX, takenX, behindX, countX, bne]
    generalize rDecode c.1 o = i at hk ⊢
    cases bi <;> cases bs <;> simp [pick_cons, pushX, popX, pcOf, spOf, opC, readW, writeW, joinX, idleX, w_i64, setI, R.get]
theorem rn_22 (c) (s : Int) (g : List Int) (hk : (rDecode c.1 (g.getD 0 0)).1 = 22) : (rNext_22T c s g).val = some (nextX c s g) := by
  simp only [rNext_22T, RT.val, pk]
  simp only [qat0, mat0, qat1, mat1, rg0, hk, internal_eq, qPair_eq, qReg_eq, qTaken_eq, mTaken_eq, qBehind_eq, mBehind_eq, qJoin1, mWord1, qCounted_eq, rStepped_eq, on_eq, nextX, planX, behindX, takenX]
  generalize rInternal s = bi
  generalize (s == 5) = bs
  cases g with
  | nil => cases bi <;> cases bs <;> simp [len00, pick_zero, pcOf, spOf, pushX]
  | cons o t =>
    simp only [List.getD_cons_zero] at hk
    simp only [len0, List.getD_cons_zero, bodyX, hk, targetX, takenX, behindX, countX, bne]
    generalize rDecode c.1 o = i at hk ⊢
    cases bi <;> cases bs <;> simp [pick_cons, pushX, popX, pcOf, spOf, opC, readW, writeW, joinX, idleX, w_i64, setI, R.get]
theorem pn_23 (c) (s : Int) (g : List Int) (hk : (rDecode c.1 (g.getD 0 0)).1 = 23) : (pNext_23T c s g).val = some (nextX c s g) := by
  simp only [pNext_23T, RT.val, pk]
  simp only [qat0, mat0, qat1, mat1, rg0, hk, internal_eq, qPair_eq, qReg_eq, qTaken_eq, mTaken_eq, qBehind_eq, mBehind_eq, qJoin1, mWord1, qCounted_eq, rStepped_eq, on_eq, nextX, planX, behindX, takenX]
  generalize rInternal s = bi
  generalize (s == 5) = bs
  cases g with
  | nil => cases bi <;> cases bs <;> simp [len00, pick_zero, pcOf, spOf, pushX]
  | cons o t =>
    simp only [List.getD_cons_zero] at hk
    simp only [len0, List.getD_cons_zero, bodyX, hk, targetX, takenX, behindX, countX, bne]
    generalize rDecode c.1 o = i at hk ⊢
    cases bi <;> cases bs <;> simp [pick_cons, pushX, popX, pcOf, spOf, opC, readW, writeW, joinX, idleX, w_i64, setI, R.get]
theorem rn_23 (c) (s : Int) (g : List Int) (hk : (rDecode c.1 (g.getD 0 0)).1 = 23) : (rNext_23T c s g).val = some (nextX c s g) := by
  simp only [rNext_23T, RT.val, pk]
  simp only [qat0, mat0, qat1, mat1, rg0, hk, internal_eq, qPair_eq, qReg_eq, qTaken_eq, mTaken_eq, qBehind_eq, mBehind_eq, qJoin1, mWord1, qCounted_eq, rStepped_eq, on_eq, nextX, planX, behindX, takenX]
  generalize rInternal s = bi
  generalize (s == 5) = bs
  cases g with
  | nil => cases bi <;> cases bs <;> simp [len00, pick_zero, pcOf, spOf, pushX]
  | cons o t =>
    simp only [List.getD_cons_zero] at hk
    simp only [len0, List.getD_cons_zero, bodyX, hk, targetX, takenX, behindX, countX, bne]
    generalize rDecode c.1 o = i at hk ⊢
    cases bi <;> cases bs <;> simp [pick_cons, pushX, popX, pcOf, spOf, opC, readW, writeW, joinX, idleX, w_i64, setI, R.get]
theorem pn_24 (c) (s : Int) (g : List Int) (hk : (rDecode c.1 (g.getD 0 0)).1 = 24) : (pNext_24T c s g).val = some (nextX c s g) := by
  simp only [pNext_24T, RT.val, pk]
  simp only [qat0, mat0, qat1, mat1, rg0, hk, internal_eq, qPair_eq, qReg_eq, qTaken_eq, mTaken_eq, qBehind_eq, mBehind_eq, qJoin1, mWord1, qCounted_eq, rStepped_eq, on_eq, nextX, planX, behindX, takenX]
  generalize rInternal s = bi
  generalize (s == 5) = bs
  cases g with
  | nil => cases bi <;> cases bs <;> simp [len00, pick_zero, pcOf, spOf, pushX]
  | cons o t =>
    simp only [List.getD_cons_zero] at hk
    simp only [len0, List.getD_cons_zero, bodyX, hk, targetX, takenX, behindX, countX, bne]
    generalize rDecode c.1 o = i at hk ⊢
    generalize rHolds _ _ = b0
    generalize (c.1 == 2) = b1
    cases b0 <;> cases b1 <;> cases bi <;> cases bs <;> simp [pick_cons, pushX, popX, pcOf, spOf, opC, readW, writeW, joinX, idleX, w_i64, setI, R.get]
theorem rn_24 (c) (s : Int) (g : List Int) (hk : (rDecode c.1 (g.getD 0 0)).1 = 24) : (rNext_24T c s g).val = some (nextX c s g) := by
  simp only [rNext_24T, RT.val, pk]
  simp only [qat0, mat0, qat1, mat1, rg0, hk, internal_eq, qPair_eq, qReg_eq, qTaken_eq, mTaken_eq, qBehind_eq, mBehind_eq, qJoin1, mWord1, qCounted_eq, rStepped_eq, on_eq, nextX, planX, behindX, takenX]
  generalize rInternal s = bi
  generalize (s == 5) = bs
  cases g with
  | nil => cases bi <;> cases bs <;> simp [len00, pick_zero, pcOf, spOf, pushX]
  | cons o t =>
    simp only [List.getD_cons_zero] at hk
    simp only [len0, List.getD_cons_zero, bodyX, hk, targetX, takenX, behindX, countX, bne]
    generalize rDecode c.1 o = i at hk ⊢
    generalize rHolds _ _ = b0
    generalize (c.1 == 2) = b1
    cases b0 <;> cases b1 <;> cases bi <;> cases bs <;> simp [pick_cons, pushX, popX, pcOf, spOf, opC, readW, writeW, joinX, idleX, w_i64, setI, R.get]
end
end Go.Proofs.YtiflfdlglncjlaaGreat
