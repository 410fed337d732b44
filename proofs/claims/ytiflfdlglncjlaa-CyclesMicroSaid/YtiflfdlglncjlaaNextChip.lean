/-
  All chips but the 8085 have the same cycles. Conditions: none.
-/
import Derived.Test.YtiflfdlglncjlaaFirstEq
open Go Go.S3 Go.Proofs
set_option linter.unusedVariables false
set_option linter.unusedSimpArgs false
set_option maxRecDepth 100000
namespace Go.Proofs.Ytiflfdlglncjlaa
noncomputable section
theorem on_chip (c : Int) (h : c ≠ 2) : rOn c = rOn 0 := by
  have h1 : (c == 2) = false := by simpa using h
  rw [on_eq, on_eq, h1]; rfl
theorem only_chip (c : Int) (h : c ≠ 2) (f k v) : rOnly c f k v = rOnly 0 f k v := by simp only [rOnly, rOnlyT, on_chip c h]
theorem inr_chip (c : Int) (h : c ≠ 2) (v f) : rInr c v f = rInr 0 v f := by simp only [rInr, rInrT, RT.val, only_chip c h, on_chip c h]
theorem dcr_chip (c : Int) (h : c ≠ 2) (v f) : rDcr c v f = rDcr 0 v f := by simp only [rDcr, rDcrT, RT.val, only_chip c h, on_chip c h]
theorem pack_chip (c : Int) (h : c ≠ 2) (f) : rPackC c f = rPackC 0 f ∧ rPack c f = rPack 0 f := by simp only [rPack, rPackC, rPackT, RT.val, on_chip c h, and_self]
theorem psw_chip (c : Int) (h : c ≠ 2) (r) : rPSW c r = rPSW 0 r := by simp only [rPSW, rPSWT, RT.val, (pack_chip c h _).1, (pack_chip c h _).2]

theorem nextX_chip (c : Int) (h : c ≠ 2) (r) (s : Int) (g : List Int) : nextX (c, r) s g = nextX (0, r) s g := by
  have h1 : (c == 2) = false := by simpa using h
  have h0 : ((0 : Int) == 2) = false := rfl
  cases g with
  | nil => simp only [nextX, planX, pcOf, pushX, spOf]
  | cons o t => simp only [nextX, planX, pcOf, spOf, bodyX, opC, pushX, popX, behindX, takenX, readW, writeW, targetX, idleX, countX, rdec_chip' c _ h, inr_chip c h, dcr_chip c h, psw_chip c h, h1, h0]
end
end Go.Proofs.Ytiflfdlglncjlaa
