/-
  The kinds of instructions. Conditions: none.
-/
import Derived.Test.YteboknglfjadoaaGreatPlan
set_option linter.unusedSimpArgs false
open Go Go.S3 Go.Proofs
set_option linter.unusedVariables false
set_option maxRecDepth 100000
namespace Go.Proofs.YteboknglfjadoaaGreat
noncomputable section
def kindT (c op : Int) : Bool := decide (1 ≤ (rDecode c op).1) && decide ((rDecode c op).1 ≤ 47)
theorem kind_in (c op : Int) (h : inR .u8 op) : 1 ≤ (rDecode c op).1 ∧ (rDecode c op).1 ≤ 47 := by
  have fin : kindT c op = true → 1 ≤ (rDecode c op).1 ∧ (rDecode c op).1 ≤ 47 := by
    intro hc; simpa [kindT] using hc
  by_cases hc : c = 2
  · subst hc; exact fin (byte_all (kindT 2) (by kernel_rfl) op h)
  · have h0 := byte_all (kindT 0) (by kernel_rfl) op h
    have e : rDecode c op = rDecode 0 op := by unfold rDecode; rw [rdec_chip c op hc]
    refine fin ?_
    simp only [kindT, e] at h0 ⊢; exact h0
theorem head_in {g : List Int} (h : (R.sl (.int .u8)).ok g) : inR .u8 (g.getD 0 0) := by
  cases g with
  | nil => rw [inR_u8]; simp
  | cons x l => exact h.2 x (by simp)
theorem kinds47 {n : Int} (h1 : 1 ≤ n) (h2 : n ≤ 47) : n = 1 ∨ n = 2 ∨ n = 3 ∨ n = 4 ∨ n = 5 ∨ n = 6 ∨ n = 7 ∨ n = 8 ∨ n = 9 ∨ n = 10 ∨ n = 11 ∨ n = 12 ∨ n = 13 ∨ n = 14 ∨ n = 15 ∨ n = 16 ∨ n = 17 ∨ n = 18 ∨ n = 19 ∨ n = 20 ∨ n = 21 ∨ n = 22 ∨ n = 23 ∨ n = 24 ∨ n = 25 ∨ n = 26 ∨ n = 27 ∨ n = 28 ∨ n = 29 ∨ n = 30 ∨ n = 31 ∨ n = 32 ∨ n = 33 ∨ n = 34 ∨ n = 35 ∨ n = 36 ∨ n = 37 ∨ n = 38 ∨ n = 39 ∨ n = 40 ∨ n = 41 ∨ n = 42 ∨ n = 43 ∨ n = 44 ∨ n = 45 ∨ n = 46 ∨ n = 47 := by omega
end
end Go.Proofs.YteboknglfjadoaaGreat
