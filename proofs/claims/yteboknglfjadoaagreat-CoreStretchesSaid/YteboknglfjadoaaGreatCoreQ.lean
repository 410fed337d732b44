/-
  Clock states under levels that ask for nothing. Conditions: none.
-/
import Derived.Test.YteboknglfjadoaaGreatCoreX
open Go Go.S3 Go.Proofs
set_option linter.unusedVariables false
set_option linter.unusedSimpArgs false
set_option maxRecDepth 100000
namespace Go.Proofs.YteboknglfjadoaaGreat
noncomputable section
/-- READY, HOLD h, nothing else. -/
def lnR (h : Bool) : LnT := (true, h, false, false, false, false, false, false, false)
def lnW : LnT := (false, false, false, false, false, false, false, false, false)
/-- The levels were latched before. -/
def Quiet (c : CpuT) : Prop := (c.1 == 2) = true → c.2.2.2.2.2.2.1 = false ∧ c.2.2.2.2.2.2.2.2.1 = false ∧ c.2.2.2.2.2.2.2.2.2.1 = false
theorem latch_q {c : CpuT} (hq : Quiet c) {l : LnT} (h1 : l.2.2.2.2.1 = false) (h2 : l.2.2.2.2.2.1 = false) : rLatch c l = c := by
  obtain ⟨chip, regs, ie, delay, halted, mask, trap, r75, wt, w75, sv, svi, sod⟩ := c
  simp only [rLatch, rLatchT, RT.val, on_eq, h1, h2]
  simp only [Quiet] at hq
  by_cases hc : (chip == 2) = true
  · obtain ⟨q1, q2, q3⟩ := hq hc
    simp [hc, q1, q2, q3]
  · simp only [Bool.not_eq_true] at hc
    simp [hc]
theorem latchR {c : CpuT} (hq : Quiet c) (h : Bool) : rLatch c (lnR h) = c := latch_q hq rfl rfl
theorem latchW {c : CpuT} (hq : Quiet c) : rLatch c lnW = c := latch_q hq rfl rfl
theorem accept_q {c : CpuT} (hq : Quiet c) (s : Int) : Quiet (rAccept c s) := by
  intro hc
  simp only [rAccept, rAcceptT, RT.val] at hc ⊢
  generalize (decide (s < 1) || decide (s > 5)) = b at hc ⊢
  cases b with
  | true => exact hq hc
  | false =>
    obtain ⟨q1, q2, q3⟩ := hq hc
    simp only [cond_false, q1, q2, q3, Bool.and_false, and_self]
theorem fin_q {c : CpuT} (hq : Quiet c) (s : Int) (g : List Int) (l : LnT) : Quiet (finX c s g l) := by
  intro hc
  simp only [finX] at hc ⊢
  cases hs : rInternal s with
  | true => simp only [hs, cond_true] at hc ⊢; exact hq hc
  | false =>
    simp only [hs, cond_false] at hc ⊢
    revert hc
    generalize rDecode c.1 (g.getD 0 0) = i
    simp only [finI]
    by_cases h38 : (i.1 == 38) = true
    · simp only [h38, cond_true, rim_eq]
      intro hc; exact hq hc
    · simp only [Bool.not_eq_true] at h38
      simp only [h38, cond_false]
      by_cases h39 : (i.1 == 39) = true
      · simp only [h39, cond_true, rSim, rSimT, RT.val]
        intro hc; exact hq (by simpa using hc)
      · simp only [Bool.not_eq_true] at h39
        simp only [h39, cond_false]
        intro hc; exact hq hc
theorem fin_h (c : CpuT) (s : Int) (g : List Int) (h : Bool) : finX c s g (lnR h) = finX c s g (lnR false) := by
  simp only [finX, finI, rRim, rRimT, lnR]
theorem pick_h (c : CpuT) (h : Bool) : rPick c (lnR h) = rPick c (lnR false) := by
  simp only [rPick, rPickT, lnR]
/-- Nothing is latched. -/
def Calm (c : CpuT) : Prop := c.2.2.2.2.2.2.1 = false ∧ c.2.2.2.2.2.2.2.1 = false ∧ c.2.2.2.2.2.2.2.2.1 = false ∧ c.2.2.2.2.2.2.2.2.2.1 = false
theorem Calm.q {c : CpuT} (h : Calm c) : Quiet c := fun _ => ⟨h.1, h.2.2.1, h.2.2.2⟩
theorem fin_calm {c : CpuT} (hq : Calm c) (s : Int) (g : List Int) (l : LnT) : Calm (finX c s g l) := by
  simp only [finX]
  cases hs : rInternal s with
  | true => simp only [cond_true]; exact hq
  | false =>
    simp only [cond_false]
    generalize rDecode c.1 (g.getD 0 0) = i
    simp only [finI]
    by_cases h38 : (i.1 == 38) = true
    · simp only [h38, cond_true, rim_eq]
      exact hq
    · simp only [Bool.not_eq_true] at h38
      simp only [h38, cond_false]
      by_cases h39 : (i.1 == 39) = true
      · obtain ⟨q1, q2, q3, q4⟩ := hq
        simp only [h39, cond_true, rSim, rSimT, RT.val, Calm, q1, q2, q3, q4]
        simp
      · simp only [Bool.not_eq_true] at h39
        simp only [h39, cond_false]
        exact hq
theorem pick_calm {c : CpuT} (h : Calm c) : rPick c (lnR false) = 0 := by
  obtain ⟨q1, q2, q3, q4⟩ := h
  simp only [rPick, rPickT, RT.val, lnR, q1, q2, q3, q4]
  simp
theorem acc0 (c : CpuT) : rAccept c 0 = c := by simp [rAccept, rAcceptT, RT.val]
end
end Go.Proofs.YteboknglfjadoaaGreat
