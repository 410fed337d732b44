/-
  The laws of the stack and of injected instructions, as plain functions: always true. Conditions: none.
-/
import Derived.Test.YtiflfdlglncjlaaMic16c
open Go Go.S3 Go.Proofs
set_option linter.unusedVariables false
set_option linter.unusedSimpArgs false
set_option maxRecDepth 100000
namespace Go.Proofs.Ytiflfdlglncjlaa
noncomputable section
theorem stacks_law (n : List Int) (op : Int) (h : inR .u8 op) (l) : lMStacksC n op l = true ∧ lMStacks n op l = true := by
  obtain ⟨hC, hc, hs, r, hg, _⟩ := operate_ok n op
  obtain ⟨hS, out, b, hq, hrun, hstop⟩ := seq_run (kOperate n op).1 (kOperate n op).2.1 (kOperate n op).2.2
  have h5 := hrun.le
  have hl := hrun.len
  have hmv : mvS out = mvS (planX (kOperate n op).1 (kOperate n op).2.1 [op]) := by
    rw [hg] at hrun; exact seq_mv hrun hstop
  obtain ⟨q, hr, hr2⟩ : ∃ q, runF false lMStacksL0T (fun a => (a.2.2.2.2.2.1 - a.2.2.2.2.2.2.1).toNat + 1) (op, (kOperate n op).2.1, b, 0, out, iN out.length, 0, l, (kOperate n op).1, ()) = some q ∧
      ∃ j, q.2 = (op, (kOperate n op).2.1, b, mvS out, out, iN out.length, j, l, (kOperate n op).1, ()) := by
    refine runF_ind (fun a => ∃ j : Nat, j ≤ out.length ∧ a = (op, (kOperate n op).2.1, b, mvS (out.take j), out, iN out.length, (j : Int), l, (kOperate n op).1, ())) (fun a => (a.2.2.2.2.2.1 - a.2.2.2.2.2.2.1).toNat) _ ?_ _ ⟨0, by omega, rfl⟩ (by simp only; omega)
    rintro a ⟨j, hj, rfl⟩
    by_cases hlt : j < out.length
    · have hin : inRng (j : Int) out.length = true := inRng_iff.2 ⟨by omega, by omega⟩
      have hw : IntKind.wrap .i64 ((j : Int) + 1) = ((j + 1 : Nat) : Int) := by rw [wrap_i64 _ (by omega) (by omega)]; simp
      obtain ⟨x, hx⟩ : ∃ x, out[j]? = some x := ⟨_, List.getElem?_eq_getElem hlt⟩
      have hget : R.get cycR out (j : Int) = x := by simp [R.get, List.getD_eq_getElem?_getD, hx]
      simp only [cycR] at hget
      have hb := mvS_b (out.take j)
      have htl : (out.take j).length = j := by simp; omega
      have hlt' : decide ((j : Int) < iN out.length) = true := by simp [iN]; exact hlt
      have hm : (bif x.1 == 4 then IntKind.wrap .i64 ((bif x.1 == 5 then IntKind.wrap .i64 (mvS (out.take j) - 1) else mvS (out.take j)) + 1) else (bif x.1 == 5 then IntKind.wrap .i64 (mvS (out.take j) - 1) else mvS (out.take j))) = mvS (out.take (j + 1)) := by
        rw [mvS_take out j x hx]
        have w1 : IntKind.wrap .i64 (mvS (out.take j) - 1) = mvS (out.take j) - 1 := wrap_i64 _ (by omega) (by omega)
        have w2 : IntKind.wrap .i64 (mvS (out.take j) + 1) = mvS (out.take j) + 1 := wrap_i64 _ (by omega) (by omega)
        rw [w1]
        by_cases k5 : x.1 = 5
        · simp [mv1, k5]; omega
        · by_cases k4 : x.1 = 4
          · simp [mv1, k4, w2]
          · have e5 : (x.1 == 5) = false := by simpa using k5
            have e4 : (x.1 == 4) = false := by simpa using k4
            simp [mv1, e5, e4]
      refine .inl ⟨(op, (kOperate n op).2.1, b, mvS (out.take (j + 1)), out, iN out.length, ((j + 1 : Nat) : Int), l, (kOperate n op).1, ()), ?_, ⟨j + 1, by omega, rfl⟩, by simp only [iN]; omega⟩
      simp only [lMStacksL0T, RT.val, hlt', cond_true, hin, hget, hw, hm]
    · have hlt' : decide ((j : Int) < iN out.length) = false := by simp [iN]; omega
      have hje : out.take j = out := List.take_of_length_le (by omega)
      refine .inr (.inl ⟨(op, (kOperate n op).2.1, b, mvS out, out, iN out.length, (j : Int), l, (kOperate n op).1, ()), ?_, j, rfl⟩)
      simp only [lMStacksL0T, RT.val, hlt', cond_false, hje]
  obtain ⟨j, hr2⟩ := hr2
  have e : (lMStacksT n op l).val = some true := by
    simp only [lMStacksT, RT.val, hC, hS, hq, hr, hr2, okB, getO, Bool.not_true, cond_true, cond_false]
    cases decide (iN n.length > 80)
    case true => rfl
    simp only [cond_false]
    have hbk : rInternal (kOperate n op).2.1 = false → (∃ t, b = op :: t) := by
      intro hi
      rw [hg] at hrun
      rcases hrun.kinds hi with ⟨_, rfl⟩ | ⟨t, rfl, _⟩
      · have h1 := stop_len hstop
        have h2 := (plan_len (kOperate n op).1 (kOperate n op).2.1 []).2
        simp only [List.length_nil] at h1; omega
      · exact ⟨t, rfl⟩
    have hk := kind_in (kOperate n op).1.1 op h
    have hp := pr_in (kOperate n op).1.1 op hc.1 h
    rw [hmv]
    generalize (kOperate n op).1 = c at *
    generalize (kOperate n op).2.1 = s at *
    cases hi : rInternal s
    · obtain ⟨t, rfl⟩ := hbk hi
      simp only [Bool.not_false, Bool.true_and]
      cases hex : ((rDecode c.1 op).1 == 29 || ((rDecode c.1 op).1 == 4 || ((rDecode c.1 op).1 == 16 || (rDecode c.1 op).1 == 17)))
      case true => rfl
      simp only [cond_false, Option.some.injEq, Bool.and_eq_true, beq_iff_eq]
      refine ⟨?_, rfl⟩
      have hplan : mvS (planX c s [op]) = mvS (bodyX c (s == 5) [op] (rDecode c.1 op)) := by
        simp only [planX, hi, cond_false, mvS]
        cases s == 5 <;> simp [mv1]
      have hf : finX c s (op :: t) l = finI c (s == 5) (op :: t) l (rDecode c.1 op) := by
        simp only [finX, hi, cond_false]; rfl
      rw [hplan, hf]
      simp only [Bool.or_eq_false_iff, beq_eq_false_iff_ne, ne_eq] at hex
      generalize rDecode c.1 op = i at *
      by_cases hsp : i.1 = 25 ∨ i.1 = 26 ∨ i.1 = 27 ∨ i.1 = 45 ∨ i.1 = 30 ∨ i.1 = 31
      · exact spS c hc.2.1 (s == 5) (op :: t) [op] l i hp.1 hp.2 hsp
      · have hA : i.1 = 1 ∨ i.1 = 2 ∨ i.1 = 3 ∨ i.1 = 5 ∨ i.1 = 6 ∨ i.1 = 7 ∨ i.1 = 8 ∨ i.1 = 9 ∨ i.1 = 10 ∨ i.1 = 11 ∨ i.1 = 12 ∨ i.1 = 13 ∨ i.1 = 14 ∨ i.1 = 15 ∨ i.1 = 18 ∨ i.1 = 19 ∨ i.1 = 20 ∨ i.1 = 21 ∨ i.1 = 22 ∨ i.1 = 23 ∨ i.1 = 24 ∨ i.1 = 28 ∨ i.1 = 32 ∨ i.1 = 33 ∨ i.1 = 34 ∨ i.1 = 35 ∨ i.1 = 36 ∨ i.1 = 37 ∨ i.1 = 38 ∨ i.1 = 39 ∨ i.1 = 40 ∨ i.1 = 41 ∨ i.1 = 42 ∨ i.1 = 43 ∨ i.1 = 44 ∨ i.1 = 46 ∨ i.1 = 47 := by omega
        rw [spA c (s == 5) (op :: t) l i hA, mvA c (s == 5) [op] i hA]
        have hw : IntKind.wrap .u16 (spOf c + IntKind.wrap .u16 0) = spOf c := by
          rw [show IntKind.wrap .u16 0 = 0 by decide, Int.add_zero]; exact wrap_in hc.2.1.2.2.2.2.2.2.2.1
        exact hw.symm
    · simp only [Bool.not_true, Bool.false_and, cond_false, Option.some.injEq, Bool.and_eq_true, beq_iff_eq]
      refine ⟨?_, rfl⟩
      have hplan : mvS (planX c s [op]) = -2 := by simp only [planX, hi, cond_true, mvS, pushX, mv1]; rfl
      have hf : finX c s b l = (c.1, wPC (wSP c.2.1 (IntKind.wrap .u16 (spOf c - 2))) (rVector s), c.2.2) := by
        simp only [finX, hi, cond_true]
      rw [hplan, hf]
      show IntKind.wrap .u16 (spOf c - 2) = IntKind.wrap .u16 (spOf c + IntKind.wrap .u16 (-2))
      simp only [wrap_u16]; omega
  exact ⟨by simp only [lMStacksC, e]; rfl, by simp only [lMStacks, e, getO]⟩
end
end Go.Proofs.Ytiflfdlglncjlaa
