/-
  An instruction takes its number of states and has its effect: the statement's function returns true. Conditions: none.
-/
import Derived.Test.YteboknglfjadoaaGreatCntLaw
open Go Go.S3 Go.Proofs
set_option linter.unusedVariables false
set_option linter.unusedSimpArgs false
set_option maxRecDepth 100000
namespace Go.Proofs.YteboknglfjadoaaGreat
noncomputable section
theorem known20 : kKnC = true ∧ kKn = true := ⟨by kernel_rfl, by kernel_rfl⟩
theorem new_shape (chip : Int) : ∃ r m, newX chip = ((chip, r, false, false, false, m, false, false, false, false, false, false, false), 0, [], (1, 0, 0, 4), 1, false) := by
  unfold newX
  rw [begin0]
  simp only [rReset, rResetT, RT.val]
  exact ⟨_, _, rfl⟩
theorem run_ok (c : CpuT) (hc : c.1 = 1 ∨ c.1 = 2) (hq : Calm c) (hh : c.2.2.2.2.1 = false) (op : Int) (hop : inR .u8 op) (bs : List Int) (hbs : bs.length = 5) (hhd : bs.head? = some op) (L : List Int) (N : Int) (c0 : CoreT) :
    ∃ d got L' N', runF true lCountsL0T (fun a => 25) (op, bs, 0, L, N, c0, (c, 0, [], (nextX c 0 []).1, 1, false), [], ()) =
      some (false, (op, bs, rTotal c.1 op (takenX c (rDecode c.1 op)), L', N', c0, d, got, ())) ∧ d.1 = finX c 0 got (lnR false) := by
  obtain ⟨hcnt, hK⟩ := cnt_facts c hc op hop
  simp only [cntB, Bool.and_eq_true, decide_eq_true_eq] at hcnt
  obtain ⟨⟨⟨⟨⟨e1, e2⟩, e3⟩, e4⟩, e5⟩, e6⟩ := hcnt
  obtain ⟨r, h1, h2, st, d, got, L', N', h3, f1, f2, _⟩ := loop_ok hq hh rfl e4 e5 hK e2 e3 (by rw [← e1]; exact e6) bs hbs hhd L N c0
  refine ⟨d, got, L', N', ?_, f2⟩
  obtain ⟨r1, r2⟩ := r
  simp only at h2 h3
  rw [h1, h2, h3, f1, e1]
theorem counts_law (n : List Int) (op : Int) (hop : inR .u8 op) : lCountsC n op = true ∧ lCounts n op = true := by
  have hv : (lCountsT n op).val = some true := by
    by_cases h : (n.length : Int) > 60
    · have d : decide (iN n.length > 60) = true := by simpa [iN] using h
      simp only [lCountsT, RT.val, d, known20.1, Bool.not_true, Bool.false_or, cond_true]
    · have d : decide (iN n.length > 60) = false := by simpa [iN] using h
      obtain ⟨k1, b1, hc⟩ := nChip_in (from_ok n) (by decide)
      obtain ⟨k2, b2, _⟩ := nRegs_in b1 (by decide) (nChip (n, 0)).1
      obtain ⟨k3, b3, _⟩ := nByte_in b2 (by decide)
      obtain ⟨k4, b4, _⟩ := nByte_in b3 (by decide)
      obtain ⟨k5, b5, _⟩ := nByte_in b4 (by decide)
      obtain ⟨k6, b6, _⟩ := nByte_in b5 (by decide)
      obtain ⟨r0, m, hn⟩ := new_shape (nChip (n, 0)).1
      have key := fun bs h1 h2 L N c0 => run_ok ((nChip (n, 0)).1, (nRegs (nChip (n, 0)).2 (nChip (n, 0)).1).1, false, false, false, m, false, false, false, false, false, false, false) hc ⟨rfl, rfl, rfl, rfl⟩ rfl op hop bs h1 h2 L N c0
      simp only [lCountsT, RT.val, hn, d, k1, k2, k3, k4, k5, k6, known20.1, known20.2]
      obtain ⟨z, got, L', N', hr, hf⟩ := key [op, (nByte (nRegs (nChip (n, 0)).2 (nChip (n, 0)).1).2).1, (nByte (nByte (nRegs (nChip (n, 0)).2 (nChip (n, 0)).1).2).2).1, (nByte (nByte (nByte (nRegs (nChip (n, 0)).2 (nChip (n, 0)).1).2).2).2).1, (nByte (nByte (nByte (nByte (nRegs (nChip (n, 0)).2 (nChip (n, 0)).1).2).2).2).2).1] rfl rfl
        (nByte (nByte (nByte (nByte (nRegs (nChip (n, 0)).2 (nChip (n, 0)).1).2).2).2).2).2.1 (nByte (nByte (nByte (nByte (nRegs (nChip (n, 0)).2 (nChip (n, 0)).1).2).2).2).2).2.2
        (((nChip (n, 0)).1, (nRegs (nChip (n, 0)).2 (nChip (n, 0)).1).1, false, false, false, m, false, false, false, false, false, false, false), 0, [], (nextX ((nChip (n, 0)).1, (nRegs (nChip (n, 0)).2 (nChip (n, 0)).1).1, false, false, false, m, false, false, false, false, false, false, false) 0 []).1, 1, false)
      rw [hr]
      simp only [lnR] at hf
      simp only [okB, getO, hf, beq_self_eq_true, Bool.not_true, Bool.not_false, Bool.true_or, Bool.false_or, Bool.or_true, Bool.and_self, cond_true, cond_false, takenX]
  simp only [lCountsC, lCounts, hv, okB, getO, and_self]
end
end Go.Proofs.YteboknglfjadoaaGreat
