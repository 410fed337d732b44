/-
  Memories: the program's Normalize is the reference's; Load, Same and Find of the reference as plain functions. Conditions: none.
-/
import Derived.Test.YtfejikddclgkcaaMemB
open Go Go.S3 Go.Proofs Go.Proofs.Cells
set_option linter.unusedVariables false
set_option linter.unusedSimpArgs false
set_option maxRecDepth 100000
namespace Go.Proofs.Ytfejikddclgkcaa
noncomputable section
/-! ### the program's Normalize -/
def keepB (s : List Cell) (i : Nat) : Bool := (el s i).2 != 0 && (decide (i + 1 = s.length) || (el s (i + 1)).1 != (el s i).1)
theorem dd_step (s : List Cell) (i : Nat) (h : i < s.length) : dd (s.drop i) = (bif keepB s i then [el s i] else []) ++ dd (s.drop (i + 1)) := by
  rw [drop_el s i h]
  by_cases hl : i + 1 < s.length
  · rw [drop_el s (i + 1) hl, dd]
    have e : decide (i + 1 = s.length) = false := by simp; omega
    simp only [keepB, e, Bool.false_or]
    by_cases h1 : (el s i).1 = (el s (i + 1)).1
    · have : ((el s (i + 1)).1 != (el s i).1) = false := by simp [h1]
      simp only [this, Bool.and_false, cond_false, List.nil_append, if_pos h1]
    · have : ((el s (i + 1)).1 != (el s i).1) = true := by simpa using fun e => h1 e.symm
      simp only [this, Bool.and_true, if_neg h1]
      by_cases h2 : (el s i).2 = 0
      · have : ((el s i).2 != 0) = false := by simp [h2]
        simp only [this, if_pos h2, cond_false, List.nil_append]
      · have : ((el s i).2 != 0) = true := by simpa using h2
        simp only [this, if_neg h2, cond_true, List.singleton_append]
  · have hn : s.drop (i + 1) = [] := List.drop_eq_nil_of_le (by omega)
    have e : decide (i + 1 = s.length) = true := by simp; omega
    rw [hn]
    simp only [keepB, e, Bool.true_or, Bool.and_true, dd, List.append_nil]
    by_cases h2 : (el s i).2 = 0
    · have : ((el s i).2 != 0) = false := by simp [h2]
      simp only [this, if_pos h2, cond_false]
    · have : ((el s i).2 != 0) = true := by simpa using h2
      simp only [this, if_neg h2, cond_true]
theorem usort_run (l : List Cell) (hl : l.length ≤ most) : uSortC l = true ∧ uSort l = isort l := by
  have hs : stabOk l (iN l.length) = true := by simp [stabOk, iN]; omega
  have hv : (uSortT l).val = some (isort l) := by
    simp only [uSortT, RT.val, ownSt, hs, cond_true]
  exact ⟨by simp only [uSortC, hv]; rfl, by simp only [uSort, hv, getO]⟩
theorem mnorm_run (l : List Cell) (hl : l.length ≤ most) : mNormC l = true ∧ mNorm l = normX l := by
  have hms := mst
  have h1 := usort_run l hl
  have hlen := isort_len l
  generalize hs : isort l = s at hlen h1
  obtain ⟨r, hr, h2, i, hR⟩ := runF_ind (fl := false) (t := mNormL0T) (fuel := fun a => Int.toNat (a.1 - a.2.1) + 1)
    (fun a => ∃ (i : Nat) (o : List Cell), i ≤ s.length ∧ o.length ≤ i ∧ o ++ dd (s.drop i) = dd s ∧ a = ((s.length : Int), (i : Int), s, o, ()))
    (fun a => Int.toNat (a.1 - a.2.1)) (fun r => r.1 = false ∧ ∃ i : Nat, r.2 = ((s.length : Int), (i : Int), s, dd s, ()))
    (by
      rintro a ⟨i, o, hi, ho, hd, rfl⟩
      by_cases hlt : i < s.length
      · left
        have d : decide ((i : Int) < (s.length : Int)) = true := by simpa using hlt
        have r1 := rng_nat s i hlt
        have w := wadd1 i (by omega)
        have e1 : (((i + 1 : Nat) : Int) == iN s.length) = decide (i + 1 = s.length) := by
          rw [Bool.eq_iff_iff]; simp [iN]; omega
        have hst := dd_step s i hlt
        have hle : ∀ x : Cell, Nat.ble (o ++ [x]).length most = true := fun x => by rw [Nat.ble_eq]; simp only [List.length_append, List.length_singleton]; omega
        refine ⟨((s.length : Int), ((i + 1 : Nat) : Int), s, o ++ (bif keepB s i then [el s i] else []), ()), ?_, ⟨i + 1, _, hlt, ?_, ?_, rfl⟩, by simp only; omega⟩
        · have e3 : (!((el s i).2 != 0) || (decide (i + 1 = s.length) || inRng ((i + 1 : Nat) : Int) s.length)) = true := by
            by_cases hq : i + 1 = s.length
            · simp [hq]
            · rw [rng_nat s (i + 1) (by omega)]; simp
          have e4 : ((el s i).2 != 0 && (decide (i + 1 = s.length) || (el s (i + 1)).1 != (el s i).1)) = keepB s i := rfl
          have g1 := get_el s i
          have g2 := get_el s (i + 1)
          simp only [mNormL0T, RT.val, d, r1, w, g1, g2, e1, e3, e4, hle, cond_true, Bool.not_true, Bool.false_or, Bool.or_true]
          cases keepB s i <;> simp
        · cases keepB s i <;> simp only [cond_true, cond_false, List.append_nil, List.length_append, List.length_singleton] <;> omega
        · rw [List.append_assoc, ← hst, hd]
      · right; left
        have d : decide ((i : Int) < (s.length : Int)) = false := by simpa using hlt
        have e : s.drop i = [] := List.drop_eq_nil_of_le (by omega)
        rw [e] at hd
        simp only [dd, List.append_nil] at hd
        subst hd
        exact ⟨_, by simp only [mNormL0T, RT.val, d, cond_false], rfl, i, rfl⟩)
    (iN s.length, 0, s, [], ()) ⟨0, [], Nat.zero_le _, by simp, by simp, rfl⟩ (by simp only [iN]; omega)
  obtain ⟨r1, r2⟩ := r
  simp only at h2 hR
  subst h2 hR
  have hb : Nat.ble l.length most = true := by rw [Nat.ble_eq]; exact hl
  have hv : (mNormT l).val = some (normX l) := by
    simp only [mNormT, RT.val, hb, h1.1, h1.2, hr, okB, getO, cond_true]
    rw [← hs, normX_sort]
  exact ⟨by simp only [mNormC, hv]; rfl, by simp only [mNorm, hv, getO]⟩
end
end Go.Proofs.Ytfejikddclgkcaa
