/-
  The state behind an instruction: the contract of the program's function, told by finX. Conditions: none.
-/
import Derived.Test.YteboknglfjadoaaGreatKind47
import Derived.Test.YteboknglfjadoaaGreatFinPl1
set_option linter.unusedSimpArgs false
open Go Go.S3 Go.Proofs
set_option linter.unusedVariables false
set_option maxRecDepth 100000
namespace Go.Proofs.YteboknglfjadoaaGreat
noncomputable section
theorem pFin_at (a : HL pFinTs) (h : okHL pFinTs a) : ∃ l, AllOk Tryz.prog l ∧ (evVal (envX Tryz.prog l [] 1023 8) Tryz.f165 pFinTs pFinRs a).val = some (finX a.1 a.2.1 a.2.2.1 a.2.2.2) := by
  have hk := kind_in a.1.1 _ (head_in h.2.2.1)
  refine ⟨pFinL (rDecode a.1.1 (a.2.2.1.getD 0 0)).1, pFinL_ok _, ?_⟩
  rcases kinds47 hk.1 hk.2 with e | e | e | e | e | e | e | e | e | e | e | e | e | e | e | e | e | e | e | e | e | e | e | e | e | e | e | e | e | e | e | e | e | e | e | e | e | e | e | e | e | e | e | e | e | e | e
  · rw [e, pFin_1_ev a, ((fp_1 a.1 a.2.1 a.2.2.1 a.2.2.2 _ e).1 rfl)]
  · rw [e, pFin_2_ev a, ((fp_5 a.1 a.2.1 a.2.2.1 a.2.2.2 _ e).1 rfl)]
  · rw [e, pFin_3_ev a, ((fp_2 a.1 a.2.1 a.2.2.1 a.2.2.2 _ e).1 rfl)]
  · rw [e, pFin_4_ev a, ((fp_3 a.1 a.2.1 a.2.2.1 a.2.2.2 _ e).1 rfl)]
  · rw [e, pFin_5_ev a, ((fp_4 a.1 a.2.1 a.2.2.1 a.2.2.2 _ e).1 rfl)]
  · rw [e, pFin_6_ev a, ((fp_1 a.1 a.2.1 a.2.2.1 a.2.2.2 _ e).2.1 rfl)]
  · rw [e, pFin_7_ev a, ((fp_2 a.1 a.2.1 a.2.2.1 a.2.2.2 _ e).2.1 rfl)]
  · rw [e, pFin_8_ev a, ((fp_3 a.1 a.2.1 a.2.2.1 a.2.2.2 _ e).2.1 rfl)]
  · rw [e, pFin_9_ev a, ((fp_4 a.1 a.2.1 a.2.2.1 a.2.2.2 _ e).2.1 rfl)]
  · rw [e, pFin_10_ev a, ((fp_1 a.1 a.2.1 a.2.2.1 a.2.2.2 _ e).2.2.1 rfl)]
  · rw [e, pFin_11_ev a, ((fp_2 a.1 a.2.1 a.2.2.1 a.2.2.2 _ e).2.2.1 rfl)]
  · rw [e, pFin_12_ev a, ((fp_5 a.1 a.2.1 a.2.2.1 a.2.2.2 _ e).2 rfl)]
  · rw [e, pFin_13_ev a, ((fp_3 a.1 a.2.1 a.2.2.1 a.2.2.2 _ e).2.2.1 rfl)]
  · rw [e, pFin_14_ev a, ((fp_6 a.1 a.2.1 a.2.2.1 a.2.2.2 _ e).1 rfl)]
  · rw [e, pFin_15_ev a, ((fp_6 a.1 a.2.1 a.2.2.1 a.2.2.2 _ e).2 rfl)]
  · rw [e, pFin_16_ev a, ((fp_4 a.1 a.2.1 a.2.2.1 a.2.2.2 _ e).2.2.1 rfl)]
  · rw [e, pFin_17_ev a, ((fp_1 a.1 a.2.1 a.2.2.1 a.2.2.2 _ e).2.2.2.1 rfl)]
  · rw [e, pFin_18_ev a, ((fp_2 a.1 a.2.1 a.2.2.1 a.2.2.2 _ e).2.2.2.1 rfl)]
  · rw [e, pFin_19_ev a, ((fp_3 a.1 a.2.1 a.2.2.1 a.2.2.2 _ e).2.2.2.1 rfl)]
  · rw [e, pFin_20_ev a, ((fp_4 a.1 a.2.1 a.2.2.1 a.2.2.2 _ e).2.2.2.1 rfl)]
  · rw [e, pFin_21_ev a, ((fp_1 a.1 a.2.1 a.2.2.1 a.2.2.2 _ e).2.2.2.2.1 rfl)]
  · rw [e, pFin_22_ev a, ((fp_2 a.1 a.2.1 a.2.2.1 a.2.2.2 _ e).2.2.2.2.1 rfl)]
  · rw [e, pFin_23_ev a, ((fp_3 a.1 a.2.1 a.2.2.1 a.2.2.2 _ e).2.2.2.2.1 rfl)]
  · rw [e, pFin_24_ev a, ((fp_7 a.1 a.2.1 a.2.2.1 a.2.2.2 _ e).1 rfl)]
  · rw [e, pFin_25_ev a, ((fp_7 a.1 a.2.1 a.2.2.1 a.2.2.2 _ e).2.1 rfl)]
  · rw [e, pFin_26_ev a, ((fp_7 a.1 a.2.1 a.2.2.1 a.2.2.2 _ e).2.2.1 rfl)]
  · rw [e, pFin_27_ev a, ((fp_4 a.1 a.2.1 a.2.2.1 a.2.2.2 _ e).2.2.2.2.1 rfl)]
  · rw [e, pFin_28_ev a, ((fp_1 a.1 a.2.1 a.2.2.1 a.2.2.2 _ e).2.2.2.2.2.1 rfl)]
  · rw [e, pFin_29_ev a, ((fp_2 a.1 a.2.1 a.2.2.1 a.2.2.2 _ e).2.2.2.2.2.1 rfl)]
  · rw [e, pFin_30_ev a, ((fp_3 a.1 a.2.1 a.2.2.1 a.2.2.2 _ e).2.2.2.2.2.1 rfl)]
  · rw [e, pFin_31_ev a, ((fp_8 a.1 a.2.1 a.2.2.1 a.2.2.2 _ e) rfl)]
  · rw [e, pFin_32_ev a, ((fp_4 a.1 a.2.1 a.2.2.1 a.2.2.2 _ e).2.2.2.2.2.1 rfl)]
  · rw [e, pFin_33_ev a, ((fp_1 a.1 a.2.1 a.2.2.1 a.2.2.2 _ e).2.2.2.2.2.2.1 rfl)]
  · rw [e, pFin_34_ev a, ((fp_2 a.1 a.2.1 a.2.2.1 a.2.2.2 _ e).2.2.2.2.2.2.1 rfl)]
  · rw [e, pFin_35_ev a, ((fp_3 a.1 a.2.1 a.2.2.1 a.2.2.2 _ e).2.2.2.2.2.2.1 rfl)]
  · rw [e, pFin_36_ev a, ((fp_4 a.1 a.2.1 a.2.2.1 a.2.2.2 _ e).2.2.2.2.2.2.1 rfl)]
  · rw [e, pFin_37_ev a, ((fp_1 a.1 a.2.1 a.2.2.1 a.2.2.2 _ e).2.2.2.2.2.2.2.1 rfl)]
  · rw [e, pFin_38_ev a, ((fp_9 a.1 a.2.1 a.2.2.1 a.2.2.2 _ e) rfl)]
  · rw [e, pFin_39_ev a, ((fp_10 a.1 a.2.1 a.2.2.1 a.2.2.2 _ e) rfl)]
  · rw [e, pFin_40_ev a, ((fp_2 a.1 a.2.1 a.2.2.1 a.2.2.2 _ e).2.2.2.2.2.2.2.1 rfl)]
  · rw [e, pFin_41_ev a, ((fp_3 a.1 a.2.1 a.2.2.1 a.2.2.2 _ e).2.2.2.2.2.2.2.1 rfl)]
  · rw [e, pFin_42_ev a, ((fp_4 a.1 a.2.1 a.2.2.1 a.2.2.2 _ e).2.2.2.2.2.2.2.1 rfl)]
  · rw [e, pFin_43_ev a, ((fp_1 a.1 a.2.1 a.2.2.1 a.2.2.2 _ e).2.2.2.2.2.2.2.2 rfl)]
  · rw [e, pFin_44_ev a, ((fp_2 a.1 a.2.1 a.2.2.1 a.2.2.2 _ e).2.2.2.2.2.2.2.2 rfl)]
  · rw [e, pFin_45_ev a, ((fp_7 a.1 a.2.1 a.2.2.1 a.2.2.2 _ e).2.2.2 rfl)]
  · rw [e, pFin_46_ev a, ((fp_3 a.1 a.2.1 a.2.2.1 a.2.2.2 _ e).2.2.2.2.2.2.2.2 rfl)]
  · rw [e, pFin_47_ev a, ((fp_4 a.1 a.2.1 a.2.2.1 a.2.2.2 _ e).2.2.2.2.2.2.2.2 rfl)]
def pFinE : Entry := pureE pFinTs pFinRs (fun _ => none) (fun a => finX a.1 a.2.1 a.2.2.1 a.2.2.2)
theorem pFin_ok : EntryOk Tryz.prog 165 pFinE := pure_any Tryz.func165 rfl (by kernel_rfl) Tryz.call165 fun a h _ => pFin_at a h
end
end Go.Proofs.YteboknglfjadoaaGreat
