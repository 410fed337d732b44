/-
  The next machine cycle: contracts of the program's and of the reference's with one function. Conditions: none.
-/
import Derived.Test.YteboknglfjadoaaGreatKind47
import Derived.Test.YteboknglfjadoaaGreatNextPl1
import Derived.Test.YteboknglfjadoaaGreatNextPl2
set_option linter.unusedSimpArgs false
open Go Go.S3 Go.Proofs
set_option linter.unusedVariables false
set_option maxRecDepth 100000
namespace Go.Proofs.YteboknglfjadoaaGreat
noncomputable section
theorem pNext_at (a : HL pNextTs) (h : okHL pNextTs a) : ∃ l, AllOk Tryz.prog l ∧ (evVal (envX Tryz.prog l [] 1125900980585471 8) Tryz.f120 pNextTs pNextRs a).val = some (nextX a.1 a.2.1 a.2.2) := by
  have hk := kind_in a.1.1 _ (head_in h.2.2)
  refine ⟨pNextL (rDecode a.1.1 (a.2.2.getD 0 0)).1, pNextL_ok _, ?_⟩
  rcases kinds47 hk.1 hk.2 with e | e | e | e | e | e | e | e | e | e | e | e | e | e | e | e | e | e | e | e | e | e | e | e | e | e | e | e | e | e | e | e | e | e | e | e | e | e | e | e | e | e | e | e | e | e | e
  · rw [e, pNext_1_ev a, ((nx_1 a.1 a.2.1 a.2.2 _ e).1 rfl)]
  · rw [e, pNext_2_ev a, ((nx_5 a.1 a.2.1 a.2.2 _ e).1 rfl)]
  · rw [e, pNext_3_ev a, ((nx_6 a.1 a.2.1 a.2.2 _ e).1 rfl)]
  · rw [e, pNext_4_ev a, ((nx_2 a.1 a.2.1 a.2.2 _ e).1 rfl)]
  · rw [e, pNext_5_ev a, ((nx_3 a.1 a.2.1 a.2.2 _ e).1 rfl)]
  · rw [e, pNext_6_ev a, ((nx_4 a.1 a.2.1 a.2.2 _ e).1 rfl)]
  · rw [e, pNext_7_ev a, ((nx_1 a.1 a.2.1 a.2.2 _ e).2.1 rfl)]
  · rw [e, pNext_8_ev a, ((nx_2 a.1 a.2.1 a.2.2 _ e).2.1 rfl)]
  · rw [e, pNext_9_ev a, ((nx_3 a.1 a.2.1 a.2.2 _ e).2.1 rfl)]
  · rw [e, pNext_10_ev a, ((nx_4 a.1 a.2.1 a.2.2 _ e).2.1 rfl)]
  · rw [e, pNext_11_ev a, ((nx_1 a.1 a.2.1 a.2.2 _ e).2.2.1 rfl)]
  · rw [e, pNext_12_ev a, ((nx_7 a.1 a.2.1 a.2.2 _ e).1 rfl)]
  · rw [e, pNext_13_ev a, ((nx_2 a.1 a.2.1 a.2.2 _ e).2.2.1 rfl)]
  · rw [e, pNext_14_ev a, ((nx_6 a.1 a.2.1 a.2.2 _ e).2.1 rfl)]
  · rw [e, pNext_15_ev a, ((nx_6 a.1 a.2.1 a.2.2 _ e).2.2.1 rfl)]
  · rw [e, pNext_16_ev a, ((nx_3 a.1 a.2.1 a.2.2 _ e).2.2.1 rfl)]
  · rw [e, pNext_17_ev a, ((nx_4 a.1 a.2.1 a.2.2 _ e).2.2.1 rfl)]
  · rw [e, pNext_18_ev a, ((nx_1 a.1 a.2.1 a.2.2 _ e).2.2.2.1 rfl)]
  · rw [e, pNext_19_ev a, ((nx_2 a.1 a.2.1 a.2.2 _ e).2.2.2.1 rfl)]
  · rw [e, pNext_20_ev a, ((nx_3 a.1 a.2.1 a.2.2 _ e).2.2.2.1 rfl)]
  · rw [e, pNext_21_ev a, ((nx_4 a.1 a.2.1 a.2.2 _ e).2.2.2.1 rfl)]
  · rw [e, pNext_22_ev a, ((nx_1 a.1 a.2.1 a.2.2 _ e).2.2.2.2.1 rfl)]
  · rw [e, pNext_23_ev a, ((nx_2 a.1 a.2.1 a.2.2 _ e).2.2.2.2.1 rfl)]
  · rw [e, pNext_24_ev a, ((nx_8 a.1 a.2.1 a.2.2 _ e).1 rfl)]
  · rw [e, pNext_25_ev a, ((nx_8 a.1 a.2.1 a.2.2 _ e).2.1 rfl)]
  · rw [e, pNext_26_ev a, ((nx_9 a.1 a.2.1 a.2.2 _ e).1 rfl)]
  · rw [e, pNext_27_ev a, ((nx_3 a.1 a.2.1 a.2.2 _ e).2.2.2.2.1 rfl)]
  · rw [e, pNext_28_ev a, ((nx_4 a.1 a.2.1 a.2.2 _ e).2.2.2.2.1 rfl)]
  · rw [e, pNext_29_ev a, ((nx_1 a.1 a.2.1 a.2.2 _ e).2.2.2.2.2.1 rfl)]
  · rw [e, pNext_30_ev a, ((nx_10 a.1 a.2.1 a.2.2 _ e).1 rfl)]
  · rw [e, pNext_31_ev a, ((nx_2 a.1 a.2.1 a.2.2 _ e).2.2.2.2.2.1 rfl)]
  · rw [e, pNext_32_ev a, ((nx_11 a.1 a.2.1 a.2.2 _ e).1 rfl)]
  · rw [e, pNext_33_ev a, ((nx_3 a.1 a.2.1 a.2.2 _ e).2.2.2.2.2.1 rfl)]
  · rw [e, pNext_34_ev a, ((nx_4 a.1 a.2.1 a.2.2 _ e).2.2.2.2.2.1 rfl)]
  · rw [e, pNext_35_ev a, ((nx_1 a.1 a.2.1 a.2.2 _ e).2.2.2.2.2.2.1 rfl)]
  · rw [e, pNext_36_ev a, ((nx_2 a.1 a.2.1 a.2.2 _ e).2.2.2.2.2.2.1 rfl)]
  · rw [e, pNext_37_ev a, ((nx_11 a.1 a.2.1 a.2.2 _ e).2.1 rfl)]
  · rw [e, pNext_38_ev a, ((nx_3 a.1 a.2.1 a.2.2 _ e).2.2.2.2.2.2.1 rfl)]
  · rw [e, pNext_39_ev a, ((nx_4 a.1 a.2.1 a.2.2 _ e).2.2.2.2.2.2.1 rfl)]
  · rw [e, pNext_40_ev a, ((nx_1 a.1 a.2.1 a.2.2 _ e).2.2.2.2.2.2.2.1 rfl)]
  · rw [e, pNext_41_ev a, ((nx_2 a.1 a.2.1 a.2.2 _ e).2.2.2.2.2.2.2.1 rfl)]
  · rw [e, pNext_42_ev a, ((nx_3 a.1 a.2.1 a.2.2 _ e).2.2.2.2.2.2.2.1 rfl)]
  · rw [e, pNext_43_ev a, ((nx_4 a.1 a.2.1 a.2.2 _ e).2.2.2.2.2.2.2.1 rfl)]
  · rw [e, pNext_44_ev a, ((nx_1 a.1 a.2.1 a.2.2 _ e).2.2.2.2.2.2.2.2.1 rfl)]
  · rw [e, pNext_45_ev a, ((nx_9 a.1 a.2.1 a.2.2 _ e).2.1 rfl)]
  · rw [e, pNext_46_ev a, ((nx_2 a.1 a.2.1 a.2.2 _ e).2.2.2.2.2.2.2.2.1 rfl)]
  · rw [e, pNext_47_ev a, ((nx_3 a.1 a.2.1 a.2.2 _ e).2.2.2.2.2.2.2.2.1 rfl)]
def pNextE : Entry := pureE pNextTs pNextRs (fun _ => none) (fun a => nextX a.1 a.2.1 a.2.2)
theorem pNext_ok : EntryOk Tryz.prog 120 pNextE := pure_any Tryz.func120 rfl (by kernel_rfl) Tryz.call120 fun a h _ => pNext_at a h
theorem rNext_at (a : HL rNextTs) (h : okHL rNextTs a) : ∃ l, AllOk Tryz.prog l ∧ (evVal (envX Tryz.prog l [] 2047 8) Tryz.f20 rNextTs rNextRs a).val = some (nextX a.1 a.2.1 a.2.2) := by
  have hk := kind_in a.1.1 _ (head_in h.2.2)
  refine ⟨rNextL (rDecode a.1.1 (a.2.2.getD 0 0)).1, rNextL_ok _, ?_⟩
  rcases kinds47 hk.1 hk.2 with e | e | e | e | e | e | e | e | e | e | e | e | e | e | e | e | e | e | e | e | e | e | e | e | e | e | e | e | e | e | e | e | e | e | e | e | e | e | e | e | e | e | e | e | e | e | e
  · rw [e, rNext_1_ev a, ((nx_1 a.1 a.2.1 a.2.2 _ e).2.2.2.2.2.2.2.2.2.1 rfl)]
  · rw [e, rNext_2_ev a, ((nx_5 a.1 a.2.1 a.2.2 _ e).2 rfl)]
  · rw [e, rNext_3_ev a, ((nx_6 a.1 a.2.1 a.2.2 _ e).2.2.2.1 rfl)]
  · rw [e, rNext_4_ev a, ((nx_2 a.1 a.2.1 a.2.2 _ e).2.2.2.2.2.2.2.2.2.1 rfl)]
  · rw [e, rNext_5_ev a, ((nx_3 a.1 a.2.1 a.2.2 _ e).2.2.2.2.2.2.2.2.2.1 rfl)]
  · rw [e, rNext_6_ev a, ((nx_4 a.1 a.2.1 a.2.2 _ e).2.2.2.2.2.2.2.2.1 rfl)]
  · rw [e, rNext_7_ev a, ((nx_1 a.1 a.2.1 a.2.2 _ e).2.2.2.2.2.2.2.2.2.2.1 rfl)]
  · rw [e, rNext_8_ev a, ((nx_2 a.1 a.2.1 a.2.2 _ e).2.2.2.2.2.2.2.2.2.2.1 rfl)]
  · rw [e, rNext_9_ev a, ((nx_3 a.1 a.2.1 a.2.2 _ e).2.2.2.2.2.2.2.2.2.2.1 rfl)]
  · rw [e, rNext_10_ev a, ((nx_4 a.1 a.2.1 a.2.2 _ e).2.2.2.2.2.2.2.2.2.1 rfl)]
  · rw [e, rNext_11_ev a, ((nx_1 a.1 a.2.1 a.2.2 _ e).2.2.2.2.2.2.2.2.2.2.2.1 rfl)]
  · rw [e, rNext_12_ev a, ((nx_7 a.1 a.2.1 a.2.2 _ e).2 rfl)]
  · rw [e, rNext_13_ev a, ((nx_2 a.1 a.2.1 a.2.2 _ e).2.2.2.2.2.2.2.2.2.2.2.1 rfl)]
  · rw [e, rNext_14_ev a, ((nx_6 a.1 a.2.1 a.2.2 _ e).2.2.2.2.1 rfl)]
  · rw [e, rNext_15_ev a, ((nx_6 a.1 a.2.1 a.2.2 _ e).2.2.2.2.2 rfl)]
  · rw [e, rNext_16_ev a, ((nx_3 a.1 a.2.1 a.2.2 _ e).2.2.2.2.2.2.2.2.2.2.2.1 rfl)]
  · rw [e, rNext_17_ev a, ((nx_4 a.1 a.2.1 a.2.2 _ e).2.2.2.2.2.2.2.2.2.2.1 rfl)]
  · rw [e, rNext_18_ev a, ((nx_1 a.1 a.2.1 a.2.2 _ e).2.2.2.2.2.2.2.2.2.2.2.2.1 rfl)]
  · rw [e, rNext_19_ev a, ((nx_2 a.1 a.2.1 a.2.2 _ e).2.2.2.2.2.2.2.2.2.2.2.2.1 rfl)]
  · rw [e, rNext_20_ev a, ((nx_3 a.1 a.2.1 a.2.2 _ e).2.2.2.2.2.2.2.2.2.2.2.2.1 rfl)]
  · rw [e, rNext_21_ev a, ((nx_4 a.1 a.2.1 a.2.2 _ e).2.2.2.2.2.2.2.2.2.2.2.1 rfl)]
  · rw [e, rNext_22_ev a, ((nx_1 a.1 a.2.1 a.2.2 _ e).2.2.2.2.2.2.2.2.2.2.2.2.2.1 rfl)]
  · rw [e, rNext_23_ev a, ((nx_2 a.1 a.2.1 a.2.2 _ e).2.2.2.2.2.2.2.2.2.2.2.2.2.1 rfl)]
  · rw [e, rNext_24_ev a, ((nx_8 a.1 a.2.1 a.2.2 _ e).2.2.1 rfl)]
  · rw [e, rNext_25_ev a, ((nx_8 a.1 a.2.1 a.2.2 _ e).2.2.2 rfl)]
  · rw [e, rNext_26_ev a, ((nx_9 a.1 a.2.1 a.2.2 _ e).2.2.1 rfl)]
  · rw [e, rNext_27_ev a, ((nx_3 a.1 a.2.1 a.2.2 _ e).2.2.2.2.2.2.2.2.2.2.2.2.2.1 rfl)]
  · rw [e, rNext_28_ev a, ((nx_4 a.1 a.2.1 a.2.2 _ e).2.2.2.2.2.2.2.2.2.2.2.2.1 rfl)]
  · rw [e, rNext_29_ev a, ((nx_1 a.1 a.2.1 a.2.2 _ e).2.2.2.2.2.2.2.2.2.2.2.2.2.2.1 rfl)]
  · rw [e, rNext_30_ev a, ((nx_10 a.1 a.2.1 a.2.2 _ e).2 rfl)]
  · rw [e, rNext_31_ev a, ((nx_2 a.1 a.2.1 a.2.2 _ e).2.2.2.2.2.2.2.2.2.2.2.2.2.2.1 rfl)]
  · rw [e, rNext_32_ev a, ((nx_11 a.1 a.2.1 a.2.2 _ e).2.2.1 rfl)]
  · rw [e, rNext_33_ev a, ((nx_3 a.1 a.2.1 a.2.2 _ e).2.2.2.2.2.2.2.2.2.2.2.2.2.2.1 rfl)]
  · rw [e, rNext_34_ev a, ((nx_4 a.1 a.2.1 a.2.2 _ e).2.2.2.2.2.2.2.2.2.2.2.2.2.1 rfl)]
  · rw [e, rNext_35_ev a, ((nx_1 a.1 a.2.1 a.2.2 _ e).2.2.2.2.2.2.2.2.2.2.2.2.2.2.2.1 rfl)]
  · rw [e, rNext_36_ev a, ((nx_2 a.1 a.2.1 a.2.2 _ e).2.2.2.2.2.2.2.2.2.2.2.2.2.2.2.1 rfl)]
  · rw [e, rNext_37_ev a, ((nx_11 a.1 a.2.1 a.2.2 _ e).2.2.2 rfl)]
  · rw [e, rNext_38_ev a, ((nx_3 a.1 a.2.1 a.2.2 _ e).2.2.2.2.2.2.2.2.2.2.2.2.2.2.2.1 rfl)]
  · rw [e, rNext_39_ev a, ((nx_4 a.1 a.2.1 a.2.2 _ e).2.2.2.2.2.2.2.2.2.2.2.2.2.2.1 rfl)]
  · rw [e, rNext_40_ev a, ((nx_1 a.1 a.2.1 a.2.2 _ e).2.2.2.2.2.2.2.2.2.2.2.2.2.2.2.2.1 rfl)]
  · rw [e, rNext_41_ev a, ((nx_2 a.1 a.2.1 a.2.2 _ e).2.2.2.2.2.2.2.2.2.2.2.2.2.2.2.2.1 rfl)]
  · rw [e, rNext_42_ev a, ((nx_3 a.1 a.2.1 a.2.2 _ e).2.2.2.2.2.2.2.2.2.2.2.2.2.2.2.2.1 rfl)]
  · rw [e, rNext_43_ev a, ((nx_4 a.1 a.2.1 a.2.2 _ e).2.2.2.2.2.2.2.2.2.2.2.2.2.2.2 rfl)]
  · rw [e, rNext_44_ev a, ((nx_1 a.1 a.2.1 a.2.2 _ e).2.2.2.2.2.2.2.2.2.2.2.2.2.2.2.2.2 rfl)]
  · rw [e, rNext_45_ev a, ((nx_9 a.1 a.2.1 a.2.2 _ e).2.2.2 rfl)]
  · rw [e, rNext_46_ev a, ((nx_2 a.1 a.2.1 a.2.2 _ e).2.2.2.2.2.2.2.2.2.2.2.2.2.2.2.2.2 rfl)]
  · rw [e, rNext_47_ev a, ((nx_3 a.1 a.2.1 a.2.2 _ e).2.2.2.2.2.2.2.2.2.2.2.2.2.2.2.2.2 rfl)]
def rNextE : Entry := pureE rNextTs rNextRs (fun _ => none) (fun a => nextX a.1 a.2.1 a.2.2)
theorem rNext_ok : EntryOk Tryz.prog 20 rNextE := pure_any Tryz.func20 rfl (by kernel_rfl) Tryz.call20 fun a h _ => rNext_at a h
end
end Go.Proofs.YteboknglfjadoaaGreat
