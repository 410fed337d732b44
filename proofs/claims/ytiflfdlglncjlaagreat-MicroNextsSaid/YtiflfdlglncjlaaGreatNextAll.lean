/-
  The next machine cycle: contracts of the program's and of the reference's with one function. Conditions: none.
-/
import Derived.Test.YtiflfdlglncjlaaGreatKind47
import Derived.Test.YtiflfdlglncjlaaGreatNextPl1
import Derived.Test.YtiflfdlglncjlaaGreatNextPl2
import Derived.Test.YtiflfdlglncjlaaGreatNextPl3
import Derived.Test.YtiflfdlglncjlaaGreatNextPl4
set_option linter.unusedSimpArgs false
open Go Go.S3 Go.Proofs
set_option linter.unusedVariables false
set_option maxRecDepth 100000
namespace Go.Proofs.YtiflfdlglncjlaaGreat
noncomputable section
theorem pNext_at (a : HL pNextTs) (h : okHL pNextTs a) : ∃ l, AllOk Tryz.prog l ∧ (evVal (envX Tryz.prog l [] 1125900980585471 8) Tryz.f6 pNextTs pNextRs a).val = some (nextX a.1 a.2.1 a.2.2) := by
  have hk := kind_in a.1.1 _ (head_in h.2.2)
  refine ⟨pNextL (rDecode a.1.1 (a.2.2.getD 0 0)).1, pNextL_ok _, ?_⟩
  rcases kinds47 hk.1 hk.2 with e | e | e | e | e | e | e | e | e | e | e | e | e | e | e | e | e | e | e | e | e | e | e | e | e | e | e | e | e | e | e | e | e | e | e | e | e | e | e | e | e | e | e | e | e | e | e
  · rw [e, pNext_1_ev a, pn_1 a.1 a.2.1 a.2.2 e]
  · rw [e, pNext_2_ev a, pn_2 a.1 a.2.1 a.2.2 e]
  · rw [e, pNext_3_ev a, pn_3 a.1 a.2.1 a.2.2 e]
  · rw [e, pNext_4_ev a, pn_4 a.1 a.2.1 a.2.2 e]
  · rw [e, pNext_5_ev a, pn_5 a.1 a.2.1 a.2.2 e]
  · rw [e, pNext_6_ev a, pn_6 a.1 a.2.1 a.2.2 e]
  · rw [e, pNext_7_ev a, pn_7 a.1 a.2.1 a.2.2 e]
  · rw [e, pNext_8_ev a, pn_8 a.1 a.2.1 a.2.2 e]
  · rw [e, pNext_9_ev a, pn_9 a.1 a.2.1 a.2.2 e]
  · rw [e, pNext_10_ev a, pn_10 a.1 a.2.1 a.2.2 e]
  · rw [e, pNext_11_ev a, pn_11 a.1 a.2.1 a.2.2 e]
  · rw [e, pNext_12_ev a, pn_12 a.1 a.2.1 a.2.2 e]
  · rw [e, pNext_13_ev a, pn_13 a.1 a.2.1 a.2.2 e]
  · rw [e, pNext_14_ev a, pn_14 a.1 a.2.1 a.2.2 e]
  · rw [e, pNext_15_ev a, pn_15 a.1 a.2.1 a.2.2 e]
  · rw [e, pNext_16_ev a, pn_16 a.1 a.2.1 a.2.2 e]
  · rw [e, pNext_17_ev a, pn_17 a.1 a.2.1 a.2.2 e]
  · rw [e, pNext_18_ev a, pn_18 a.1 a.2.1 a.2.2 e]
  · rw [e, pNext_19_ev a, pn_19 a.1 a.2.1 a.2.2 e]
  · rw [e, pNext_20_ev a, pn_20 a.1 a.2.1 a.2.2 e]
  · rw [e, pNext_21_ev a, pn_21 a.1 a.2.1 a.2.2 e]
  · rw [e, pNext_22_ev a, pn_22 a.1 a.2.1 a.2.2 e]
  · rw [e, pNext_23_ev a, pn_23 a.1 a.2.1 a.2.2 e]
  · rw [e, pNext_24_ev a, pn_24 a.1 a.2.1 a.2.2 e]
  · rw [e, pNext_25_ev a, pn_25 a.1 a.2.1 a.2.2 e]
  · rw [e, pNext_26_ev a, pn_26 a.1 a.2.1 a.2.2 e]
  · rw [e, pNext_27_ev a, pn_27 a.1 a.2.1 a.2.2 e]
  · rw [e, pNext_28_ev a, pn_28 a.1 a.2.1 a.2.2 e]
  · rw [e, pNext_29_ev a, pn_29 a.1 a.2.1 a.2.2 e]
  · rw [e, pNext_30_ev a, pn_30 a.1 a.2.1 a.2.2 e]
  · rw [e, pNext_31_ev a, pn_31 a.1 a.2.1 a.2.2 e]
  · rw [e, pNext_32_ev a, pn_32 a.1 a.2.1 a.2.2 e]
  · rw [e, pNext_33_ev a, pn_33 a.1 a.2.1 a.2.2 e]
  · rw [e, pNext_34_ev a, pn_34 a.1 a.2.1 a.2.2 e]
  · rw [e, pNext_35_ev a, pn_35 a.1 a.2.1 a.2.2 e]
  · rw [e, pNext_36_ev a, pn_36 a.1 a.2.1 a.2.2 e]
  · rw [e, pNext_37_ev a, pn_37 a.1 a.2.1 a.2.2 e]
  · rw [e, pNext_38_ev a, pn_38 a.1 a.2.1 a.2.2 e]
  · rw [e, pNext_39_ev a, pn_39 a.1 a.2.1 a.2.2 e]
  · rw [e, pNext_40_ev a, pn_40 a.1 a.2.1 a.2.2 e]
  · rw [e, pNext_41_ev a, pn_41 a.1 a.2.1 a.2.2 e]
  · rw [e, pNext_42_ev a, pn_42 a.1 a.2.1 a.2.2 e]
  · rw [e, pNext_43_ev a, pn_43 a.1 a.2.1 a.2.2 e]
  · rw [e, pNext_44_ev a, pn_44 a.1 a.2.1 a.2.2 e]
  · rw [e, pNext_45_ev a, pn_45 a.1 a.2.1 a.2.2 e]
  · rw [e, pNext_46_ev a, pn_46 a.1 a.2.1 a.2.2 e]
  · rw [e, pNext_47_ev a, pn_47 a.1 a.2.1 a.2.2 e]
def pNextE : Entry := pureE pNextTs pNextRs (fun _ => none) (fun a => nextX a.1 a.2.1 a.2.2)
theorem pNext_ok : EntryOk Tryz.prog 6 pNextE := pure_any Tryz.func6 rfl (by kernel_rfl) Tryz.call6 fun a h _ => pNext_at a h
theorem rNext_at (a : HL rNextTs) (h : okHL rNextTs a) : ∃ l, AllOk Tryz.prog l ∧ (evVal (envX Tryz.prog l [] 2047 8) Tryz.f7 rNextTs rNextRs a).val = some (nextX a.1 a.2.1 a.2.2) := by
  have hk := kind_in a.1.1 _ (head_in h.2.2)
  refine ⟨rNextL (rDecode a.1.1 (a.2.2.getD 0 0)).1, rNextL_ok _, ?_⟩
  rcases kinds47 hk.1 hk.2 with e | e | e | e | e | e | e | e | e | e | e | e | e | e | e | e | e | e | e | e | e | e | e | e | e | e | e | e | e | e | e | e | e | e | e | e | e | e | e | e | e | e | e | e | e | e | e
  · rw [e, rNext_1_ev a, rn_1 a.1 a.2.1 a.2.2 e]
  · rw [e, rNext_2_ev a, rn_2 a.1 a.2.1 a.2.2 e]
  · rw [e, rNext_3_ev a, rn_3 a.1 a.2.1 a.2.2 e]
  · rw [e, rNext_4_ev a, rn_4 a.1 a.2.1 a.2.2 e]
  · rw [e, rNext_5_ev a, rn_5 a.1 a.2.1 a.2.2 e]
  · rw [e, rNext_6_ev a, rn_6 a.1 a.2.1 a.2.2 e]
  · rw [e, rNext_7_ev a, rn_7 a.1 a.2.1 a.2.2 e]
  · rw [e, rNext_8_ev a, rn_8 a.1 a.2.1 a.2.2 e]
  · rw [e, rNext_9_ev a, rn_9 a.1 a.2.1 a.2.2 e]
  · rw [e, rNext_10_ev a, rn_10 a.1 a.2.1 a.2.2 e]
  · rw [e, rNext_11_ev a, rn_11 a.1 a.2.1 a.2.2 e]
  · rw [e, rNext_12_ev a, rn_12 a.1 a.2.1 a.2.2 e]
  · rw [e, rNext_13_ev a, rn_13 a.1 a.2.1 a.2.2 e]
  · rw [e, rNext_14_ev a, rn_14 a.1 a.2.1 a.2.2 e]
  · rw [e, rNext_15_ev a, rn_15 a.1 a.2.1 a.2.2 e]
  · rw [e, rNext_16_ev a, rn_16 a.1 a.2.1 a.2.2 e]
  · rw [e, rNext_17_ev a, rn_17 a.1 a.2.1 a.2.2 e]
  · rw [e, rNext_18_ev a, rn_18 a.1 a.2.1 a.2.2 e]
  · rw [e, rNext_19_ev a, rn_19 a.1 a.2.1 a.2.2 e]
  · rw [e, rNext_20_ev a, rn_20 a.1 a.2.1 a.2.2 e]
  · rw [e, rNext_21_ev a, rn_21 a.1 a.2.1 a.2.2 e]
  · rw [e, rNext_22_ev a, rn_22 a.1 a.2.1 a.2.2 e]
  · rw [e, rNext_23_ev a, rn_23 a.1 a.2.1 a.2.2 e]
  · rw [e, rNext_24_ev a, rn_24 a.1 a.2.1 a.2.2 e]
  · rw [e, rNext_25_ev a, rn_25 a.1 a.2.1 a.2.2 e]
  · rw [e, rNext_26_ev a, rn_26 a.1 a.2.1 a.2.2 e]
  · rw [e, rNext_27_ev a, rn_27 a.1 a.2.1 a.2.2 e]
  · rw [e, rNext_28_ev a, rn_28 a.1 a.2.1 a.2.2 e]
  · rw [e, rNext_29_ev a, rn_29 a.1 a.2.1 a.2.2 e]
  · rw [e, rNext_30_ev a, rn_30 a.1 a.2.1 a.2.2 e]
  · rw [e, rNext_31_ev a, rn_31 a.1 a.2.1 a.2.2 e]
  · rw [e, rNext_32_ev a, rn_32 a.1 a.2.1 a.2.2 e]
  · rw [e, rNext_33_ev a, rn_33 a.1 a.2.1 a.2.2 e]
  · rw [e, rNext_34_ev a, rn_34 a.1 a.2.1 a.2.2 e]
  · rw [e, rNext_35_ev a, rn_35 a.1 a.2.1 a.2.2 e]
  · rw [e, rNext_36_ev a, rn_36 a.1 a.2.1 a.2.2 e]
  · rw [e, rNext_37_ev a, rn_37 a.1 a.2.1 a.2.2 e]
  · rw [e, rNext_38_ev a, rn_38 a.1 a.2.1 a.2.2 e]
  · rw [e, rNext_39_ev a, rn_39 a.1 a.2.1 a.2.2 e]
  · rw [e, rNext_40_ev a, rn_40 a.1 a.2.1 a.2.2 e]
  · rw [e, rNext_41_ev a, rn_41 a.1 a.2.1 a.2.2 e]
  · rw [e, rNext_42_ev a, rn_42 a.1 a.2.1 a.2.2 e]
  · rw [e, rNext_43_ev a, rn_43 a.1 a.2.1 a.2.2 e]
  · rw [e, rNext_44_ev a, rn_44 a.1 a.2.1 a.2.2 e]
  · rw [e, rNext_45_ev a, rn_45 a.1 a.2.1 a.2.2 e]
  · rw [e, rNext_46_ev a, rn_46 a.1 a.2.1 a.2.2 e]
  · rw [e, rNext_47_ev a, rn_47 a.1 a.2.1 a.2.2 e]
def rNextE : Entry := pureE rNextTs rNextRs (fun _ => none) (fun a => nextX a.1 a.2.1 a.2.2)
theorem rNext_ok : EntryOk Tryz.prog 7 rNextE := pure_any Tryz.func7 rfl (by kernel_rfl) Tryz.call7 fun a h _ => rNext_at a h
end
end Go.Proofs.YtiflfdlglncjlaaGreat
