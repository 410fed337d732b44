/-
  The state behind an instruction: the contract of the program's function, told by finX. Conditions: none.
-/
import Derived.Test.YtiflfdlglncjlaaGreatKind47
import Derived.Test.YtiflfdlglncjlaaGreatFinPl1
import Derived.Test.YtiflfdlglncjlaaGreatFinPl2
import Derived.Test.YtiflfdlglncjlaaGreatFinPl3
import Derived.Test.YtiflfdlglncjlaaGreatFinPl4
set_option linter.unusedSimpArgs false
open Go Go.S3 Go.Proofs
set_option linter.unusedVariables false
set_option maxRecDepth 100000
namespace Go.Proofs.YtiflfdlglncjlaaGreat
noncomputable section
theorem pFin_at (a : HL pFinTs) (h : okHL pFinTs a) : ∃ l, AllOk Tryz.prog l ∧ (evVal (envX Tryz.prog l [] 1023 8) Tryz.f9 pFinTs pFinRs a).val = some (finX a.1 a.2.1 a.2.2.1 a.2.2.2) := by
  have hk := kind_in a.1.1 _ (head_in h.2.2.1)
  refine ⟨pFinL (rDecode a.1.1 (a.2.2.1.getD 0 0)).1, pFinL_ok _, ?_⟩
  rcases kinds47 hk.1 hk.2 with e | e | e | e | e | e | e | e | e | e | e | e | e | e | e | e | e | e | e | e | e | e | e | e | e | e | e | e | e | e | e | e | e | e | e | e | e | e | e | e | e | e | e | e | e | e | e
  · rw [e, pFin_1_ev a, pf_1 a.1 a.2.1 a.2.2.1 a.2.2.2 e]
  · rw [e, pFin_2_ev a, pf_2 a.1 a.2.1 a.2.2.1 a.2.2.2 e]
  · rw [e, pFin_3_ev a, pf_3 a.1 a.2.1 a.2.2.1 a.2.2.2 e]
  · rw [e, pFin_4_ev a, pf_4 a.1 a.2.1 a.2.2.1 a.2.2.2 e]
  · rw [e, pFin_5_ev a, pf_5 a.1 a.2.1 a.2.2.1 a.2.2.2 e]
  · rw [e, pFin_6_ev a, pf_6 a.1 a.2.1 a.2.2.1 a.2.2.2 e]
  · rw [e, pFin_7_ev a, pf_7 a.1 a.2.1 a.2.2.1 a.2.2.2 e]
  · rw [e, pFin_8_ev a, pf_8 a.1 a.2.1 a.2.2.1 a.2.2.2 e]
  · rw [e, pFin_9_ev a, pf_9 a.1 a.2.1 a.2.2.1 a.2.2.2 e]
  · rw [e, pFin_10_ev a, pf_10 a.1 a.2.1 a.2.2.1 a.2.2.2 e]
  · rw [e, pFin_11_ev a, pf_11 a.1 a.2.1 a.2.2.1 a.2.2.2 e]
  · rw [e, pFin_12_ev a, pf_12 a.1 a.2.1 a.2.2.1 a.2.2.2 e]
  · rw [e, pFin_13_ev a, pf_13 a.1 a.2.1 a.2.2.1 a.2.2.2 e]
  · rw [e, pFin_14_ev a, pf_14 a.1 a.2.1 a.2.2.1 a.2.2.2 e]
  · rw [e, pFin_15_ev a, pf_15 a.1 a.2.1 a.2.2.1 a.2.2.2 e]
  · rw [e, pFin_16_ev a, pf_16 a.1 a.2.1 a.2.2.1 a.2.2.2 e]
  · rw [e, pFin_17_ev a, pf_17 a.1 a.2.1 a.2.2.1 a.2.2.2 e]
  · rw [e, pFin_18_ev a, pf_18 a.1 a.2.1 a.2.2.1 a.2.2.2 e]
  · rw [e, pFin_19_ev a, pf_19 a.1 a.2.1 a.2.2.1 a.2.2.2 e]
  · rw [e, pFin_20_ev a, pf_20 a.1 a.2.1 a.2.2.1 a.2.2.2 e]
  · rw [e, pFin_21_ev a, pf_21 a.1 a.2.1 a.2.2.1 a.2.2.2 e]
  · rw [e, pFin_22_ev a, pf_22 a.1 a.2.1 a.2.2.1 a.2.2.2 e]
  · rw [e, pFin_23_ev a, pf_23 a.1 a.2.1 a.2.2.1 a.2.2.2 e]
  · rw [e, pFin_24_ev a, pf_24 a.1 a.2.1 a.2.2.1 a.2.2.2 e]
  · rw [e, pFin_25_ev a, pf_25 a.1 a.2.1 a.2.2.1 a.2.2.2 e]
  · rw [e, pFin_26_ev a, pf_26 a.1 a.2.1 a.2.2.1 a.2.2.2 e]
  · rw [e, pFin_27_ev a, pf_27 a.1 a.2.1 a.2.2.1 a.2.2.2 e]
  · rw [e, pFin_28_ev a, pf_28 a.1 a.2.1 a.2.2.1 a.2.2.2 e]
  · rw [e, pFin_29_ev a, pf_29 a.1 a.2.1 a.2.2.1 a.2.2.2 e]
  · rw [e, pFin_30_ev a, pf_30 a.1 a.2.1 a.2.2.1 a.2.2.2 e]
  · rw [e, pFin_31_ev a, pf_31 a.1 a.2.1 a.2.2.1 a.2.2.2 e]
  · rw [e, pFin_32_ev a, pf_32 a.1 a.2.1 a.2.2.1 a.2.2.2 e]
  · rw [e, pFin_33_ev a, pf_33 a.1 a.2.1 a.2.2.1 a.2.2.2 e]
  · rw [e, pFin_34_ev a, pf_34 a.1 a.2.1 a.2.2.1 a.2.2.2 e]
  · rw [e, pFin_35_ev a, pf_35 a.1 a.2.1 a.2.2.1 a.2.2.2 e]
  · rw [e, pFin_36_ev a, pf_36 a.1 a.2.1 a.2.2.1 a.2.2.2 e]
  · rw [e, pFin_37_ev a, pf_37 a.1 a.2.1 a.2.2.1 a.2.2.2 e]
  · rw [e, pFin_38_ev a, pf_38 a.1 a.2.1 a.2.2.1 a.2.2.2 e]
  · rw [e, pFin_39_ev a, pf_39 a.1 a.2.1 a.2.2.1 a.2.2.2 e]
  · rw [e, pFin_40_ev a, pf_40 a.1 a.2.1 a.2.2.1 a.2.2.2 e]
  · rw [e, pFin_41_ev a, pf_41 a.1 a.2.1 a.2.2.1 a.2.2.2 e]
  · rw [e, pFin_42_ev a, pf_42 a.1 a.2.1 a.2.2.1 a.2.2.2 e]
  · rw [e, pFin_43_ev a, pf_43 a.1 a.2.1 a.2.2.1 a.2.2.2 e]
  · rw [e, pFin_44_ev a, pf_44 a.1 a.2.1 a.2.2.1 a.2.2.2 e]
  · rw [e, pFin_45_ev a, pf_45 a.1 a.2.1 a.2.2.1 a.2.2.2 e]
  · rw [e, pFin_46_ev a, pf_46 a.1 a.2.1 a.2.2.1 a.2.2.2 e]
  · rw [e, pFin_47_ev a, pf_47 a.1 a.2.1 a.2.2.1 a.2.2.2 e]
def pFinE : Entry := pureE pFinTs pFinRs (fun _ => none) (fun a => finX a.1 a.2.1 a.2.2.1 a.2.2.2)
theorem pFin_ok : EntryOk Tryz.prog 9 pFinE := pure_any Tryz.func9 rfl (by kernel_rfl) Tryz.call9 fun a h _ => pFin_at a h
end
end Go.Proofs.YtiflfdlglncjlaaGreat
