/-
  The state behind an instruction: the contract of the reference's function, told by finX. Conditions: none.
-/
import Derived.Test.YtiflfdlglncjlaaGreatKind47
import Derived.Test.YtiflfdlglncjlaaGreatFinPlR1
import Derived.Test.YtiflfdlglncjlaaGreatFinPlR2
import Derived.Test.YtiflfdlglncjlaaGreatFinPlR3
import Derived.Test.YtiflfdlglncjlaaGreatFinPlR4
set_option linter.unusedSimpArgs false
open Go Go.S3 Go.Proofs
set_option linter.unusedVariables false
set_option maxRecDepth 100000
namespace Go.Proofs.YtiflfdlglncjlaaGreat
noncomputable section
theorem rFin_at (a : HL rFinTs) (h : okHL rFinTs a) : ∃ l, AllOk Tryz.prog l ∧ (evVal (envX Tryz.prog l [] 79250227772808467515411824639 8) Tryz.f10 rFinTs rFinRs a).val = some (finX a.1 a.2.1 a.2.2.1 a.2.2.2) := by
  have hk := kind_in a.1.1 _ (head_in h.2.2.1)
  have hb : ∀ j : Nat, inR .u8 (a.2.2.1[j]?.getD 0) := fun j => by
    cases hj : a.2.2.1[j]? with
    | none => rw [inR_u8]; simp
    | some x => exact h.2.2.1.2 x (List.mem_of_getElem? hj)
  refine ⟨rFinL (rDecode a.1.1 (a.2.2.1.getD 0 0)).1, rFinL_ok _, ?_⟩
  rcases kinds47 hk.1 hk.2 with e | e | e | e | e | e | e | e | e | e | e | e | e | e | e | e | e | e | e | e | e | e | e | e | e | e | e | e | e | e | e | e | e | e | e | e | e | e | e | e | e | e | e | e | e | e | e
  · rw [e, rFin_1_ev a, rf_1 a.1 a.2.1 a.2.2.1 a.2.2.2 hb e]
  · rw [e, rFin_2_ev a, rf_2 a.1 a.2.1 a.2.2.1 a.2.2.2 hb e]
  · rw [e, rFin_3_ev a, rf_3 a.1 a.2.1 a.2.2.1 a.2.2.2 hb e]
  · rw [e, rFin_4_ev a, rf_4 a.1 a.2.1 a.2.2.1 a.2.2.2 hb e]
  · rw [e, rFin_5_ev a, rf_5 a.1 a.2.1 a.2.2.1 a.2.2.2 hb e]
  · rw [e, rFin_6_ev a, rf_6 a.1 a.2.1 a.2.2.1 a.2.2.2 hb e]
  · rw [e, rFin_7_ev a, rf_7 a.1 a.2.1 a.2.2.1 a.2.2.2 hb e]
  · rw [e, rFin_8_ev a, rf_8 a.1 a.2.1 a.2.2.1 a.2.2.2 hb e]
  · rw [e, rFin_9_ev a, rf_9 a.1 a.2.1 a.2.2.1 a.2.2.2 hb e]
  · rw [e, rFin_10_ev a, rf_10 a.1 a.2.1 a.2.2.1 a.2.2.2 hb e]
  · rw [e, rFin_11_ev a, rf_11 a.1 a.2.1 a.2.2.1 a.2.2.2 hb e]
  · rw [e, rFin_12_ev a, rf_12 a.1 a.2.1 a.2.2.1 a.2.2.2 hb e]
  · rw [e, rFin_13_ev a, rf_13 a.1 a.2.1 a.2.2.1 a.2.2.2 hb e]
  · rw [e, rFin_14_ev a, rf_14 a.1 a.2.1 a.2.2.1 a.2.2.2 hb e]
  · rw [e, rFin_15_ev a, rf_15 a.1 a.2.1 a.2.2.1 a.2.2.2 hb e]
  · rw [e, rFin_16_ev a, rf_16 a.1 a.2.1 a.2.2.1 a.2.2.2 hb e]
  · rw [e, rFin_17_ev a, rf_17 a.1 a.2.1 a.2.2.1 a.2.2.2 hb e]
  · rw [e, rFin_18_ev a, rf_18 a.1 a.2.1 a.2.2.1 a.2.2.2 hb e]
  · rw [e, rFin_19_ev a, rf_19 a.1 a.2.1 a.2.2.1 a.2.2.2 hb e]
  · rw [e, rFin_20_ev a, rf_20 a.1 a.2.1 a.2.2.1 a.2.2.2 hb e]
  · rw [e, rFin_21_ev a, rf_21 a.1 a.2.1 a.2.2.1 a.2.2.2 hb e]
  · rw [e, rFin_22_ev a, rf_22 a.1 a.2.1 a.2.2.1 a.2.2.2 hb e]
  · rw [e, rFin_23_ev a, rf_23 a.1 a.2.1 a.2.2.1 a.2.2.2 hb e]
  · rw [e, rFin_24_ev a, rf_24 a.1 a.2.1 a.2.2.1 a.2.2.2 hb e]
  · rw [e, rFin_25_ev a, rf_25 a.1 a.2.1 a.2.2.1 a.2.2.2 hb e]
  · rw [e, rFin_26_ev a, rf_26 a.1 a.2.1 a.2.2.1 a.2.2.2 hb e]
  · rw [e, rFin_27_ev a, rf_27 a.1 a.2.1 a.2.2.1 a.2.2.2 hb e]
  · rw [e, rFin_28_ev a, rf_28 a.1 a.2.1 a.2.2.1 a.2.2.2 hb e]
  · rw [e, rFin_29_ev a, rf_29 a.1 a.2.1 a.2.2.1 a.2.2.2 hb e]
  · rw [e, rFin_30_ev a, rf_30 a.1 a.2.1 a.2.2.1 a.2.2.2 hb e]
  · rw [e, rFin_31_ev a, rf_31 a.1 a.2.1 a.2.2.1 a.2.2.2 hb e]
  · rw [e, rFin_32_ev a, rf_32 a.1 a.2.1 a.2.2.1 a.2.2.2 hb e]
  · rw [e, rFin_33_ev a, rf_33 a.1 a.2.1 a.2.2.1 a.2.2.2 hb e]
  · rw [e, rFin_34_ev a, rf_34 a.1 a.2.1 a.2.2.1 a.2.2.2 hb e]
  · rw [e, rFin_35_ev a, rf_35 a.1 a.2.1 a.2.2.1 a.2.2.2 hb e]
  · rw [e, rFin_36_ev a, rf_36 a.1 a.2.1 a.2.2.1 a.2.2.2 hb e]
  · rw [e, rFin_37_ev a, rf_37 a.1 a.2.1 a.2.2.1 a.2.2.2 hb e]
  · rw [e, rFin_38_ev a, rf_38 a.1 a.2.1 a.2.2.1 a.2.2.2 hb e]
  · rw [e, rFin_39_ev a, rf_39 a.1 a.2.1 a.2.2.1 a.2.2.2 hb e]
  · rw [e, rFin_40_ev a, rf_40 a.1 a.2.1 a.2.2.1 a.2.2.2 hb e]
  · rw [e, rFin_41_ev a, rf_41 a.1 a.2.1 a.2.2.1 a.2.2.2 hb e]
  · rw [e, rFin_42_ev a, rf_42 a.1 a.2.1 a.2.2.1 a.2.2.2 hb e]
  · rw [e, rFin_43_ev a, rf_43 a.1 a.2.1 a.2.2.1 a.2.2.2 hb e]
  · rw [e, rFin_44_ev a, rf_44 a.1 a.2.1 a.2.2.1 a.2.2.2 hb e]
  · rw [e, rFin_45_ev a, rf_45 a.1 a.2.1 a.2.2.1 a.2.2.2 hb e]
  · rw [e, rFin_46_ev a, rf_46 a.1 a.2.1 a.2.2.1 a.2.2.2 hb e]
  · rw [e, rFin_47_ev a, rf_47 a.1 a.2.1 a.2.2.1 a.2.2.2 hb e]
def rFinE : Entry := pureE rFinTs rFinRs (fun _ => none) (fun a => finX a.1 a.2.1 a.2.2.1 a.2.2.2)
theorem rFin_ok : EntryOk Tryz.prog 10 rFinE := pure_any Tryz.func10 rfl (by kernel_rfl) Tryz.call10 fun a h _ => rFin_at a h
end
end Go.Proofs.YtiflfdlglncjlaaGreat
