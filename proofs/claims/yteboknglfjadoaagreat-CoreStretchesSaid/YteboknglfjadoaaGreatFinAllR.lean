/-
  The state behind an instruction: the contract of the reference's function, told by finX. Conditions: none.
-/
import Derived.Test.YteboknglfjadoaaGreatKind47
import Derived.Test.YteboknglfjadoaaGreatFinPlR1
set_option linter.unusedSimpArgs false
open Go Go.S3 Go.Proofs
set_option linter.unusedVariables false
set_option maxRecDepth 100000
namespace Go.Proofs.YteboknglfjadoaaGreat
noncomputable section
theorem rFin_at (a : HL rFinTs) (h : okHL rFinTs a) : ∃ l, AllOk Tryz.prog l ∧ (evVal (envX Tryz.prog l [] 79250227772808467515411824639 8) Tryz.f26 rFinTs rFinRs a).val = some (finX a.1 a.2.1 a.2.2.1 a.2.2.2) := by
  have hk := kind_in a.1.1 _ (head_in h.2.2.1)
  have hb : ∀ j : Nat, inR .u8 (a.2.2.1[j]?.getD 0) := fun j => by
    cases hj : a.2.2.1[j]? with
    | none => rw [inR_u8]; simp
    | some x => exact h.2.2.1.2 x (List.mem_of_getElem? hj)
  refine ⟨rFinL (rDecode a.1.1 (a.2.2.1.getD 0 0)).1, rFinL_ok _, ?_⟩
  rcases kinds47 hk.1 hk.2 with e | e | e | e | e | e | e | e | e | e | e | e | e | e | e | e | e | e | e | e | e | e | e | e | e | e | e | e | e | e | e | e | e | e | e | e | e | e | e | e | e | e | e | e | e | e | e
  · rw [e, rFin_1_ev a, ((fr_1 a.1 a.2.1 a.2.2.1 a.2.2.2 hb _ e).1 rfl)]
  · rw [e, rFin_2_ev a, ((fr_5 a.1 a.2.1 a.2.2.1 a.2.2.2 hb _ e).1 rfl)]
  · rw [e, rFin_3_ev a, ((fr_2 a.1 a.2.1 a.2.2.1 a.2.2.2 hb _ e).1 rfl)]
  · rw [e, rFin_4_ev a, ((fr_3 a.1 a.2.1 a.2.2.1 a.2.2.2 hb _ e).1 rfl)]
  · rw [e, rFin_5_ev a, ((fr_4 a.1 a.2.1 a.2.2.1 a.2.2.2 hb _ e).1 rfl)]
  · rw [e, rFin_6_ev a, ((fr_1 a.1 a.2.1 a.2.2.1 a.2.2.2 hb _ e).2.1 rfl)]
  · rw [e, rFin_7_ev a, ((fr_2 a.1 a.2.1 a.2.2.1 a.2.2.2 hb _ e).2.1 rfl)]
  · rw [e, rFin_8_ev a, ((fr_3 a.1 a.2.1 a.2.2.1 a.2.2.2 hb _ e).2.1 rfl)]
  · rw [e, rFin_9_ev a, ((fr_4 a.1 a.2.1 a.2.2.1 a.2.2.2 hb _ e).2.1 rfl)]
  · rw [e, rFin_10_ev a, ((fr_1 a.1 a.2.1 a.2.2.1 a.2.2.2 hb _ e).2.2.1 rfl)]
  · rw [e, rFin_11_ev a, ((fr_2 a.1 a.2.1 a.2.2.1 a.2.2.2 hb _ e).2.2.1 rfl)]
  · rw [e, rFin_12_ev a, ((fr_5 a.1 a.2.1 a.2.2.1 a.2.2.2 hb _ e).2 rfl)]
  · rw [e, rFin_13_ev a, ((fr_3 a.1 a.2.1 a.2.2.1 a.2.2.2 hb _ e).2.2.1 rfl)]
  · rw [e, rFin_14_ev a, ((fr_6 a.1 a.2.1 a.2.2.1 a.2.2.2 hb _ e).1 rfl)]
  · rw [e, rFin_15_ev a, ((fr_6 a.1 a.2.1 a.2.2.1 a.2.2.2 hb _ e).2 rfl)]
  · rw [e, rFin_16_ev a, ((fr_4 a.1 a.2.1 a.2.2.1 a.2.2.2 hb _ e).2.2.1 rfl)]
  · rw [e, rFin_17_ev a, ((fr_1 a.1 a.2.1 a.2.2.1 a.2.2.2 hb _ e).2.2.2.1 rfl)]
  · rw [e, rFin_18_ev a, ((fr_2 a.1 a.2.1 a.2.2.1 a.2.2.2 hb _ e).2.2.2.1 rfl)]
  · rw [e, rFin_19_ev a, ((fr_3 a.1 a.2.1 a.2.2.1 a.2.2.2 hb _ e).2.2.2.1 rfl)]
  · rw [e, rFin_20_ev a, ((fr_4 a.1 a.2.1 a.2.2.1 a.2.2.2 hb _ e).2.2.2.1 rfl)]
  · rw [e, rFin_21_ev a, ((fr_1 a.1 a.2.1 a.2.2.1 a.2.2.2 hb _ e).2.2.2.2.1 rfl)]
  · rw [e, rFin_22_ev a, ((fr_2 a.1 a.2.1 a.2.2.1 a.2.2.2 hb _ e).2.2.2.2.1 rfl)]
  · rw [e, rFin_23_ev a, ((fr_3 a.1 a.2.1 a.2.2.1 a.2.2.2 hb _ e).2.2.2.2.1 rfl)]
  · rw [e, rFin_24_ev a, ((fr_7 a.1 a.2.1 a.2.2.1 a.2.2.2 hb _ e).1 rfl)]
  · rw [e, rFin_25_ev a, ((fr_7 a.1 a.2.1 a.2.2.1 a.2.2.2 hb _ e).2.1 rfl)]
  · rw [e, rFin_26_ev a, ((fr_7 a.1 a.2.1 a.2.2.1 a.2.2.2 hb _ e).2.2.1 rfl)]
  · rw [e, rFin_27_ev a, ((fr_4 a.1 a.2.1 a.2.2.1 a.2.2.2 hb _ e).2.2.2.2.1 rfl)]
  · rw [e, rFin_28_ev a, ((fr_1 a.1 a.2.1 a.2.2.1 a.2.2.2 hb _ e).2.2.2.2.2.1 rfl)]
  · rw [e, rFin_29_ev a, ((fr_2 a.1 a.2.1 a.2.2.1 a.2.2.2 hb _ e).2.2.2.2.2.1 rfl)]
  · rw [e, rFin_30_ev a, ((fr_3 a.1 a.2.1 a.2.2.1 a.2.2.2 hb _ e).2.2.2.2.2.1 rfl)]
  · rw [e, rFin_31_ev a, ((fr_8 a.1 a.2.1 a.2.2.1 a.2.2.2 hb _ e) rfl)]
  · rw [e, rFin_32_ev a, ((fr_4 a.1 a.2.1 a.2.2.1 a.2.2.2 hb _ e).2.2.2.2.2.1 rfl)]
  · rw [e, rFin_33_ev a, ((fr_1 a.1 a.2.1 a.2.2.1 a.2.2.2 hb _ e).2.2.2.2.2.2.1 rfl)]
  · rw [e, rFin_34_ev a, ((fr_2 a.1 a.2.1 a.2.2.1 a.2.2.2 hb _ e).2.2.2.2.2.2.1 rfl)]
  · rw [e, rFin_35_ev a, ((fr_3 a.1 a.2.1 a.2.2.1 a.2.2.2 hb _ e).2.2.2.2.2.2.1 rfl)]
  · rw [e, rFin_36_ev a, ((fr_4 a.1 a.2.1 a.2.2.1 a.2.2.2 hb _ e).2.2.2.2.2.2.1 rfl)]
  · rw [e, rFin_37_ev a, ((fr_1 a.1 a.2.1 a.2.2.1 a.2.2.2 hb _ e).2.2.2.2.2.2.2.1 rfl)]
  · rw [e, rFin_38_ev a, ((fr_9 a.1 a.2.1 a.2.2.1 a.2.2.2 hb _ e) rfl)]
  · rw [e, rFin_39_ev a, ((fr_10 a.1 a.2.1 a.2.2.1 a.2.2.2 hb _ e) rfl)]
  · rw [e, rFin_40_ev a, ((fr_2 a.1 a.2.1 a.2.2.1 a.2.2.2 hb _ e).2.2.2.2.2.2.2.1 rfl)]
  · rw [e, rFin_41_ev a, ((fr_3 a.1 a.2.1 a.2.2.1 a.2.2.2 hb _ e).2.2.2.2.2.2.2.1 rfl)]
  · rw [e, rFin_42_ev a, ((fr_4 a.1 a.2.1 a.2.2.1 a.2.2.2 hb _ e).2.2.2.2.2.2.2.1 rfl)]
  · rw [e, rFin_43_ev a, ((fr_1 a.1 a.2.1 a.2.2.1 a.2.2.2 hb _ e).2.2.2.2.2.2.2.2 rfl)]
  · rw [e, rFin_44_ev a, ((fr_2 a.1 a.2.1 a.2.2.1 a.2.2.2 hb _ e).2.2.2.2.2.2.2.2 rfl)]
  · rw [e, rFin_45_ev a, ((fr_7 a.1 a.2.1 a.2.2.1 a.2.2.2 hb _ e).2.2.2 rfl)]
  · rw [e, rFin_46_ev a, ((fr_3 a.1 a.2.1 a.2.2.1 a.2.2.2 hb _ e).2.2.2.2.2.2.2.2 rfl)]
  · rw [e, rFin_47_ev a, ((fr_4 a.1 a.2.1 a.2.2.1 a.2.2.2 hb _ e).2.2.2.2.2.2.2.2 rfl)]
def rFinE : Entry := pureE rFinTs rFinRs (fun _ => none) (fun a => finX a.1 a.2.1 a.2.2.1 a.2.2.2)
theorem rFin_ok : EntryOk Tryz.prog 26 rFinE := pure_any Tryz.func26 rfl (by kernel_rfl) Tryz.call26 fun a h _ => rFin_at a h
end
end Go.Proofs.YteboknglfjadoaaGreat
