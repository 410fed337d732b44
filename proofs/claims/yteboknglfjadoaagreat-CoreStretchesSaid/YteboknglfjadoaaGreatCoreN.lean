/-
  The library's copy of a slice of bytes. Conditions: none.
-/
import Derived.Test.YteboknglfjadoaaGreatPinsEq
import Derived.Test.YteboknglfjadoaaGreatS3Nil
set_option linter.unusedVariables false
set_option linter.unusedSimpArgs false
open Go Go.S3 Go.Proofs
set_option maxRecDepth 100000
namespace Go.Proofs.YteboknglfjadoaaGreat
noncomputable section
abbrev cloneBE : Entry := cloneT (.int .u8) 5
theorem cloneB_ok : EntryOk Tryz.prog 127 cloneBE :=
  clone_part (P := Tryz.prog) (n := 15) (k := 8) (l := []) (ol := []) trivial Tryz.func127 rfl (by kernel_rfl) Tryz.call127 trivial
    (fun m => ⟨{ chk := none, v := .w (.one .nilsl), m := m, bd := [], sd := [] }, by kernel_rfl, rfl, rfl⟩)
    (fun m l h => ⟨{ chk := none, v := .w (.one (.tip (len m.stgs) 0)), m := { m with stgs := m.stgs ++ [cloneG (.int .u8) 5 l] }, bd := [], sd := [] }, by
      have e : (evFunc (envX Tryz.prog [] [] 15 8) Tryz.f127 [.w (.one (.lst (.int .u8) false false true l))] m).val = cond (Nat.ble ([] ++ l).length most) (some { chk := none, v := .w (.one (.tip (len m.stgs) 0)), m := { m with stgs := m.stgs ++ [cloneG (.int .u8) 5 ([] ++ l)] }, bd := [], sd := [] }) none := by kernel_rfl
      rw [e, List.nil_append, h]; rfl, rfl, rfl⟩)
end
end Go.Proofs.YteboknglfjadoaaGreat
