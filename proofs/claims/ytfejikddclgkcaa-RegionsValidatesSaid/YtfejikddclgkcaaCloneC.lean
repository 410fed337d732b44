/-
  The library's copy of a slice of cells. Conditions: none.
-/
import Derived.Test.YtfejikddclgkcaaSortF
import Derived.Test.YtfejikddclgkcaaS3Nil
set_option linter.unusedVariables false
set_option linter.unusedSimpArgs false
open Go Go.S3 Go.Proofs
set_option maxRecDepth 100000
namespace Go.Proofs.Ytfejikddclgkcaa
noncomputable section
abbrev cloneCE : Entry := cloneT (R.pair (R.int IntKind.u16) (R.int IntKind.u8)) uInsEl
theorem cloneC_ok : EntryOk Try.prog 46 cloneCE :=
  clone_part (P := Try.prog) (n := 15) (k := 8) (l := []) (ol := []) trivial Try.func46 rfl (by kernel_rfl) Try.call46 trivial
    (fun m => ⟨{ chk := none, v := .w (.one .nilsl), m := m, bd := [], sd := [] }, by kernel_rfl, rfl, rfl⟩)
    (fun m l h => ⟨{ chk := none, v := .w (.one (.tip (len m.stgs) 0)), m := { m with stgs := m.stgs ++ [cloneG (R.pair (R.int IntKind.u16) (R.int IntKind.u8)) uInsEl l] }, bd := [], sd := [] }, by
      have e : (evFunc (envX Try.prog [] [] 15 8) Try.f46 [.w (.one (.lst (R.pair (R.int IntKind.u16) (R.int IntKind.u8)) false false true l))] m).val = cond (Nat.ble ([] ++ l).length most) (some { chk := none, v := .w (.one (.tip (len m.stgs) 0)), m := { m with stgs := m.stgs ++ [cloneG (R.pair (R.int IntKind.u16) (R.int IntKind.u8)) uInsEl ([] ++ l)] }, bd := [], sd := [] }) none := by kernel_rfl
      rw [e, List.nil_append, h]; rfl, rfl, rfl⟩)
end
end Go.Proofs.Ytfejikddclgkcaa
