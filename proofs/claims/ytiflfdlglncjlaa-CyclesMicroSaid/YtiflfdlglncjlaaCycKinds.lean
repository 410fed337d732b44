/-
  The law of the cycles of every opcode, as a plain function: always true. Conditions: none.
-/
import Derived.Test.YtiflfdlglncjlaaCyc4
import Derived.Test.YtiflfdlglncjlaaCycLaws
open Go Go.S3 Go.Proofs
set_option linter.unusedVariables false
set_option linter.unusedSimpArgs false
set_option maxRecDepth 100000
namespace Go.Proofs.Ytiflfdlglncjlaa
noncomputable section
/-- Equal lists: the loop that compares them goes through. -/
theorem kinds_same (op : Int) (tk b : Bool) (l : List (Int × Int × Int × Int)) (h5 : l.length ≤ 5) (arr : Int × Int × Int) (i : Int) :
    ∃ r, runF true lKindsL0T (fun a => (a.2.2.2.2.2.2.2.1 - a.2.2.2.2.2.2.2.2.1).toNat + 1) (op, tk, b, l, l, arr, i, iN l.length, 0, ()) = some r ∧ (r.1 = false ∧ ∃ j, r.2 = (op, tk, b, l, l, arr, i, iN l.length, j, ())) := by
  refine runF_ind (fun a => ∃ j : Int, 0 ≤ j ∧ j ≤ l.length ∧ a = (op, tk, b, l, l, arr, i, iN l.length, j, ())) (fun a => (a.2.2.2.2.2.2.2.1 - a.2.2.2.2.2.2.2.2.1).toNat) _ ?_ _ ⟨0, by omega, by omega, rfl⟩ (by simp only; omega)
  rintro a ⟨j, h0, h1, rfl⟩
  by_cases hj : j < l.length
  · refine .inl ⟨(op, tk, b, l, l, arr, i, iN l.length, j + 1, ()), ?_, ⟨j + 1, by omega, by omega, rfl⟩, by simp only [iN]; omega⟩
    have hr : inRng j l.length = true := inRng_iff.2 ⟨h0, hj⟩
    have hw : IntKind.wrap .i64 (j + 1) = j + 1 := wrap_i64 _ (by omega) (by omega)
    simp [lKindsL0T, RT.val, hr, hw, iN, hj]
  · refine .inr (.inl ⟨(op, tk, b, l, l, arr, i, iN l.length, j, ()), ?_, rfl, j, rfl⟩)
    simp [lKindsL0T, RT.val, iN, hj]
theorem kinds_law (c op : Int) (tk : Bool) (h : inR .u8 op) : lKindsC c op tk = true ∧ lKinds c op tk = true := by
  have round : ∀ k : Int, 0 ≤ k → k < 3 → (lKindsL1T (op, tk, false, (c, 1, 2), k, ())).val = some (.cont (op, tk, false, (c, 1, 2), k + 1, ())) := by
    intro k h0 h3
    have hw : IntKind.wrap .i64 (k + 1) = k + 1 := wrap_i64 _ (by omega) (by omega)
    have hl := (kinds_ok (bif k == 0 then c else bif k == iN (0 + 1) then 1 else 2) op tk h).2.2.2
    obtain ⟨r, hr, h1, j, h2⟩ := kinds_same op tk false _ hl (c, 1, 2) k
    simp only [lKindsL1T, RT.val, hr, okB, getO, h1, h2, hw]
    simp [h0, h3]
  have fin : (lKindsL1T (op, tk, false, (c, 1, 2), 3, ())).val = some (.brk (op, tk, false, (c, 1, 2), 3, ())) := by
    simp [lKindsL1T, RT.val]
  have key : runF true lKindsL1T (fun a => Int.toNat (3 - a.2.2.2.2.1) + 1) (op, tk, false, (c, 1, 2), 0, ()) = some (false, (op, tk, false, (c, 1, 2), 3, ())) := by
    have r0 := round 0 (by omega) (by omega)
    have r1 := round 1 (by omega) (by omega)
    have r2 := round 2 (by omega) (by omega)
    simp only [show (0 : Int) + 1 = 1 from rfl, show (1 : Int) + 1 = 2 from rfl, show (2 : Int) + 1 = 3 from rfl] at r0 r1 r2
    simp [runF, runL, r0, r1, r2, fin]
  have e : (lKindsT c op tk).val = some true := by simp [lKindsT, RT.val, key, okB, getO]
  exact ⟨by simp only [lKindsC, e]; rfl, by simp only [lKinds, e, getO]⟩
end
end Go.Proofs.Ytiflfdlglncjlaa
