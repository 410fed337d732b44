/-
  The pins of a state: the program's are the reference's. Conditions: none.
-/
import Derived.Test.YteboknglfjadoaaGreatCoreP
open Go Go.S3 Go.Proofs
set_option linter.unusedVariables false
set_option linter.unusedSimpArgs false
set_option maxRecDepth 100000
namespace Go.Proofs.YteboknglfjadoaaGreat
noncomputable section
theorem pins_eq (chip t : Int) (h1 : 1 ≤ t) (h2 : t ≤ 10) (x : Int × Int × Int × Int) (d d' pc : Int) (i o : Bool) (hd : t ≠ 10 → d' = d) :
    pPinO chip (t, x, d, pc, i, o) = rPins chip t (bif t == 9 then (0, pc, 0, 0) else x) d' i o := by
  obtain ⟨x1, x2, x3, x4⟩ := x
  simp only [pPinO, pPinOT, rPins, rPinsT, RT.val, on_eq]
  generalize (chip == 2) = b
  have : t = 1 ∨ t = 2 ∨ t = 3 ∨ t = 4 ∨ t = 5 ∨ t = 6 ∨ t = 7 ∨ t = 8 ∨ t = 9 ∨ t = 10 := by omega
  by_cases h : t = 10
  · subst h; cases b <;> simp
  · rw [hd h]
    rcases this with rfl | rfl | rfl | rfl | rfl | rfl | rfl | rfl | rfl | rfl <;> cases b <;> simp <;> (try cases rWrites x1) <;> (try cases rReads x1) <;> simp
end
end Go.Proofs.YteboknglfjadoaaGreat
