/-
  The law of the next machine cycle, as a plain function: always true. Conditions: none.
-/
import Derived.Test.YtiflfdlglncjlaaGreatLawZn
import Derived.Test.YtiflfdlglncjlaaGreatOpZ
open Go Go.S3 Go.Proofs
set_option linter.unusedVariables false
set_option linter.unusedSimpArgs false
set_option maxRecDepth 100000
namespace Go.Proofs.YtiflfdlglncjlaaGreat
noncomputable section
theorem wrs : IntKind.wrap .i64 (0 + 1) = 1 ∧ IntKind.wrap .i64 (1 + 1) = 2 ∧ IntKind.wrap .i64 (2 + 1) = 3 ∧ IntKind.wrap .i64 (3 + 1) = 4 ∧ IntKind.wrap .i64 (4 + 1) = 5 ∧ IntKind.wrap .i64 (5 + 1) = 6 ∧ IntKind.wrap .i64 (6 + 1) = 7 ∧ IntKind.wrap .i64 (7 + 1) = 8 ∧ IntKind.wrap .i64 (8 + 1) = 9 ∧ IntKind.wrap .i64 (9 + 1) = 10 := by decide
theorem cyc_same (x : Cyc × Bool) : (!(x.1.1 == x.1.1 && (x.1.2.1 == x.1.2.1 && (x.1.2.2.1 == x.1.2.2.1 && (x.1.2.2.2 == x.1.2.2.2 && true)))) || !x.2 == x.2) = false := by simp
set_option maxHeartbeats 2000000 in
theorem next_law (c s g n op) : lMNextsC c s g n op = true ∧ lMNexts c s g n op = true := by
  obtain ⟨c1, _, _, r, hr, hl, _⟩ := operate_ok n op
  obtain ⟨w1, w2, w3, w4, w5, w6, w7, w8, w9, w10⟩ := wrs
  have e : (lMNextsT c s g n op).val = some true := by
    simp only [lMNextsT, RT.val, c1, w1, w2, w3, w4, w5, w6, w7, w8, w9, w10, cyc_same]
    have hlen : (kOperate n op).2.2.length = r.length + 1 := by rw [hr]; rfl
    generalize (kOperate n op).2.2 = b at *
    generalize hm : r.length = m at *
    simp only [iN, hlen]
    have : m = 0 ∨ m = 1 ∨ m = 2 ∨ m = 3 ∨ m = 4 ∨ m = 5 := by omega
    cases (decide (((List.length g : Nat) : Int) > 40) || decide (((List.length n : Nat) : Int) > 80))
    · rcases this with rfl | rfl | rfl | rfl | rfl | rfl <;> simp
    · simp
  exact ⟨by simp only [lMNextsC, e]; rfl, by simp only [lMNexts, e, getO]⟩
end
end Go.Proofs.YtiflfdlglncjlaaGreat
