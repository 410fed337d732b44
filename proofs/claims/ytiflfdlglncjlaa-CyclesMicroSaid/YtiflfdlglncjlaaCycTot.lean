/-
  The number of states of every opcode: the program's is the reference's. Conditions: none.
-/
import Derived.Test.YtiflfdlglncjlaaCyc2
open Go Go.S3 Go.Proofs
set_option linter.unusedVariables false
set_option linter.unusedSimpArgs false
set_option maxRecDepth 100000
namespace Go.Proofs.Ytiflfdlglncjlaa
noncomputable section
def sumS (l : List (Int × Int × Int × Int)) : Int := l.foldl (fun n x => IntKind.wrap .i64 (n + x.2.2.2)) 0
theorem w123 : IntKind.wrap .i64 1 = 1 ∧ IntKind.wrap .i64 2 = 2 ∧ IntKind.wrap .i64 3 = 3 ∧ IntKind.wrap .i64 4 = 4 ∧ IntKind.wrap .i64 5 = 5 ∧ IntKind.wrap .i64 6 = 6 := by decide
theorem ctotal_val (c op : Int) (tk : Bool) (h : (rKinds c op tk).length ≤ 5) : (cTotalT c op tk).val = some (sumS (rKinds c op tk)) := by
  unfold cTotalT
  revert h
  generalize rKinds c op tk = l
  intro h
  match l, h with
  | [], _ => rfl
  | [a], _ => simp [RT.val, w123, inRng, iN, R.get, sumS]
  | [a, b], _ => simp [RT.val, w123, inRng, iN, R.get, sumS]
  | [a, b, d], _ => simp [RT.val, w123, inRng, iN, R.get, sumS]
  | [a, b, d, e], _ => simp [RT.val, w123, inRng, iN, R.get, sumS]
  | [a, b, d, e, f], _ => simp [RT.val, w123, inRng, iN, R.get, sumS]
  | a :: b :: d :: e :: f :: g :: t, h => simp at h
theorem rkinds_chip' (c op : Int) (tk : Bool) (h : c ≠ 2) : rKinds c op tk = rKinds 0 op tk := by unfold rKinds; rw [rkinds_chip c op tk h]
theorem rtotal_chip (c op : Int) (tk : Bool) (h : c ≠ 2) : rTotal c op tk = rTotal 0 op tk := by
  simp only [rTotal, rTotalT, RT.val, rdec_chip' c _ h, on_chip c h]
def toT (c : Int) (tk : Bool) (op : Int) : Bool := (sumS (rKinds c op tk) == rTotal c op tk) && decide (4 ≤ rTotal c op tk) && decide (rTotal c op tk ≤ 18)
theorem total_ok (c op : Int) (tk : Bool) (h : inR .u8 op) : cTotalC c op tk = true ∧ cTotal c op tk = rTotal c op tk ∧ sumS (rKinds c op tk) = rTotal c op tk ∧ 4 ≤ rTotal c op tk ∧ rTotal c op tk ≤ 18 := by
  have hv := ctotal_val c op tk (kinds_ok c op tk h).2.2.2
  have fin : ∀ c, toT c tk op = true → sumS (rKinds c op tk) = rTotal c op tk ∧ 4 ≤ rTotal c op tk ∧ rTotal c op tk ≤ 18 := by
    intro c hc
    simp only [toT, Bool.and_eq_true, beq_iff_eq, decide_eq_true_eq] at hc
    exact ⟨hc.1.1, hc.1.2, hc.2⟩
  have key : sumS (rKinds c op tk) = rTotal c op tk ∧ 4 ≤ rTotal c op tk ∧ rTotal c op tk ≤ 18 := by
    by_cases hc : c = 2
    · subst hc
      cases tk
      · exact fin 2 (byte_all (toT 2 false) (by kernel_rfl) op h)
      · exact fin 2 (byte_all (toT 2 true) (by kernel_rfl) op h)
    · rw [rkinds_chip' c op tk hc, rtotal_chip c op tk hc]
      exact fin 0 (by
        cases tk
        · exact byte_all (toT 0 false) (by kernel_rfl) op h
        · exact byte_all (toT 0 true) (by kernel_rfl) op h)
  refine ⟨by simp only [cTotalC, hv]; rfl, ?_, key⟩
  rw [← key.1]
  simp only [cTotal, hv, getO]
def cTotal1E : Entry := pureE cTotalTs cTotalRs (fun _ => none) (fun a => rTotal a.1 a.2.1 a.2.2)
theorem cTotal1_ok : EntryOk Try.prog 16 cTotal1E := cTotal_ok.tot (fun a h => by have h1 := (total_ok a.1 a.2.1 a.2.2 h.2.1).1; simp [h1]) (fun a h => (total_ok a.1 a.2.1 a.2.2 h.2.1).2.1)
end
end Go.Proofs.Ytiflfdlglncjlaa
