/-
  The cycles of every opcode: the program's are the reference's. Conditions: none.
-/
import Derived.Test.YtiflfdlglncjlaaCyc
set_option linter.unusedSimpArgs false
open Go Go.S3 Go.Proofs
set_option linter.unusedVariables false
set_option maxRecDepth 100000
namespace Go.Proofs.Ytiflfdlglncjlaa
noncomputable section
theorem ckinds_chip (c op : Int) (tk : Bool) (h : c ≠ 2) : (cKindsT c op tk).val = (cKindsT 0 op tk).val := by
  simp only [cKindsT, RT.val, nextX_chip c h, rdec_chip' c _ h, rfirst_chip c _ h]
theorem rkinds_chip (c op : Int) (tk : Bool) (h : c ≠ 2) : (rKindsT c op tk).val = (rKindsT 0 op tk).val := by
  simp only [rKindsT, RT.val, nextX_chip c h, rdec_chip' c _ h, rfirst_chip c _ h]
def kiT (c : Int) (tk : Bool) (op : Int) : Bool := okB (cKindsT c op tk).val && okB (rKindsT c op tk).val && (cKinds c op tk == rKinds c op tk) && decide ((rKinds c op tk).length ≤ 5)
theorem kinds_ok (c op : Int) (tk : Bool) (h : inR .u8 op) : cKindsC c op tk = true ∧ cKinds c op tk = rKinds c op tk ∧ rKindsC c op tk = true ∧ (rKinds c op tk).length ≤ 5 := by
  have fin : ∀ c, kiT c tk op = true → cKindsC c op tk = true ∧ cKinds c op tk = rKinds c op tk ∧ rKindsC c op tk = true ∧ (rKinds c op tk).length ≤ 5 := by
    intro c hc
    simp only [kiT, Bool.and_eq_true, beq_iff_eq, decide_eq_true_eq] at hc
    exact ⟨hc.1.1.1, hc.1.2, hc.1.1.2, hc.2⟩
  by_cases hc : c = 2
  · subst hc
    cases tk
    · exact fin 2 (byte_all (kiT 2 false) (by kernel_rfl) op h)
    · exact fin 2 (byte_all (kiT 2 true) (by kernel_rfl) op h)
  · have := fin 0 (by
      cases tk
      · exact byte_all (kiT 0 false) (by kernel_rfl) op h
      · exact byte_all (kiT 0 true) (by kernel_rfl) op h)
    unfold cKindsC cKinds rKindsC rKinds at this ⊢
    rw [ckinds_chip c op tk hc, rkinds_chip c op tk hc]; exact this
def cKinds1E : Entry := pureE cKindsTs cKindsRs (fun _ => none) (fun a => rKinds a.1 a.2.1 a.2.2)
theorem cKinds1_ok : EntryOk Try.prog 13 cKinds1E := cKinds_ok.tot (fun a h => by have h1 := (kinds_ok a.1 a.2.1 a.2.2 h.2.1).1; simp [h1]) (fun a h => (kinds_ok a.1 a.2.1 a.2.2 h.2.1).2.1)
def rKinds1E : Entry := pureE rKindsTs rKindsRs (fun _ => none) (fun a => rKinds a.1 a.2.1 a.2.2)
theorem rKinds1_ok : EntryOk Try.prog 14 rKinds1E := rKinds_ok.tot (fun a h => by have h1 := (kinds_ok a.1 a.2.1 a.2.2 h.2.1).2.2.1; simp [h1]) (fun a h => rfl)
end
end Go.Proofs.Ytiflfdlglncjlaa
