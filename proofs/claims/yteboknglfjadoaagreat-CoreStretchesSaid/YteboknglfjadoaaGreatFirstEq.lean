/-
  The states of the first cycle: the program's are the reference's. Conditions: none.
-/
import Derived.Test.YteboknglfjadoaaGreatMicroL
set_option linter.unusedSimpArgs false
open Go Go.S3 Go.Proofs
set_option linter.unusedVariables false
set_option maxRecDepth 100000
namespace Go.Proofs.YteboknglfjadoaaGreat
noncomputable section
theorem rdec_chip' (c op : Int) (h : c ≠ 2) : rDecode c op = rDecode 0 op := by unfold rDecode; rw [rdec_chip c op h]
theorem pfirst_chip (c op : Int) (h : c ≠ 2) : pFirst c op = pFirst 0 op := by
  have h1 : (c == 2) = false := by simpa using h
  have h0 : ((0 : Int) == 2) = false := rfl
  simp only [pFirst, pFirstT, RT.val, rdec_chip' c op h, h1, h0]
theorem rfirst_chip (c op : Int) (h : c ≠ 2) : rFirst c op = rFirst 0 op := by
  have h1 : rOn c = false := by simpa [on_eq] using h
  have h0 : rOn 0 = false := rfl
  simp only [rFirst, rFirstT, RT.val, rdec_chip' c op h, h1, h0]
def firT (c op : Int) : Bool := pFirst c op == rFirst c op
theorem first_eq (c op : Int) (h : inR .u8 op) : pFirst c op = rFirst c op := by
  by_cases hc : c = 2
  · subst hc; exact eq_of_beq (byte_all (firT 2) (by kernel_rfl) op h)
  · rw [pfirst_chip c op hc, rfirst_chip c op hc]; exact eq_of_beq (byte_all (firT 0) (by kernel_rfl) op h)
def pFirst1E : Entry := pureE pFirstTs pFirstRs (fun _ => none) (fun a => rFirst a.1 a.2)
theorem pFirst1_ok : EntryOk Tryz.prog 129 pFirst1E := pFirst_ok.tot (fun a h => by simp) (fun a h => first_eq _ _ h.2)
end
end Go.Proofs.YteboknglfjadoaaGreat
