/-
  The contract of the library's merging of two sorted blocks, for blocks of a bounded size. Conditions: none (definitions).
-/
import Derived.Test.YtfejikddclgkcaaSortB
set_option linter.unusedSimpArgs false
open Go Go.S3 Go.Proofs Go.Proofs.Cells
set_option linter.unusedVariables false
namespace Go.Proofs.Ytfejikddclgkcaa
noncomputable section
def srtB : List Cell → Bool
  | [] => true
  | x :: r => (match r with
    | [] => true
    | y :: _ => decide (x.1 ≤ y.1)) && srtB r
theorem srtB_iff : ∀ {l : List Cell}, srtB l = true ↔ Srt l
  | [] => by simp [srtB, Srt]
  | [x] => by simp [srtB, Srt]
  | x :: y :: r => by
    have ih := srtB_iff (l := y :: r)
    rw [srtB]
    simp only [Bool.and_eq_true, decide_eq_true_eq, ih]
    constructor
    · rintro ⟨h1, h2⟩
      refine List.pairwise_cons.2 ⟨fun z hz => ?_, h2⟩
      rcases List.mem_cons.1 hz with rfl | hz
      · exact h1
      · have := (List.pairwise_cons.1 h2).1 z hz; omega
    · intro h
      have := List.pairwise_cons.1 h
      exact ⟨this.1 y (by simp), this.2⟩
def symOk (k : Int) (l : List Cell) (a m b : Int) : Bool := rotOk l a m b && decide (b - a ≤ k) && srtB ((l.drop a.toNat).take (m.toNat - a.toNat)) && srtB ((l.drop m.toNat).take (b.toNat - m.toNat))
def symRE (k : Int) : Entry := stE uRotRb uRotEl 48 uRotTs (fun a => some (symOk k a.1 a.2.1 a.2.2.1 a.2.2.2)) (fun a => sortX a.1 a.2.1.toNat a.2.2.2.toNat)
end
end Go.Proofs.Ytfejikddclgkcaa
