/-
  What operate makes. Conditions: none.
-/
import Derived.Test.YtiflfdlglncjlaaGreatLawZo
import Derived.Test.YtiflfdlglncjlaaGreatPlan
import Derived.Test.YtiflfdlglncjlaaGreatS3D
open Go Go.S3 Go.Proofs
set_option linter.unusedVariables false
set_option linter.unusedSimpArgs false
set_option maxRecDepth 100000
namespace Go.Proofs.YtiflfdlglncjlaaGreat
noncomputable section
/-! ### what operate makes -/
theorem operate_ok (n : List Int) (op : Int) : kOperateC n op = true ∧ CpuOk (kOperate n op).1 ∧ (0 ≤ (kOperate n op).2.1 ∧ (kOperate n op).2.1 ≤ 5) ∧ ∃ r, (kOperate n op).2.2 = op :: r ∧ r.length ≤ 5 ∧ ∀ x ∈ r, inR .u8 x := by
  obtain ⟨c1, b1, hc⟩ := nCPU_in (from_ok n) (by decide)
  obtain ⟨c2, b2, d0, d1⟩ := nNext_in b1 (by decide) 4 (by decide) (by decide)
  obtain ⟨c3, b3, e0, e1⟩ := nNext_in b2 (by decide) 5 (by decide) (by decide)
  obtain ⟨c4, b4, f0, f1⟩ := nNext_in b3 (by decide) 6 (by decide) (by decide)
  generalize hs4 : nNext (nNext (nNext (nCPU (n, 0)).2 4).2 5).2 6 = q4 at *
  have key : ∀ (src : Int) (z : CpuT) (c : CpuT) (l0 : List Int) (L : List Int) (N : Int), NB (L, N) 40 →
      ∃ r, runF false kOperateL0T (fun a => 8) (src, q4.1, z, L, N, c, l0, [op], ()) = some r ∧ ∃ i z' L' N' l' g, r.2 = (src, i, z', L', N', c, l', op :: g, ()) ∧ g.length ≤ 5 ∧ ∀ x ∈ g, inR .u8 x := by
    intro src z c l0 L N hN
    refine runF_ind (fun a => ∃ (i : Int) (L : List Int) (N : Int) (g : List Int), 0 ≤ i ∧ (g.length : Int) + i ≤ 5 ∧ NB (L, N) (40 + g.length) ∧ (∀ x ∈ g, inR .u8 x) ∧ a = (src, i, z, L, N, c, l0, op :: g, ())) (fun a => a.2.1.toNat) _ ?_ _ ⟨q4.1, L, N, [], f0, by simp; omega, by simpa using hN, by simp, rfl⟩ (by simp only; omega)
    rintro a ⟨i, L, N, g, h0, h1, hN, hg, rfl⟩
    by_cases hi : 0 < i
    · obtain ⟨k1, k2, k3⟩ := nByte_in hN (by omega)
      have hw : IntKind.wrap .i64 (i - 1) = i - 1 := wrap_i64 _ (by omega) (by omega)
      refine .inl ⟨(src, i - 1, z, (nByte (L, N)).2.1, (nByte (L, N)).2.2, c, l0, op :: (g ++ [(nByte (L, N)).1]), ()), ?_, ⟨i - 1, _, _, g ++ [(nByte (L, N)).1], by omega, by simp; omega, ⟨k2.1, by have := k2.2; show (nByte (L, N)).2.2 ≤ _; simp only [List.length_append, List.length_cons, List.length_nil]; omega⟩, ?_, rfl⟩, by simp only; omega⟩
      · have hm : Nat.ble (g.length + 1 + 1) most = true := by rw [Nat.ble_eq]; simp only [most]; omega
        simp [kOperateL0T, RT.val, hi, k1, hm, hw]
      · intro x hx
        rcases List.mem_append.1 hx with hx | hx
        · exact hg x hx
        · simp at hx; subst hx; exact k3
    · exact .inr (.inl ⟨(src, i, z, L, N, c, l0, op :: g, ()), by simp [kOperateL0T, RT.val, hi], i, z, L, N, l0, g, rfl, by omega, hg⟩)
  have hin : inRng (nNext (nNext (nCPU (n, 0)).2 4).2 5).1 5 = true := inRng_iff.2 ⟨e0, by omega⟩
  obtain ⟨r, hr, i, z, L, N, l', g, h2, h3, h4⟩ := key (R.get (R.int IntKind.i64) [0, 0, 0, 5, IntKind.wrap IntKind.i64 (1 + (nNext (nCPU (n, 0)).2 4).1)] (nNext (nNext (nCPU (n, 0)).2 4).2 5).1)
    (0, (0, 0, 0, 0, 0, 0, 0, (false, false, false, false, false, false, false), 0, 0), false, false, false, 0, false, false, false, false, false, false, false) (nCPU (n, 0)).1 [0, 0, 0, 5, IntKind.wrap IntKind.i64 (1 + (nNext (nCPU (n, 0)).2 4).1)] q4.2.1 q4.2.2 ⟨b4.1, by have := b4.2; omega⟩
  have hv : (kOperateT n op).val = some ((nCPU (n, 0)).1, R.get (R.int IntKind.i64) [0, 0, 0, 5, IntKind.wrap IntKind.i64 (1 + (nNext (nCPU (n, 0)).2 4).1)] (nNext (nNext (nCPU (n, 0)).2 4).2 5).1, op :: g) := by
    simp only [kOperateT, RT.val, c1, c2, c3, c4, hs4, hr, h2, okB, getO, List.length_cons, List.length_nil, hin]; rfl
  have hsrc : 0 ≤ R.get (R.int IntKind.i64) [0, 0, 0, 5, IntKind.wrap IntKind.i64 (1 + (nNext (nCPU (n, 0)).2 4).1)] (nNext (nNext (nCPU (n, 0)).2 4).2 5).1 ∧ R.get (R.int IntKind.i64) [0, 0, 0, 5, IntKind.wrap IntKind.i64 (1 + (nNext (nCPU (n, 0)).2 4).1)] (nNext (nNext (nCPU (n, 0)).2 4).2 5).1 ≤ 5 := by
    have hw : IntKind.wrap .i64 (1 + (nNext (nCPU (n, 0)).2 4).1) = 1 + (nNext (nCPU (n, 0)).2 4).1 := wrap_i64 _ (by omega) (by omega)
    rw [hw]
    have hk : (nNext (nNext (nCPU (n, 0)).2 4).2 5).1 = 0 ∨ (nNext (nNext (nCPU (n, 0)).2 4).2 5).1 = 1 ∨ (nNext (nNext (nCPU (n, 0)).2 4).2 5).1 = 2 ∨ (nNext (nNext (nCPU (n, 0)).2 4).2 5).1 = 3 ∨ (nNext (nNext (nCPU (n, 0)).2 4).2 5).1 = 4 := by omega
    rcases hk with e | e | e | e | e <;> rw [e]
    · exact show (0 : Int) ≤ 0 ∧ (0 : Int) ≤ 5 by omega
    · exact show (0 : Int) ≤ 0 ∧ (0 : Int) ≤ 5 by omega
    · exact show (0 : Int) ≤ 0 ∧ (0 : Int) ≤ 5 by omega
    · exact show (0 : Int) ≤ 5 ∧ (5 : Int) ≤ 5 by omega
    · exact show (0 : Int) ≤ 1 + (nNext (nCPU (n, 0)).2 4).1 ∧ 1 + (nNext (nCPU (n, 0)).2 4).1 ≤ 5 by omega
  simp only [kOperateC, kOperate, hv, okB, getO]
  exact ⟨trivial, hc, hsrc, g, rfl, h3, h4⟩
end
end Go.Proofs.YtiflfdlglncjlaaGreat
