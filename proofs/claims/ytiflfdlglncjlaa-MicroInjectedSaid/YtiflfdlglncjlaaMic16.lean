/-
  Runs of an instruction's cycles. Conditions: none.
-/
import Derived.Test.YtiflfdlglncjlaaLaw16b
open Go Go.S3 Go.Proofs
set_option linter.unusedVariables false
set_option linter.unusedSimpArgs false
set_option maxRecDepth 100000
namespace Go.Proofs.Ytiflfdlglncjlaa
noncomputable section
theorem mfirst_law (c op : Int) : lMFirst c op = true := by simp [lMFirst, lMFirstT, RT.val]
/-! ### what operate makes -/
theorem operate_ok (n : List Int) (op : Int) : kOperateC n op = true ∧ CpuOk (kOperate n op).1 ∧ (0 ≤ (kOperate n op).2.1 ∧ (kOperate n op).2.1 ≤ 5) ∧ ∃ r, (kOperate n op).2.2 = op :: r ∧ r.length ≤ 5 ∧ ∀ x ∈ r, inR .u8 x := by
  obtain ⟨c1, b1, hc⟩ := nCPU_in (from_ok n) (by decide)
  obtain ⟨c2, b2, d0, d1⟩ := nNext_in b1 (by decide) 4 (by decide) (by decide)
  obtain ⟨c3, b3, e0, e1⟩ := nNext_in b2 (by decide) 5 (by decide) (by decide)
  obtain ⟨c4, b4, f0, f1⟩ := nNext_in b3 (by decide) 6 (by decide) (by decide)
  generalize hs4 : nNext (nNext (nNext (nCPU (n, 0)).2 4).2 5).2 6 = q4 at *
  have key : ∀ (src : Int) (z : CpuT) (c : CpuT) (l0 : List Int) (L : List Int) (N : Int), NB (L, N) 40 →
      ∃ r, runF false kOperateL0T (fun a => 8) (src, q4.1, z, L, N, c, l0, [op], ()) = some r ∧ ∃ i z' L' N' l' g, r.2 = (src, i, z', L', N', c, l', op :: g, ()) ∧ g.length ≤ 5 ∧ ∀ x ∈ g, inR .u8 x := by
    intro src z c l0 L N hN
    refine runF_ind (fun a => ∃ (i : Int) (L : List Int) (N : Int) (g : List Int), 0 ≤ i ∧ (g.length : Int) + i ≤ 5 ∧ NB (L, N) (40 + g.length) ∧ (∀ x ∈ g, inR .u8 x) ∧ a = (src, i, z, L, N, c, l0, op :: g, ())) (fun a => a.2.1.toNat) _ ?_ _ ⟨q4.1, L, N, [], f0, by simp; omega, by simpa using hN, by simp, rfl⟩ (by simp only; omega)
    rintro a ⟨i, L, N, g, h0, h1, hN, hg, rfl⟩
    by_cases hi : 0 < i
    · obtain ⟨k1, k2, k3⟩ := nByte_in hN (by omega)
      have hw : IntKind.wrap .i64 (i - 1) = i - 1 := wrap_i64 _ (by omega) (by omega)
      refine .inl ⟨(src, i - 1, z, (nByte (L, N)).2.1, (nByte (L, N)).2.2, c, l0, op :: (g ++ [(nByte (L, N)).1]), ()), ?_, ⟨i - 1, _, _, g ++ [(nByte (L, N)).1], by omega, by simp; omega, ⟨k2.1, by have := k2.2; show (nByte (L, N)).2.2 ≤ _; simp only [List.length_append, List.length_cons, List.length_nil]; omega⟩, ?_, rfl⟩, by simp only; omega⟩
      · have hm : Nat.ble (g.length + 1 + 1) most = true := by rw [Nat.ble_eq]; simp only [most]; omega
        simp [kOperateL0T, RT.val, hi, k1, hm, hw]
      · intro x hx
        rcases List.mem_append.1 hx with hx | hx
        · exact hg x hx
        · simp at hx; subst hx; exact k3
    · exact .inr (.inl ⟨(src, i, z, L, N, c, l0, op :: g, ()), by simp [kOperateL0T, RT.val, hi], i, z, L, N, l0, g, rfl, by omega, hg⟩)
  have hin : inRng (nNext (nNext (nCPU (n, 0)).2 4).2 5).1 5 = true := inRng_iff.2 ⟨e0, by omega⟩
  obtain ⟨r, hr, i, z, L, N, l', g, h2, h3, h4⟩ := key (R.get (R.int IntKind.i64) [0, 0, 0, 5, IntKind.wrap IntKind.i64 (1 + (nNext (nCPU (n, 0)).2 4).1)] (nNext (nNext (nCPU (n, 0)).2 4).2 5).1)
    (0, (0, 0, 0, 0, 0, 0, 0, (false, false, false, false, false, false, false), 0, 0), false, false, false, 0, false, false, false, false, false, false, false) (nCPU (n, 0)).1 [0, 0, 0, 5, IntKind.wrap IntKind.i64 (1 + (nNext (nCPU (n, 0)).2 4).1)] q4.2.1 q4.2.2 ⟨b4.1, by have := b4.2; omega⟩
  have hv : (kOperateT n op).val = some ((nCPU (n, 0)).1, R.get (R.int IntKind.i64) [0, 0, 0, 5, IntKind.wrap IntKind.i64 (1 + (nNext (nCPU (n, 0)).2 4).1)] (nNext (nNext (nCPU (n, 0)).2 4).2 5).1, op :: g) := by
    simp only [kOperateT, RT.val, c1, c2, c3, c4, hs4, hr, h2, okB, getO, List.length_cons, List.length_nil, hin]; rfl
  have hsrc : 0 ≤ R.get (R.int IntKind.i64) [0, 0, 0, 5, IntKind.wrap IntKind.i64 (1 + (nNext (nCPU (n, 0)).2 4).1)] (nNext (nNext (nCPU (n, 0)).2 4).2 5).1 ∧ R.get (R.int IntKind.i64) [0, 0, 0, 5, IntKind.wrap IntKind.i64 (1 + (nNext (nCPU (n, 0)).2 4).1)] (nNext (nNext (nCPU (n, 0)).2 4).2 5).1 ≤ 5 := by
    have hw : IntKind.wrap .i64 (1 + (nNext (nCPU (n, 0)).2 4).1) = 1 + (nNext (nCPU (n, 0)).2 4).1 := wrap_i64 _ (by omega) (by omega)
    rw [hw]
    have hk : (nNext (nNext (nCPU (n, 0)).2 4).2 5).1 = 0 ∨ (nNext (nNext (nCPU (n, 0)).2 4).2 5).1 = 1 ∨ (nNext (nNext (nCPU (n, 0)).2 4).2 5).1 = 2 ∨ (nNext (nNext (nCPU (n, 0)).2 4).2 5).1 = 3 ∨ (nNext (nNext (nCPU (n, 0)).2 4).2 5).1 = 4 := by omega
    rcases hk with e | e | e | e | e <;> rw [e]
    · exact show (0 : Int) ≤ 0 ∧ (0 : Int) ≤ 5 by omega
    · exact show (0 : Int) ≤ 0 ∧ (0 : Int) ≤ 5 by omega
    · exact show (0 : Int) ≤ 0 ∧ (0 : Int) ≤ 5 by omega
    · exact show (0 : Int) ≤ 5 ∧ (5 : Int) ≤ 5 by omega
    · exact show (0 : Int) ≤ 1 + (nNext (nCPU (n, 0)).2 4).1 ∧ 1 + (nNext (nCPU (n, 0)).2 4).1 ≤ 5 by omega
  simp only [kOperateC, kOperate, hv, okB, getO]
  exact ⟨trivial, hc, hsrc, g, rfl, h3, h4⟩
/-! ### runs -/
def stepV (x : Cyc) (b got : List Int) : Int := bif rReads x.1 && decide (iN b.length < iN got.length) then got.getD b.length 0 else x.2.2.1
inductive Run (c : CpuT) (s : Int) (got : List Int) : List Cyc → List Int → Prop
  | nil : Run c s got [] []
  | step {out : List Cyc} {b : List Int} {x : Cyc} (h : Run c s got out b) (hx : nextX c s b = (x, true)) : Run c s got (out ++ [x]) (b ++ [stepV x b got])
theorem Run.len {c : CpuT} {s : Int} {got : List Int} {out : List Cyc} {b : List Int} (h : Run c s got out b) : out.length = b.length := by
  induction h with
  | nil => rfl
  | step h hx ih => simp [ih]
theorem next_len {c : CpuT} {s : Int} {b : List Int} {x : Cyc} (h : nextX c s b = (x, true)) : b.length < (planX c s b).length := by
  have := congrArg Prod.snd h
  simpa [nextX, pick] using this
theorem len_c {b : Bool} {x y : List Cyc} {n : Nat} (hx : x.length ≤ n) (hy : y.length ≤ n) : (bif b then x else y).length ≤ n := by cases b <;> assumption
theorem body_len (c : CpuT) (inj : Bool) (g : List Int) (i : InsT) : (bodyX c inj g i).length ≤ 4 := by
  simp only [bodyX, targetX, readW, writeW, pushX, popX]
  repeat' apply len_c
  all_goals first
    | (simp; done)
    | (cases (i.2.2.1 == 6) <;> simp; done)
    | (cases takenX c i <;> cases (c.1 == 2) <;> simp; done)
theorem plan_len (c : CpuT) (s : Int) (b : List Int) : (planX c s b).length ≤ 5 ∧ 1 ≤ (planX c s b).length := by
  unfold planX
  cases rInternal s
  · cases b with
    | nil => simp
    | cons o t => have := body_len c (s == 5) (o :: t) (rDecode c.1 o); simp; omega
  · simp [pushX]
theorem Run.le {c : CpuT} {s : Int} {got : List Int} {out : List Cyc} {b : List Int} (h : Run c s got out b) : b.length ≤ 5 := by
  cases h with
  | nil => simp
  | step h hx =>
    simp only [List.length_append, List.length_cons, List.length_nil]
    rename_i o0 b0 x0
    have e : b0.length < (planX c s b0).length := next_len hx
    have := (plan_len c s b0).1
    omega
theorem seq_run (c : CpuT) (s : Int) (got : List Int) : kSeqC c s got = true ∧ ∃ out b, kSeq c s got = (out, b, true) ∧ Run c s got out b ∧ (nextX c s b).2 = false := by
  obtain ⟨r, hr, h1, out, b, q, h2, h3, h4⟩ : ∃ r, runF true kSeqL0T (fun a => 9) (s, got, [], [], false, c, [], [], ()) = some r ∧ (r.1 = true ∧ ∃ out b q, r.2 = (s, got, out, b, true, q) ∧ Run c s got out b ∧ (nextX c s b).2 = false) := by
    refine runF_ind (fun a => ∃ out b, Run c s got out b ∧ a = (s, got, [], [], false, c, out, b, ())) (fun a => 6 - a.2.2.2.2.2.2.2.1.length) _ ?_ _ ⟨[], [], .nil, rfl⟩ (by simp)
    rintro a ⟨out, b, hrun, rfl⟩
    have hl := hrun.len
    have h5 := hrun.le
    have hle : decide (iN out.length ≤ 6) = true := by simp [iN]; omega
    cases hn : (nextX c s b).2 with
    | false =>
      refine .inr (.inr ⟨(s, got, out, b, true, c, out, b, ()), rfl, ?_, rfl, out, b, _, rfl, hrun, hn⟩)
      simp [kSeqL0T, RT.val, hle, hn]
    | true =>
      have hx : nextX c s b = ((nextX c s b).1, true) := by rw [← hn]
      have hlt := next_len hx
      have hp := (plan_len c s b).1
      refine .inl ⟨(s, got, [], [], false, c, out ++ [(nextX c s b).1], b ++ [stepV (nextX c s b).1 b got], ()), ?_, ⟨_, _, .step hrun hx, rfl⟩, by simp; omega⟩
      have hm : Nat.ble (out.length + 1) most = true := by rw [Nat.ble_eq]; simp only [most]; omega
      have hm2 : Nat.ble (b.length + 1) most = true := by rw [Nat.ble_eq]; simp only [most]; omega
      have hin : (!(rReads (nextX c s b).1.1 && decide (iN b.length < iN got.length)) || inRng (iN b.length) got.length) = true := by
        cases hd : rReads (nextX c s b).1.1 && decide (iN b.length < iN got.length) with
        | false => rfl
        | true =>
          simp only [Bool.and_eq_true, decide_eq_true_eq, iN] at hd
          simp [inRng, iN]; omega
      simp only [kSeqL0T, RT.val, hle, hn, Bool.not_true, Bool.false_or, List.length_append, List.length_cons, List.length_nil, Nat.zero_add, hm, hm2, hin, cond_true, cond_false, stepV]
      rfl
  have hv : (kSeqT c s got).val = some (out, b, true) := by
    simp only [kSeqT, RT.val, hr, okB, getO, h1, h2, cond_true]
  simp only [kSeqC, kSeq, hv, okB, getO]
  exact ⟨trivial, out, b, rfl, h3, h4⟩
end
end Go.Proofs.Ytiflfdlglncjlaa
