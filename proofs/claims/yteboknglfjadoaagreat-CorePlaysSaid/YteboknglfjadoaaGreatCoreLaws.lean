/-
  The beginning and any sequence of clock states: the statements' functions return true. Conditions: none.
-/
import Derived.Test.YteboknglfjadoaaGreatCoreLaw
open Go Go.S3 Go.Proofs
set_option linter.unusedVariables false
set_option linter.unusedSimpArgs false
set_option maxRecDepth 100000
namespace Go.Proofs.YteboknglfjadoaaGreat
noncomputable section
theorem same_refl (c : CoreT) : rSame c c = true := by simp [rSame, rSameT, RT.val]
theorem busy_eq (c : CoreT) : pBusy c = rBusy c := rfl
theorem acc_eq (k : Int) : pAcc k = rAccepts k := by simp [pAcc, pAccT, rAccepts, rAcceptsT, RT.val, pAccepts, pAcceptsT]
theorem known20 : kKnC = true ∧ kKn = true := ⟨by kernel_rfl, by kernel_rfl⟩
theorem begins_law (chip kind : Int) : lBeginsC chip kind = true ∧ lBegins chip kind = true := by
  have h1 := (mPlace_eq kind 14 (by decide) (by decide)).1
  have h2 : pBusy (newX chip) = false := by
    have : newX chip = _ := rfl
    unfold newX; rw [begin0]; simp [pBusy, pBusyT, RT.val, iN]
  have hv : (lBeginsT chip kind).val = some true := by
    simp only [lBeginsT, RT.val, h1, h2, cond_true, same_refl, acc_eq, known20.1, known20.2, beq_self_eq_true, Bool.not_true, Bool.not_false, Bool.false_or, Bool.or_true, Bool.and_self]
  simp only [lBeginsC, lBegins, hv, okB, getO, and_self]
theorem end_len (c : CpuT) (s : Int) (g : List Int) (h : Bool) (l : LnT) : (endX c s g h l).2.2.1.length ≤ g.length := by
  unfold endX
  cases (nextX c s g).2 <;> simp
theorem clock_len (c : CoreT) (l : LnT) (d : Int) : (clockX c l d).2.2.1.length ≤ c.2.2.1.length + 1 := by
  have h1 := fun p s h => end_len p s (c.2.2.1 ++ [(readX p c.2.2.2.1 d).2.2.1]) h l
  have h2 := fun p s h => end_len p s c.2.2.1 h l
  simp only [List.length_append, List.length_cons, List.length_nil, Nat.zero_add] at h1
  simp only [clockX]
  cases l.2.2.1 with
  | true => simp [beginX]
  | false =>
    simp only [cond_false]
    cases stateX c.2.2.2.2.1 == 1 with
    | true => simp
    | false =>
      simp only [cond_false]
      cases (stateX c.2.2.2.2.1 == 2 || stateX c.2.2.2.2.1 == 7) with
      | true => simp only [cond_true]; cases (l.1 || !rAccepts c.2.2.2.1.1) <;> simp
      | false =>
        simp only [cond_false]
        cases stateX c.2.2.2.2.1 == 8 with
        | true => simp
        | false =>
          simp only [cond_false]
          cases stateX c.2.2.2.2.1 == 9 with
          | true => simp only [cond_true]; cases (rPick (rLatch c.1 l) l == 0) <;> simp
          | false =>
            simp only [cond_false]
            cases stateX c.2.2.2.2.1 == 3 with
            | true =>
              simp only [cond_true]
              cases le3 (readX (rLatch c.1 l) c.2.2.2.1 d).2.2.2 with
              | true => exact h1 _ _ _
              | false => simp
            | false =>
              simp only [cond_false]
              cases (decide (stateX c.2.2.2.2.1 < c.2.2.2.1.2.2.2) && !(stateX c.2.2.2.2.1 == 6)) with
              | true => simp
              | false => exact Nat.le_succ_of_le (h2 _ _ _)
theorem pin_refl (p : PinT) : (p.1 == p.1 && (p.2.1 == p.2.1 && (p.2.2.1 == p.2.2.1 && (p.2.2.2.1 == p.2.2.2.1 && (p.2.2.2.2.1 == p.2.2.2.2.1 && (p.2.2.2.2.2.1 == p.2.2.2.2.2.1 && (p.2.2.2.2.2.2.1 == p.2.2.2.2.2.2.1 && (p.2.2.2.2.2.2.2.1 == p.2.2.2.2.2.2.2.1 && (p.2.2.2.2.2.2.2.2.1 == p.2.2.2.2.2.2.2.2.1 && (p.2.2.2.2.2.2.2.2.2.1 == p.2.2.2.2.2.2.2.2.2.1 && (p.2.2.2.2.2.2.2.2.2.2.1 == p.2.2.2.2.2.2.2.2.2.2.1 && (p.2.2.2.2.2.2.2.2.2.2.2.1 == p.2.2.2.2.2.2.2.2.2.2.2.1 && (p.2.2.2.2.2.2.2.2.2.2.2.2.1 == p.2.2.2.2.2.2.2.2.2.2.2.2.1 && (p.2.2.2.2.2.2.2.2.2.2.2.2.2.1 == p.2.2.2.2.2.2.2.2.2.2.2.2.2.1 && (p.2.2.2.2.2.2.2.2.2.2.2.2.2.2.1 == p.2.2.2.2.2.2.2.2.2.2.2.2.2.2.1 && (p.2.2.2.2.2.2.2.2.2.2.2.2.2.2.2.1 == p.2.2.2.2.2.2.2.2.2.2.2.2.2.2.2.1 && (p.2.2.2.2.2.2.2.2.2.2.2.2.2.2.2.2 == p.2.2.2.2.2.2.2.2.2.2.2.2.2.2.2.2 && true))))))))))))))))) = true := by simp
theorem NB.mono {s : List Int × Int} {k k' : Int} (h : NB s k) (hk : k ≤ k') : NB s k' := ⟨h.1, Int.le_trans h.2 hk⟩
theorem play_ok (L : List Int) (N : Int) (c : CoreT) (n : Nat) (hn : n ≤ 100) (hN : NB (L, N) 10) (hc : c.2.2.1.length = 0) : lPlayC (L, N) c n = true ∧ (lPlay (L, N) c n).1.2 = true := by
  obtain ⟨r, hr, hR⟩ := runF_ind (fl := true) (t := lPlayL0T) (fuel := fun a => 400)
    (I := fun a => ∃ (i : Nat) (L : List Int) (N : Int) (c z : CoreT), i ≤ n ∧ NB (L, N) (10 + 4 * i) ∧ c.2.2.1.length ≤ i ∧ a = ((n : Int), false, (i : Int), L, N, c, z, c, ()))
    (m := fun a => Int.toNat (a.1 - a.2.2.1)) (R := fun r => r.1 = false)
    (fun a hi => by
      obtain ⟨i, L, N, c, z, hi, hN, hl, rfl⟩ := hi
      by_cases hlt : i < n
      · left
        obtain ⟨k1, b1⟩ := nLines_in hN (by omega)
        obtain ⟨k2, b2, _⟩ := nOpcode_in b1 (by omega)
        obtain ⟨k3, b3, _⟩ := nNext_in b2 (by omega) 30 (by decide) (by decide)
        have hroom : roomB c = true := roomB_iff.2 (Nat.le_trans (show _ ≤ 102 by omega) (by decide))
        have d : decide ((i : Int) < (n : Int)) = true := by simpa using hlt
        have w1 : IntKind.wrap .i64 ((i : Int) + 1) = ((i + 1 : Nat) : Int) := by rw [wrap_i64 _ (by omega) (by omega)]; simp
        refine ⟨((n : Int), false, ((i + 1 : Nat) : Int), (nNext (nOpcode (nLines (L, N)).2).2 30).2.1, (nNext (nOpcode (nLines (L, N)).2).2 30).2.2, (clockX c ((nLines (L, N)).1.1, (nLines (L, N)).1.2.1, (nNext (nOpcode (nLines (L, N)).2).2 30).1 == 1, (nLines (L, N)).1.2.2.2) (nOpcode (nLines (L, N)).2).1), z, (clockX c ((nLines (L, N)).1.1, (nLines (L, N)).1.2.1, (nNext (nOpcode (nLines (L, N)).2).2 30).1 == 1, (nLines (L, N)).1.2.2.2) (nOpcode (nLines (L, N)).2).1), ()), ?hv, ⟨i + 1, _, _, _, z, hlt, NB.mono b3 (by push_cast; omega), ?hl, rfl⟩, by simp; omega⟩
        case hv =>
          simp only [lPlayL0T, RT.val, d, cond_true, k1, k2, k3, hroom, Bool.not_true, Bool.false_or, Bool.or_true, same_refl, busy_eq, pin_refl, beq_self_eq_true, cond_false, w1]
          rfl
        case hl => exact Nat.le_trans (clock_len _ _ _) (by omega)
      · right; left
        have d : decide ((i : Int) < (n : Int)) = false := by simpa using hlt
        exact ⟨((n : Int), false, (i : Int), L, N, c, z, c, ()), by simp only [lPlayL0T, RT.val, d, cond_false], rfl⟩)
    ((n : Int), false, 0, L, N, c, (cpu0, 0, [], (0, 0, 0, 0), 0, false), c, ()) ⟨0, L, N, c, _, by omega, hN, by omega, rfl⟩ (by simp; omega)
  have hv : ∃ x y, (lPlayT (L, N) c n).val = some ((x, true), y) := by
    simp only [lPlayT, RT.val, hr, okB, getO, cond_true, hR, cond_false]
    exact ⟨_, _, rfl⟩
  obtain ⟨x, y, hv⟩ := hv
  simp only [lPlayC, lPlay, hv, okB, getO, and_self]
theorem plays_law (n : List Int) : lPlaysC n = true ∧ lPlays n = true := by
  have hv : (lPlaysT n).val = some true := by
    by_cases h : (n.length : Int) > 300
    · have d : decide (iN n.length > 300) = true := by simpa [iN] using h
      simp only [lPlaysT, RT.val, d, known20.1, Bool.not_true, Bool.false_or, cond_true]
    · have d : decide (iN n.length > 300) = false := by simpa [iN] using h
      obtain ⟨k1, b1, _⟩ := nChip_in (from_ok n) (by decide)
      have e : IntKind.wrap .i64 (Int.tdiv (iN n.length) 3) = ((n.length / 3 : Nat) : Int) := by
        rw [Int.tdiv_eq_ediv_of_nonneg (by simp [iN]), wrap_i64 _ (by simp only [iN]; omega) (by simp only [iN]; omega)]; simp [iN]
      have hp := play_ok (nChip (n, 0)).2.1 (nChip (n, 0)).2.2 (newX (nChip (n, 0)).1) (n.length / 3) (by omega) (NB.mono b1 (by decide)) (by unfold newX; rw [begin0]; rfl)
      simp only [lPlaysT, RT.val, d, Bool.not_false, Bool.true_or, cond_true, cond_false, k1, e, hp.1, hp.2, known20.1, known20.2, Bool.not_true, Bool.false_or, Bool.and_self]
  simp only [lPlaysC, lPlays, hv, okB, getO, and_self]
end
end Go.Proofs.YteboknglfjadoaaGreat
