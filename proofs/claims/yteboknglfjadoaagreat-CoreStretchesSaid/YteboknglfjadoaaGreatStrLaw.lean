/-
  Wait states and hold states change neither the cycles nor the CPU: the statement's function returns true. Conditions: none.
-/
import Derived.Test.YteboknglfjadoaaGreatStrPl
import Derived.Test.YteboknglfjadoaaGreatCoreStr
open Go Go.S3 Go.Proofs
set_option linter.unusedVariables false
set_option linter.unusedSimpArgs false
set_option maxRecDepth 100000
namespace Go.Proofs.YteboknglfjadoaaGreat
noncomputable section
theorem known20 : kKnC = true ∧ kKn = true := ⟨by kernel_rfl, by kernel_rfl⟩
theorem NB.mono {s : List Int × Int} {k k' : Int} (h : NB s k) (hk : k ≤ k') : NB s k' := ⟨h.1, Int.le_trans h.2 hk⟩
theorem room_of {c : CoreT} (h : c.2.2.1.length ≤ 100) : roomB c = true := roomB_iff.2 (Nat.le_trans (show _ ≤ 101 by omega) (by decide))
theorem waits_go (l : List Int) (i op : Int) (L : List Int) (N : Int) (A : CoreT) {c : CpuT} (hq : Calm c) (g : List Int) (x : Cyc) (n : Int) (hb : Bool) (hn : okN c n) (hg : g.length ≤ 100) (k : Int) (h0 : 0 ≤ k) (h1 : k ≤ 2) :
    ∃ k' nb, runF true lStrL0T (fun a => 5) (l, false, i, op, k, L, N, A, (c, 0, g, x, n, hb), ()) = some (false, (l, false, i, op, k', L, N, A, (c, 0, g, x, nb, hb), ())) ∧ (nb = n ∨ (n = 2 ∧ nb = 7)) := by
  obtain ⟨r, hr, h1, k', nb, h2, h3⟩ := runF_ind (fl := true) (t := lStrL0T) (fuel := fun a => 5)
    (fun a => ∃ k nb : Int, 0 ≤ k ∧ k ≤ 2 ∧ a = (l, false, i, op, k, L, N, A, (c, 0, g, x, nb, hb), ()) ∧ (nb = n ∨ (n = 2 ∧ nb = 7)))
    (fun a => a.2.2.2.2.1.toNat) (fun r => r.1 = false ∧ ∃ k' nb, r.2 = (l, false, i, op, k', L, N, A, (c, 0, g, x, nb, hb), ()) ∧ (nb = n ∨ (n = 2 ∧ nb = 7)))
    (by
      rintro a ⟨k, nb, h0, h1, rfl, h3⟩
      cases hc : (decide (k > 0) && bif nb == 2 then rAccepts x.1 else nb == 7 && rAccepts x.1) with
      | false =>
        right; left
        exact ⟨_, by simp only [lStrL0T, RT.val, hc, cond_false], rfl, k, nb, rfl, h3⟩
      | true =>
        left
        have hc' := hc
        simp only [Bool.and_eq_true, decide_eq_true_eq] at hc'
        obtain ⟨hk, hc2⟩ := hc'
        have hac : (nb = 2 ∨ nb = 7) ∧ rAccepts x.1 = true := by
          cases h2 : nb == 2 with
          | true => rw [h2] at hc2; exact ⟨.inl (by simpa using h2), hc2⟩
          | false =>
            rw [h2] at hc2
            simp only [cond_false, Bool.and_eq_true] at hc2
            exact ⟨.inr (by simpa using hc2.1), hc2.2⟩
        have hw := wait1 hq g x nb hb hac.1 hac.2
        simp only [lnW] at hw
        have w : IntKind.wrap .i64 (k - 1) = k - 1 := wrap_i64 _ (by omega) (by omega)
        have hr : roomB (c, 0, g, x, nb, hb) = true := room_of hg
        refine ⟨_, by simp only [lStrL0T, RT.val, hc, hr, cond_true, clkX, hw, w], ⟨k - 1, 7, by omega, by omega, rfl, .inr ⟨?_, rfl⟩⟩, by simp only; omega⟩
        have := okN_ne hn
        omega)
    _ ⟨k, n, h0, h1, rfl, .inl rfl⟩ (by simp only; omega)
  obtain ⟨r1, r2⟩ := r
  simp only at h1 h2
  exact ⟨k', nb, by rw [hr, h1, h2], h3⟩
theorem holds_go (l : List Int) (i op : Int) (L : List Int) (N M : Int) (hN : NB (L, N) M) (hM : M ≤ 900000) (A : CoreT) {c : CpuT} (hq : Calm c) (g : List Int) (x : Cyc) (na nb : Int) (hb : Bool) (hn : okN c na) (hnb : nb = na ∨ (nb = 8 ∧ idlX c 0 false = na)) (hg : g.length ≤ 100) :
    ∃ k' L' N', runF true lStrL1T (fun a => 5) (l, false, i, op, 0, L, N, A, (c, 0, g, x, nb, hb), ()) = some (false, (l, false, i, op, k', L', N', A, (c, 0, g, x, na, hb), ())) ∧ NB (L', N') (M + 3) := by
  obtain ⟨r, hr, h1, k', L', N', h2, h3⟩ := runF_ind (fl := true) (t := lStrL1T) (fuel := fun a => 5)
    (fun a => ∃ (k nb : Int) (L : List Int) (N : Int), 0 ≤ k ∧ k ≤ 3 ∧ a = (l, false, i, op, k, L, N, A, (c, 0, g, x, nb, hb), ()) ∧ (nb = na ∨ (nb = 8 ∧ idlX c 0 false = na ∧ k ≤ 2)) ∧ NB (L, N) (M + k))
    (fun a => (3 - a.2.2.2.2.1).toNat) (fun r => r.1 = false ∧ ∃ k' L' N', r.2 = (l, false, i, op, k', L', N', A, (c, 0, g, x, na, hb), ()) ∧ NB (L', N') (M + 3))
    (by
      rintro a ⟨k, nb, L, N, h0, h1, rfl, h3, hN⟩
      by_cases h8 : nb = 8
      · left
        subst h8
        have hne := okN_ne hn
        rcases h3 with h3 | ⟨_, hid, hk⟩
        · omega
        obtain ⟨k1, b1, r0, r1⟩ := nNext_in hN (by omega) 3 (by decide) (by decide)
        have d : decide (k < 3) = true := by simp; omega
        have w : IntKind.wrap .i64 (k + 1) = k + 1 := wrap_i64 _ (by omega) (by omega)
        have hh := hold1 hq g x hb (decide (k < (nNext (L, N) 3).1))
        simp only [lnR] at hh
        have hro : roomB (c, 0, g, x, 8, hb) = true := room_of hg
        refine ⟨_, by simp only [lStrL1T, RT.val, d, k1, hro, show ((8 : Int) == 8) = true from rfl, Bool.and_self, Bool.not_true, Bool.or_true, cond_true, clkX, hh, w]; rfl, ⟨k + 1, _, _, _, by omega, by omega, rfl, ?_, NB.mono b1 (by omega)⟩, by simp only; omega⟩
        cases hd : decide (k < (nNext (L, N) 3).1) with
        | true =>
          simp only [decide_eq_true_eq] at hd
          exact .inr ⟨rfl, hid, by omega⟩
        | false => exact .inl hid
      · right; left
        have e8 : (nb == 8) = false := by simpa using h8
        refine ⟨_, by simp only [lStrL1T, RT.val, e8, Bool.and_false, cond_false]; rfl, rfl, k, L, N, ?_, NB.mono hN (by omega)⟩
        rcases h3 with h3 | h3
        · rw [h3]
        · exact absurd h3.1 h8)
    _ ⟨0, nb, L, N, by omega, by omega, rfl, by
        rcases hnb with h | h
        · exact .inl h
        · exact .inr ⟨h.1, h.2, by omega⟩, by simpa using hN⟩ (by simp only; omega)
  obtain ⟨r1, r2⟩ := r
  simp only at h1 h2
  exact ⟨k', L', N', by rw [hr, h1, h2], h3⟩
theorem rsame_refl (g : List Int) : rSameB g g = true := by simp [rSameB, rSameBT, RT.val]
theorem rounds_go (l : List Int) (hl : l.length ≤ 300) (L : List Int) (N : Int) (hN : NB (L, N) 10) {c : CpuT} (hq : Calm c) (x : Cyc) :
    ∃ r, runF true lStrL2T (fun a => 60) (l, false, 0, L, N, (c, 0, [], x, 1, false), (c, 0, [], x, 1, false), ()) = some r ∧ r.1 = false := by
  have e6 : IntKind.wrap .i64 (Int.tdiv (iN l.length) 6) = ((l.length / 6 : Nat) : Int) := by
    rw [Int.tdiv_eq_ediv_of_nonneg (by simp [iN]), wrap_i64 _ (by simp only [iN]; omega) (by simp only [iN]; omega)]; simp [iN]
  refine runF_ind (fl := true) (t := lStrL2T) (fuel := fun a => 60)
    (fun a => ∃ (i : Nat) (L : List Int) (N : Int) (c : CpuT) (g : List Int) (x : Cyc) (n : Int) (hb : Bool), i ≤ 50 ∧ NB (L, N) (10 + 8 * i) ∧ Calm c ∧ g.length ≤ i ∧ okN c n ∧ a = (l, false, (i : Int), L, N, (c, 0, g, x, n, false), (c, 0, g, x, n, hb), ()))
    (fun a => (50 - a.2.2.1).toNat) (fun r => r.1 = false) ?_ _ ⟨0, L, N, c, [], x, 1, false, by omega, by simpa using hN, hq, by simp, .inl (by omega), rfl⟩ (by simp only; omega)
  rintro a ⟨i, L, N, c, g, x, n, hb, hi, hN, hq, hg, hn, rfl⟩
  by_cases hlt : i < l.length / 6
  · left
    have d : decide ((i : Int) < IntKind.wrap .i64 (Int.tdiv (iN l.length) 6)) = true := by rw [e6]; simp only [decide_eq_true_eq]; omega
    obtain ⟨k1, b1, _⟩ := nOpcode_in hN (by omega)
    obtain ⟨k2, b2, r0, r1⟩ := nNext_in b1 (by omega) 3 (by decide) (by decide)
    obtain ⟨k', nb, hw, hnb⟩ := waits_go l (i : Int) (nOpcode (L, N)).1 (nNext (nOpcode (L, N)).2 3).2.1 (nNext (nOpcode (L, N)).2 3).2.2 (c, 0, g, x, n, false) hq g x n hb hn (by omega) (nNext (nOpcode (L, N)).2 3).1 r0 (by omega)
    obtain ⟨k3, b3, _⟩ := nNext_in b2 (by omega) 4 (by decide) (by decide)
    obtain ⟨c2, g2, x2, na, nb2, hb2, ea, eb, hq2, hg2, hn2, hnb2⟩ := both hq g x n nb hb ((nNext (nNext (nOpcode (L, N)).2 3).2 4).1 == 1) (nOpcode (L, N)).1 hn hnb
    simp only [lnR] at ea eb
    obtain ⟨k'', L', N', hh, hN'⟩ := holds_go l (i : Int) (nOpcode (L, N)).1 (nNext (nNext (nOpcode (L, N)).2 3).2 4).2.1 (nNext (nNext (nOpcode (L, N)).2 3).2 4).2.2 _ b3 (by omega) (c, 0, g, x, n, false) hq2 g2 x2 na nb2 hb2 hn2 hnb2 (by omega)
    have hr1 : roomB (c, 0, g, x, nb, hb) = true := room_of (by simp only; omega)
    have hr2 : roomB (c, 0, g, x, n, false) = true := room_of (by simp only; omega)
    have w : IntKind.wrap .i64 ((i : Int) + 1) = ((i + 1 : Nat) : Int) := by rw [wrap_i64 _ (by omega) (by omega)]; simp
    refine ⟨(l, false, ((i + 1 : Nat) : Int), L', N', (c2, 0, g2, x2, na, false), (c2, 0, g2, x2, na, hb2), ()), ?_, ⟨i + 1, L', N', c2, g2, x2, na, hb2, by omega, NB.mono hN' (by push_cast; omega), hq2, by omega, hn2, rfl⟩, by simp only; omega⟩
    simp only [lStrL2T, RT.val, d, k1, k2, k3, hw, hr1, hr2, clkX, ea, eb, hh, okB, getO, w, rsame_refl, beq_self_eq_true, bne_self_eq_false, Bool.not_true, Bool.not_false, Bool.false_or, Bool.or_true, Bool.true_or, Bool.or_false, Bool.and_self, cond_true, cond_false]
  · right; left
    have d : decide ((i : Int) < IntKind.wrap .i64 (Int.tdiv (iN l.length) 6)) = false := by rw [e6]; simp only [decide_eq_false_iff_not]; omega
    exact ⟨_, by simp only [lStrL2T, RT.val, d, cond_false]; rfl, rfl⟩
theorem stretches_law (n : List Int) : lStrC n = true ∧ lStr n = true := by
  have hv : (lStrT n).val = some true := by
    by_cases h : (n.length : Int) > 300
    · have d : decide (iN n.length > 300) = true := by simpa [iN] using h
      simp only [lStrT, RT.val, d, known20.1, Bool.not_true, Bool.false_or, cond_true]
    · have d : decide (iN n.length > 300) = false := by simpa [iN] using h
      obtain ⟨k1, b1, _⟩ := nChip_in (from_ok n) (by decide)
      obtain ⟨r, m, hn⟩ : ∃ r m, newX (nChip (n, 0)).1 = (((nChip (n, 0)).1, r, false, false, false, m, false, false, false, false, false, false, false), 0, [], (1, 0, 0, 4), 1, false) := by
        unfold newX
        rw [begin0]
        simp only [rReset, rResetT, RT.val]
        exact ⟨_, _, rfl⟩
      obtain ⟨r, hr, h1⟩ := rounds_go n (by omega) (nChip (n, 0)).2.1 (nChip (n, 0)).2.2 (NB.mono b1 (by decide)) (c := ((nChip (n, 0)).1, r, false, false, false, m, false, false, false, false, false, false, false)) ⟨rfl, rfl, rfl, rfl⟩ (1, 0, 0, 4)
      simp only [lStrT, RT.val, d, hn, k1, hr, okB, getO, h1, known20.1, known20.2, Bool.not_true, Bool.not_false, Bool.false_or, Bool.true_or, cond_true, cond_false]
  simp only [lStrC, lStr, hv, okB, getO, and_self]
end
end Go.Proofs.YteboknglfjadoaaGreat
