/-
  memory.Put is the reference's: the plain law. Conditions: none.
-/
import Derived.Test.YtfejikddclgkcaaPutL
open Go Go.S3 Go.Proofs Go.Proofs.Cells
set_option linter.unusedVariables false
set_option linter.unusedSimpArgs false
set_option maxRecDepth 100000
namespace Go.Proofs.Ytfejikddclgkcaa
noncomputable section
theorem uCmp_lt (x y : Int) : decide (uCmp x y < 0) = decide (x < y) := by
  simp only [uCmp, uCmpT, RT.val, bne_self_eq_false, cond_false]
  by_cases h : x < y
  · simp [h]
  · by_cases h2 : x > y <;> simp [h, h2]
theorem uCmp_eq (x y : Int) : (uCmp x y == 0) = (x == y) := by
  simp only [uCmp, uCmpT, RT.val, bne_self_eq_false, cond_false]
  by_cases h : x < y
  · have : x ≠ y := by omega
    simp [h, this]
  · by_cases h2 : x > y
    · have : x ≠ y := by omega
      simp [h, h2, this]
    · have : x = y := by omega
      simp [h, h2, this]
theorem uAt_eq (c : Cell) (t : Int) : uAt c t = uCmp c.1 t := rfl
/-- Where t stands, or would stand. -/
def At (m : List Cell) (t : Int) (i : Nat) : Prop := i ≤ m.length ∧ (∀ k, k < i → (el m k).1 < t) ∧ ∀ k, i ≤ k → k < m.length → t ≤ (el m k).1
theorem ufind_run (m : List Cell) (t : Int) (hv : Vld m) (hm : m.length ≤ most) : uFindC m t = true ∧ ∃ i, At m t i ∧ uFind m t = ((i : Int), decide (i < m.length) && ((el m i).1 == t)) := by
  have hms := mst
  obtain ⟨r, hr, h1, i, hi, hR⟩ := runF_ind (fl := false) (t := uFindL0T) (fuel := fun a => Int.toNat (a.2.2.2.2.1 - a.2.2.2.1) + 1)
    (fun a => ∃ lo hi : Nat, lo ≤ hi ∧ hi ≤ m.length ∧ (∀ k, k < lo → (el m k).1 < t) ∧ (∀ k, hi ≤ k → k < m.length → t ≤ (el m k).1) ∧ a = (m, t, (m.length : Int), (lo : Int), (hi : Int), ()))
    (fun a => Int.toNat (a.2.2.2.2.1 - a.2.2.2.1)) (fun r => r.1 = false ∧ ∃ i : Nat, At m t i ∧ r.2 = (m, t, (m.length : Int), (i : Int), (i : Int), ()))
    (by
      rintro a ⟨lo, hi, h1, h2, h3, h4, rfl⟩
      by_cases hlt : lo < hi
      · left
        have d : decide ((lo : Int) < (hi : Int)) = true := by simpa using hlt
        have hmid := half_eq lo hi (by omega)
        obtain ⟨M, hM⟩ : ∃ M, M = (lo + hi) / 2 := ⟨_, rfl⟩
        rw [← hM] at hmid
        have r1 := rng_nat m M (by omega)
        have g := get_el m M
        have w := wadd1 M (by omega)
        by_cases hc : (el m M).1 < t
        · have dc : decide (uAt (el m M) t < 0) = true := by rw [uAt_eq, uCmp_lt]; simpa using hc
          refine ⟨(m, t, (m.length : Int), ((M + 1 : Nat) : Int), (hi : Int), ()), ?_, ⟨M + 1, hi, by omega, h2, fun k hk => ?_, h4, rfl⟩, by simp only; omega⟩
          · simp only [uFindL0T, RT.val, d, hmid, r1, g, dc, w, cond_true]
          · by_cases e : k = M
            · subst e; exact hc
            · by_cases e2 : k < lo
              · exact h3 k e2
              · have := List.pairwise_iff_getElem.1 hv.1 k M (by omega) (by omega) (by omega)
                have e1 := el_get m k (by omega)
                have e3 := el_get m M (by omega)
                rw [List.getElem?_eq_getElem (by omega), Option.some.injEq] at e1 e3
                rw [e1, e3] at this; omega
        · have dc : decide (uAt (el m M) t < 0) = false := by rw [uAt_eq, uCmp_lt]; simpa using hc
          refine ⟨(m, t, (m.length : Int), (lo : Int), (M : Int), ()), ?_, ⟨lo, M, by omega, by omega, h3, fun k hk hk2 => ?_, rfl⟩, by simp only; omega⟩
          · simp only [uFindL0T, RT.val, d, hmid, r1, g, dc, cond_true, cond_false]
          · by_cases e : k = M
            · subst e; omega
            · have := List.pairwise_iff_getElem.1 hv.1 M k (by omega) (by omega) (by omega)
              have e1 := el_get m k (by omega)
              have e3 := el_get m M (by omega)
              rw [List.getElem?_eq_getElem (by omega), Option.some.injEq] at e1 e3
              rw [e1, e3] at this; omega
      · right; left
        have d : decide ((lo : Int) < (hi : Int)) = false := by simpa using hlt
        have : hi = lo := by omega
        subst this
        exact ⟨_, by simp only [uFindL0T, RT.val, d, cond_false], rfl, hi, ⟨h2, h3, h4⟩, rfl⟩)
    (m, t, iN m.length, 0, iN m.length, ()) ⟨0, m.length, Nat.zero_le _, Nat.le_refl _, fun k h => by omega, fun k h1 h2 => by omega, rfl⟩ (by simp only [iN]; omega)
  obtain ⟨r1, r2⟩ := r
  simp only at h1 hR
  subst h1 hR
  have hd : decide ((i : Int) < (m.length : Int)) = decide (i < m.length) := by simp
  have hv : (uFindT m t).val = some ((i : Int), decide (i < m.length) && ((el m i).1 == t)) := by
    have g := get_el m i
    by_cases hlt : i < m.length
    · have r1 := rng_nat m i hlt
      have hd : decide ((i : Int) < (m.length : Int)) = true := by simpa using hlt
      simp only [uFindT, RT.val, hr, okB, getO, cond_true, hd, r1, Bool.not_true, Bool.false_or, g, uAt_eq, uCmp_eq, hlt, decide_true, Bool.true_and]
    · have hd : decide ((i : Int) < (m.length : Int)) = false := by simpa using hlt
      simp only [uFindT, RT.val, hr, okB, getO, cond_true, cond_false, hd, Bool.not_false, Bool.true_or, hlt, decide_false, Bool.false_and]
  exact ⟨by simp only [uFindC, hv]; rfl, i, hi, by simp only [uFind, hv, getO]⟩
theorem putX_at : ∀ (i : Nat) (m : List Cell) (c : Cell), i ≤ m.length → (∀ k, k < i → (el m k).1 < c.1) → putX m c = m.take i ++ putX (m.drop i) c
  | 0, m, c, _, _ => by simp
  | i + 1, [], c, h, _ => by simp at h
  | i + 1, x :: m, c, h, hk => by
    have h0 : x.1 < c.1 := hk 0 (by omega)
    rw [putX, if_pos h0, putX_at i m c (by simpa using h) (fun k h' => hk (k + 1) (by omega))]
    simp
theorem put_cases (m : List Cell) (t v : Int) (i : Nat) (h : At m t i) :
    (v = 0 → (decide (i < m.length) && ((el m i).1 == t)) = false → putX m (t, v) = m) ∧
    (v = 0 → (decide (i < m.length) && ((el m i).1 == t)) = true → putX m (t, v) = delX m i) ∧
    (v ≠ 0 → (decide (i < m.length) && ((el m i).1 == t)) = true → putX m (t, v) = setI m (i : Int) ((el m i).1, v)) ∧
    (v ≠ 0 → (decide (i < m.length) && ((el m i).1 == t)) = false → putX m (t, v) = insX m i (t, v)) := by
  obtain ⟨h1, h2, h3⟩ := h
  have hp := putX_at i m (t, v) h1 h2
  by_cases hlt : i < m.length
  · have hd := drop_el m i hlt
    have hge := h3 i (Nat.le_refl _) hlt
    have hn : ¬ (el m i).1 < t := by omega
    rw [hd] at hp
    simp only [putX, if_neg hn] at hp
    simp only [hlt, decide_true, Bool.true_and]
    refine ⟨fun hz he => ?_, fun hz he => ?_, fun hz he => ?_, fun hz he => ?_⟩
    · have he : (el m i).1 ≠ t := by simpa using he
      rw [hp, if_pos hz, if_neg he, ← hd, List.take_append_drop]
    · have he : (el m i).1 = t := by simpa using he
      rw [hp, if_pos hz, if_pos he, delX]
    · have he : (el m i).1 = t := by simpa using he
      rw [hp, if_neg hz, if_pos he, setI, Int.toNat_natCast, he, List.set_eq_take_append_cons_drop, if_pos hlt]
    · have he : (el m i).1 ≠ t := by simpa using he
      rw [hp, if_neg hz, if_neg he, insX, ← hd]; simp
  · have he : i = m.length := by omega
    subst he
    simp only [List.drop_length, putX] at hp
    simp only [Nat.lt_irrefl, decide_false, Bool.false_and]
    refine ⟨fun hz _ => ?_, fun hz he => by simp at he, fun hz he => by simp at he, fun hz _ => ?_⟩
    · rw [hp, if_pos hz]; simp
    · rw [hp, if_neg hz, insX]; simp
theorem mput_run (m : List Cell) (t v : Int) (hm : m.length + 1 ≤ most) : mPutC m t v = true ∧ mPut m t v = putX (normX m) (t, v) := by
  have hms := mst
  have hv1 := mvalid_eq m (by omega)
  have hb1 : Nat.ble m.length most = true := by rw [Nat.ble_eq]; omega
  have hv : (mPutT m t v).val = some (putX (normX m) (t, v)) := by
    cases hval : vldB m with
    | false =>
      have hl : (m ++ [(t, v)]).length ≤ most := by simp; omega
      have hb2 : Nat.ble (m ++ [(t, v)]).length most = true := by rw [Nat.ble_eq]; exact hl
      obtain ⟨n1, n2⟩ := mnorm_run (m ++ [(t, v)]) hl
      simp only [mPutT, RT.val, hv1.1, hv1.2, hval, hb1, hb2, n1, n2, normX_snoc, Bool.not_false, Bool.not_true, Bool.or_true, Bool.or_self, cond_true]
    | true =>
      have hV := vldB_iff.1 hval
      obtain ⟨f1, i, hi, f2⟩ := ufind_run m t hV (by omega)
      obtain ⟨q1, q2, q3, q4⟩ := put_cases m t v i hi
      have hile : decide ((i : Int) ≤ iN m.length) = true := by simpa [iN] using hi.1
      have hi0 : decide ((0 : Int) ≤ (i : Int)) = true := by simp
      have hb3 : Nat.ble (m.length + 1) most = true := by rw [Nat.ble_eq]; omega
      have w := wadd1 i (by have := hi.1; omega)
      have g := get_el m i
      rw [normX_same hV]
      simp only [mPutT, RT.val, hv1.1, hv1.2, hval, hb1, f1, f2, hile, hi0, hb3, w, g, Bool.not_true, Bool.not_false, Bool.true_or, Bool.or_true, Bool.or_false, Bool.false_or, Bool.and_self, Bool.true_and, cond_true, cond_false, Int.toNat_natCast]
      cases hfd : (decide (i < m.length) && ((el m i).1 == t)) with
      | true =>
        have hlt : i < m.length := by
          rw [Bool.and_eq_true, decide_eq_true_eq] at hfd; exact hfd.1
        have r1 := rng_nat m i hlt
        have hd : decide ((i : Int) < iN m.length) = true := by simpa [iN] using hlt
        have hw : decide (((i + 1 : Nat) : Int) = (i : Int) + 1) = true := by simp
        by_cases hz : v = 0
        · have hz1 : (v == 0) = true := by simpa using hz
          simp only [hz1, r1, hd, hw, q2 hz hfd, Bool.not_true, Bool.not_false, Bool.and_false, Bool.and_true, Bool.true_or, Bool.or_true, Bool.or_false, Bool.false_or, Bool.and_self, cond_true, cond_false]
        · have hz1 : (v == 0) = false := by simpa using hz
          simp only [hz1, r1, hd, hw, q3 hz hfd, Bool.not_true, Bool.not_false, Bool.false_and, Bool.and_false, Bool.and_true, Bool.true_or, Bool.or_true, Bool.or_false, Bool.false_or, Bool.and_self, cond_true, cond_false]
      | false =>
        by_cases hz : v = 0
        · have hz1 : (v == 0) = true := by simpa using hz
          simp only [hz1, q1 hz hfd, Bool.not_true, Bool.not_false, Bool.and_false, Bool.and_true, Bool.true_or, Bool.or_true, Bool.or_false, Bool.false_or, Bool.and_self, cond_true, cond_false]
        · have hz1 : (v == 0) = false := by simpa using hz
          simp only [hz1, q4 hz hfd, Bool.not_true, Bool.not_false, Bool.false_and, Bool.and_false, Bool.and_true, Bool.true_or, Bool.or_true, Bool.or_false, Bool.false_or, Bool.and_self, cond_true, cond_false]
  exact ⟨by simp only [mPutC, hv]; rfl, by simp only [mPut, hv, getO]⟩
end
end Go.Proofs.Ytfejikddclgkcaa
