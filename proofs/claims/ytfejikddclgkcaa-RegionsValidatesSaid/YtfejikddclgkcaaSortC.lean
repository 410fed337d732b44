/-
  What the library's merging of two sorted blocks does to a list of cells: the parts. Conditions: none.
-/
import Derived.Test.YtfejikddclgkcaaSort3
open Go Go.S3 Go.Proofs Go.Proofs.Cells
set_option linter.unusedVariables false
set_option linter.unusedSimpArgs false
set_option maxRecDepth 100000
namespace Go.Proofs.Ytfejikddclgkcaa
noncomputable section
/-! ### halving -/
theorem half_eq (i j : Nat) (h : i + j ≤ 4611686018427387904) : IntKind.wrap .i64 (shrI .u64 (IntKind.wrap .u64 (IntKind.wrap .i64 ((i : Int) + (j : Int)))) 1) = (((i + j) / 2 : Nat) : Int) := by
  rw [wrap_i64 ((i : Int) + (j : Int)) (by omega) (by omega)]
  have e : IntKind.wrap .u64 ((i : Int) + (j : Int)) = ((i + j : Nat) : Int) := by
    rw [wrap_in ⟨by simp [IntKind.min, IntKind.signed]; omega, by simp [IntKind.max, IntKind.signed, IntKind.bits]; omega⟩]; simp
  rw [e]
  have : shrI .u64 ((i + j : Nat) : Int) 1 = (((i + j) / 2 : Nat) : Int) := by
    simp only [shrI, IntKind.bits]
    rw [show (2 : Int) ^ (min (1 : Int).toNat 64) = 2 from rfl, Int.fdiv_eq_ediv_of_nonneg _ (by decide)]; simp
  rw [this, wrap_i64 _ (by omega) (by omega)]
theorem bs_run {D : Type} {T : D → RT (Option (Go1 D))} {fuel : D → Nat} (mk : Nat → Nat → D) (q : Nat → Bool) (lo hi : Nat) (hlo : lo ≤ hi) (hf : hi - lo < fuel (mk lo hi))
    (hstep : ∀ i j, lo ≤ i → i < j → j ≤ hi → (T (mk i j)).val = some (.cont (bif q ((i + j) / 2) then mk ((i + j) / 2 + 1) j else mk i ((i + j) / 2))))
    (hend : ∀ i, lo ≤ i → i ≤ hi → (T (mk i i)).val = some (.brk (mk i i))) :
    ∃ i, lo ≤ i ∧ i ≤ hi ∧ runF false T fuel (mk lo hi) = some (false, mk i i) ∧ (i = lo ∨ q (i - 1) = true) ∧ (i = hi ∨ q i = false) := by
  have key : ∀ (n i j : Nat), lo ≤ i → i ≤ j → j ≤ hi → j - i < n → (i = lo ∨ q (i - 1) = true) → (j = hi ∨ q j = false) →
      ∃ r, runL (fun a => (T a).val) n (mk i j) = some (false, mk r r) ∧ lo ≤ r ∧ r ≤ hi ∧ (r = lo ∨ q (r - 1) = true) ∧ (r = hi ∨ q r = false) := by
    intro n
    induction n with
    | zero => intro i j _ _ _ h; omega
    | succ n ih =>
      intro i j h1 h2 h3 h4 h5 h6
      by_cases he : i = j
      · subst he
        exact ⟨i, by simp only [runL, hend i h1 h3], h1, h3, h5, h6⟩
      · have hs := hstep i j h1 (by omega) h3
        cases hq : q ((i + j) / 2) with
        | true =>
          rw [hq] at hs
          obtain ⟨r, hr, hr2⟩ := ih ((i + j) / 2 + 1) j (by omega) (by omega) h3 (by omega) (.inr (by simpa using hq)) h6
          exact ⟨r, by simp only [runL, hs, cond_true]; exact hr, hr2⟩
        | false =>
          rw [hq] at hs
          obtain ⟨r, hr, hr2⟩ := ih i ((i + j) / 2) h1 (by omega) (by omega) (by omega) h5 (.inr hq)
          exact ⟨r, by simp only [runL, hs, cond_false]; exact hr, hr2⟩
  obtain ⟨r, hr, h1, h2, h3, h4⟩ := key (fuel (mk lo hi)) lo hi (Nat.le_refl _) hlo (Nat.le_refl _) hf (.inl rfl) (.inl rfl)
  exact ⟨r, h1, h2, by unfold runF; rw [hr]; rfl, h3, h4⟩
/-! ### elements -/
def el (l : List Cell) (i : Nat) : Cell := l.getD i (0, 0)
theorem get_el (l : List Cell) (i : Nat) : R.get CR l (i : Int) = el l i := by simp [R.get, el, R.dflt]
theorem el_mid (X V Y : List Cell) (i : Nat) (h : i < V.length) : el (X ++ V ++ Y) (X.length + i) = el V i := by
  simp only [el, List.getD_eq_getElem?_getD]
  rw [List.append_assoc, List.getElem?_append_right (by omega), Nat.add_sub_cancel_left, List.getElem?_append_left h]
theorem el_get (V : List Cell) (i : Nat) (h : i < V.length) : V[i]? = some (el V i) := by
  simp [el, List.getD_eq_getElem?_getD, List.getElem?_eq_getElem h]
theorem srt_le {V : List Cell} (h : Srt V) {i j : Nat} (hij : i ≤ j) (hj : j < V.length) : (el V i).1 ≤ (el V j).1 := by
  by_cases e : i = j
  · subst e; exact Int.le_refl _
  · have h1 := el_get V i (by omega)
    have h2 := el_get V j hj
    have := List.pairwise_iff_getElem.1 h i j (by omega) hj (by omega)
    rw [List.getElem?_eq_getElem (by omega)] at h1 h2
    simp only [Option.some.injEq] at h1 h2
    rw [← h1, ← h2]; exact this
theorem mem_take {V : List Cell} {p : Nat} {y : Cell} (h : y ∈ V.take p) : ∃ i, i < p ∧ i < V.length ∧ y = el V i := by
  obtain ⟨i, hi, rfl⟩ := List.mem_iff_getElem.1 h
  simp only [List.length_take] at hi
  refine ⟨i, by omega, by omega, ?_⟩
  have := el_get V i (by omega)
  rw [List.getElem?_eq_getElem (by omega)] at this
  simp only [Option.some.injEq] at this
  rw [← this]; simp
theorem mem_drop {V : List Cell} {p : Nat} {y : Cell} (h : y ∈ V.drop p) : ∃ i, p ≤ i ∧ i < V.length ∧ y = el V i := by
  obtain ⟨i, hi, rfl⟩ := List.mem_iff_getElem.1 h
  simp only [List.length_drop] at hi
  refine ⟨p + i, by omega, by omega, ?_⟩
  have := el_get V (p + i) (by omega)
  rw [List.getElem?_eq_getElem (by omega)] at this
  simp only [Option.some.injEq] at this
  rw [← this]; simp
/-! ### a single cell on the left -/
theorem shiftR (X P Rr : List Cell) (x : Cell) (hm : (X ++ x :: (P ++ Rr)).length ≤ most) :
    ∃ r, runF false uSymL1T (fun a => Int.toNat (a.1 - a.2.1) + 1) (((X.length + P.length + 1 : Nat) : Int), (X.length : Int), X ++ x :: (P ++ Rr), ()) = some r ∧ r.2.2.2.1 = X ++ P ++ x :: Rr := by
  have hms := mst
  simp only [List.length_append, List.length_cons] at hm
  refine runF_ind (fl := false) (t := uSymL1T) (fuel := fun a => Int.toNat (a.1 - a.2.1) + 1)
    (I := fun a => ∃ P1 P2 : List Cell, P = P1 ++ P2 ∧ a = (((X.length + P.length + 1 : Nat) : Int), ((X.length + P1.length : Nat) : Int), X ++ P1 ++ x :: (P2 ++ Rr), ()))
    (m := fun a => Int.toNat (a.1 - a.2.1)) (R := fun r => r.2.2.2.1 = X ++ P ++ x :: Rr)
    (fun a hi => ?_) _ ⟨[], P, rfl, by simp⟩ (Nat.lt_succ_self _)
  obtain ⟨P1, P2, rfl, rfl⟩ := hi
  simp only [List.length_append] at hm ⊢
  have w0 : IntKind.wrap .i64 (((X.length + (P1.length + P2.length) + 1 : Nat) : Int) - 1) = ((X.length + P1.length + P2.length : Nat) : Int) := by rw [wrap_i64 _ (by omega) (by omega)]; omega
  cases P2 with
  | nil =>
    right; left
    refine ⟨(((X.length + (P1.length + ([] : List Cell).length) + 1 : Nat) : Int), ((X.length + P1.length : Nat) : Int), X ++ P1 ++ x :: ([] ++ Rr), ()), ?_, by simp⟩
    have d : decide (((X.length + P1.length : Nat) : Int) < ((X.length + P1.length + ([] : List Cell).length : Nat) : Int)) = false := by simp
    simp only [uSymL1T, RT.val, w0, d, cond_false]
  | cons y P2 =>
    left
    have d : decide (((X.length + P1.length : Nat) : Int) < ((X.length + P1.length + (y :: P2).length : Nat) : Int)) = true := by simp; omega
    have w1 : IntKind.wrap .i64 (((X.length + P1.length : Nat) : Int) + 1) = ((X ++ P1).length : Int) + 1 + (([] : List Cell).length : Int) := by rw [wrap_i64 _ (by simp only [List.length_cons] at hm; omega) (by simp only [List.length_cons] at hm; omega)]; simp
    have w2 : ((X.length + P1.length : Nat) : Int) = ((X ++ P1).length : Int) := by simp
    have e0 : X ++ P1 ++ x :: (y :: P2 ++ Rr) = (X ++ P1) ++ x :: ([] ++ y :: (P2 ++ Rr)) := by simp
    have g1 : R.get CR ((X ++ P1) ++ x :: ([] ++ y :: (P2 ++ Rr))) ((X ++ P1).length : Int) = x := get_mid (r := CR) _ _ _ _ rfl
    have g2 := get_mid2 (X ++ P1) x y [] (P2 ++ Rr) _ rfl
    have r1 := rng_mid (X ++ P1) x ([] ++ y :: (P2 ++ Rr)) _ rfl
    have r2 := rng_mid2 (X ++ P1) x y [] (P2 ++ Rr) _ rfl
    have s1 := swap_mid (X ++ P1) x y [] (P2 ++ Rr) _ _ rfl rfl
    refine ⟨(((X.length + (P1.length + (y :: P2).length) + 1 : Nat) : Int), ((X ++ P1).length : Int) + 1 + (([] : List Cell).length : Int), (X ++ P1) ++ y :: ([] ++ x :: (P2 ++ Rr)), ()), ?_, ⟨P1 ++ [y], P2, by simp, by simp; omega⟩, by simp; omega⟩
    rw [e0]
    rw [w2] at w1 d ⊢
    simp only [uSymL1T, RT.val, w0, d, w1, g1, g2, r1, r2, s1, len_set, cond_true, Bool.not_true, Bool.or_true, Bool.false_or, Bool.or_false]
theorem shiftL (X Q Rr : List Cell) (y : Cell) (hm : (X ++ (Q ++ y :: Rr)).length ≤ most) :
    ∃ r, runF false uSymL3T (fun a => Int.toNat (a.2.1 - a.1) + 1) ((X.length : Int), ((X.length + Q.length : Nat) : Int), X ++ (Q ++ y :: Rr), ()) = some r ∧ r.2.2.2.1 = X ++ y :: (Q ++ Rr) := by
  have hms := mst
  simp only [List.length_append, List.length_cons] at hm
  refine runF_ind (fl := false) (t := uSymL3T) (fuel := fun a => Int.toNat (a.2.1 - a.1) + 1)
    (I := fun a => ∃ Q1 Q2 : List Cell, Q = Q1 ++ Q2 ∧ a = ((X.length : Int), ((X.length + Q1.length : Nat) : Int), X ++ Q1 ++ y :: (Q2 ++ Rr), ()))
    (m := fun a => Int.toNat (a.2.1 - a.1)) (R := fun r => r.2.2.2.1 = X ++ y :: (Q ++ Rr))
    (fun a hi => ?_) _ ⟨Q, [], by simp, by simp⟩ (Nat.lt_succ_self _)
  obtain ⟨Q1, Q2, rfl, rfl⟩ := hi
  simp only [List.length_append] at hm
  rcases List.eq_nil_or_concat Q1 with rfl | ⟨Q', z, hc⟩
  · right; left
    refine ⟨((X.length : Int), ((X.length + ([] : List Cell).length : Nat) : Int), X ++ [] ++ y :: (Q2 ++ Rr), ()), ?_, by simp⟩
    have d : decide (((X.length + ([] : List Cell).length : Nat) : Int) > (X.length : Int)) = false := by simp
    simp only [uSymL3T, RT.val, d, cond_false]
  · rw [List.concat_eq_append] at hc
    subst hc
    left
    have hl1 : (Q' ++ [z]).length = Q'.length + 1 := by simp
    have d : decide (((X.length + (Q' ++ [z]).length : Nat) : Int) > (X.length : Int)) = true := by simp; omega
    have w1 : IntKind.wrap .i64 (((X.length + (Q' ++ [z]).length : Nat) : Int) - 1) = ((X ++ Q').length : Int) := by rw [wrap_i64 _ (by omega) (by omega)]; simp; omega
    have w2 : ((X.length + (Q' ++ [z]).length : Nat) : Int) = ((X ++ Q').length : Int) + 1 + (([] : List Cell).length : Int) := by simp; omega
    have e0 : X ++ (Q' ++ [z]) ++ y :: (Q2 ++ Rr) = (X ++ Q') ++ z :: ([] ++ y :: (Q2 ++ Rr)) := by simp
    have g1 : R.get CR ((X ++ Q') ++ z :: ([] ++ y :: (Q2 ++ Rr))) ((X ++ Q').length : Int) = z := get_mid (r := CR) _ _ _ _ rfl
    have g2 := get_mid2 (X ++ Q') z y [] (Q2 ++ Rr) _ rfl
    have r1 := rng_mid (X ++ Q') z ([] ++ y :: (Q2 ++ Rr)) _ rfl
    have r2 := rng_mid2 (X ++ Q') z y [] (Q2 ++ Rr) _ rfl
    have s1 := swap_mid' (X ++ Q') z y [] (Q2 ++ Rr) _ _ rfl rfl
    refine ⟨((X.length : Int), ((X ++ Q').length : Int), (X ++ Q') ++ y :: ([] ++ z :: (Q2 ++ Rr)), ()), ?_, ⟨Q', z :: Q2, by simp, by simp⟩, by simp; omega⟩
    rw [e0]
    rw [w2] at w1 d ⊢
    simp only [uSymL3T, RT.val, d, w1, g1, g2, r1, r2, s1, len_set, cond_true, Bool.not_true, Bool.or_true, Bool.false_or, Bool.or_false]
end
end Go.Proofs.Ytfejikddclgkcaa
