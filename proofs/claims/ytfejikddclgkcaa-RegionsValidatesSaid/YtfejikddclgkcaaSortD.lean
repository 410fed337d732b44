/-
  What the library's merging of two sorted blocks does to a list of cells. Conditions: none.
-/
import Derived.Test.YtfejikddclgkcaaSortC
open Go Go.S3 Go.Proofs Go.Proofs.Cells
set_option linter.unusedVariables false
set_option linter.unusedSimpArgs false
set_option maxRecDepth 100000
namespace Go.Proofs.Ytfejikddclgkcaa
noncomputable section
theorem sorted_left {x : Cell} {P Q : List Cell} (hs : Srt (P ++ Q)) (hP : ∀ y ∈ P, y.1 < x.1) (hQ : ∀ y ∈ Q, x.1 ≤ y.1) : isort (x :: (P ++ Q)) = P ++ x :: Q := by
  have h := List.pairwise_append.1 hs
  refine isort_eq (List.pairwise_append.2 ⟨h.1, List.pairwise_cons.2 ⟨hQ, h.2.1⟩, fun a ha b hb => ?_⟩) ?_
  · have := hP a ha
    rcases List.mem_cons.1 hb with rfl | hb
    · omega
    · have := hQ b hb; omega
  · have := Sm.swap (u := P) (v := [x]) (fun a ha b hb => by simp at hb; subst hb; have := hP a ha; omega) [] Q
    simpa using this
theorem sorted_right {y : Cell} {P Q : List Cell} (hs : Srt (P ++ Q)) (hP : ∀ a ∈ P, a.1 ≤ y.1) (hQ : ∀ a ∈ Q, y.1 < a.1) : isort (P ++ Q ++ [y]) = P ++ y :: Q := by
  have h := List.pairwise_append.1 hs
  refine isort_eq (List.pairwise_append.2 ⟨h.1, List.pairwise_cons.2 ⟨fun b hb => by have := hQ b hb; omega, h.2.1⟩, fun a ha b hb => ?_⟩) ?_
  · have := hP a ha
    rcases List.mem_cons.1 hb with rfl | hb
    · omega
    · have := hQ b hb; omega
  · have := (Sm.swap (u := Q) (v := [y]) (fun a ha b hb => by simp at hb; subst hb; have := hQ a ha; omega) P []).symm
    simpa using this
theorem rng_nat {α : Type} (l : List α) (i : Nat) (h : i < l.length) : inRng (i : Int) l.length = true := inRng_iff.2 (by omega)
theorem wadd1 (i : Nat) (h : i ≤ 4611686018427387904) : IntKind.wrap .i64 ((i : Int) + 1) = ((i + 1 : Nat) : Int) := by rw [wrap_i64 _ (by omega) (by omega)]; simp
theorem wsub (i j : Nat) (h : i ≤ 4611686018427387904) (hj : j ≤ i) : IntKind.wrap .i64 ((i : Int) - (j : Int)) = ((i - j : Nat) : Int) := by rw [wrap_i64 _ (by omega) (by omega)]; omega
theorem wadd (i j : Nat) (h : i + j ≤ 4611686018427387904) : IntKind.wrap .i64 ((i : Int) + (j : Int)) = ((i + j : Nat) : Int) := by rw [wrap_i64 _ (by omega) (by omega)]; simp
theorem sym_one (k : Int) (X V Y : List Cell) (x : Cell) (hV : 0 < V.length) (sV : Srt V) (hm : (X ++ [x] ++ V ++ Y).length ≤ most) :
    (uSymT k (X ++ [x] ++ V ++ Y) X.length (X.length + 1 : Nat) (X.length + 1 + V.length : Nat)).val = some (X ++ isort ([x] ++ V) ++ Y) := by
  have hms := mst
  have hlen : (X ++ [x] ++ V ++ Y).length = X.length + 1 + V.length + Y.length := by simp; omega
  have hm' := hm
  rw [hlen] at hm'
  have ga : el (X ++ [x] ++ V ++ Y) X.length = x := by
    simp [el]
  have gv : ∀ i, i < V.length → el (X ++ [x] ++ V ++ Y) (X.length + 1 + i) = el V i := fun i hi => by
    have := el_mid (X ++ [x]) V Y i hi; simpa using this
  obtain ⟨i, i1, i2, hrun, q1, q2⟩ := bs_run (T := uSymL0T) (fuel := fun a_1 => Int.toNat (a_1.2.2.1 - a_1.2.1) + 1) (fun i j => ((X.length : Int), (i : Int), (j : Int), X ++ [x] ++ V ++ Y, ()))
    (fun h => decide ((el (X ++ [x] ++ V ++ Y) h).1 < x.1)) (X.length + 1) (X.length + 1 + V.length) (by omega) (by simp only; omega)
    (fun i j h1 h2 h3 => by
      have d : decide ((i : Int) < (j : Int)) = true := by simpa using h2
      have r1 := rng_nat (X ++ [x] ++ V ++ Y) ((i + j) / 2) (by rw [hlen]; omega)
      have r2 := rng_nat (X ++ [x] ++ V ++ Y) X.length (by rw [hlen]; omega)
      simp only [uSymL0T, RT.val, d, half_eq i j (by omega), r1, r2, Bool.not_true, Bool.false_or, cond_true, get_el, uLess_lt, ga, wadd1 ((i + j) / 2) (by omega)]
      cases decide ((el (X ++ [x] ++ V ++ Y) ((i + j) / 2)).1 < x.1) <;> rfl)
    (fun i h1 h2 => by
      have d : decide ((i : Int) < (i : Int)) = false := by simp
      simp only [uSymL0T, RT.val, d, cond_false])
  obtain ⟨p, rfl⟩ : ∃ p, i = X.length + 1 + p := ⟨i - (X.length + 1), by omega⟩
  have hp : p ≤ V.length := by omega
  have hP : ∀ y ∈ V.take p, y.1 < x.1 := fun y hy => by
    obtain ⟨j, h1, h2, rfl⟩ := mem_take hy
    rcases q1 with q1 | q1
    · omega
    · rw [show X.length + 1 + p - 1 = X.length + 1 + (p - 1) by omega, gv (p - 1) (by omega)] at q1
      have := srt_le sV (i := j) (j := p - 1) (by omega) (by omega)
      simp only [decide_eq_true_eq] at q1; omega
  have hQ : ∀ y ∈ V.drop p, x.1 ≤ y.1 := fun y hy => by
    obtain ⟨j, h1, h2, rfl⟩ := mem_drop hy
    rcases q2 with q2 | q2
    · omega
    · rw [gv p (by omega)] at q2
      have := srt_le sV (i := p) (j := j) h1 h2
      simp only [decide_eq_false_iff_not] at q2; omega
  have hV2 : V.take p ++ V.drop p = V := List.take_append_drop p V
  have hpl : (V.take p).length = p := by simp; omega
  obtain ⟨r, hr, hr2⟩ := shiftR X (V.take p) (V.drop p ++ Y) x (by
    have : X ++ x :: (V.take p ++ (V.drop p ++ Y)) = X ++ [x] ++ V ++ Y := by rw [← List.append_assoc (V.take p), hV2]; simp
    rw [this]; exact hm)
  rw [hpl, show X.length + p + 1 = X.length + 1 + p by omega, show X ++ x :: (V.take p ++ (V.drop p ++ Y)) = X ++ [x] ++ V ++ Y by rw [← List.append_assoc (V.take p), hV2]; simp] at hr
  have w1 : (IntKind.wrap .i64 (((X.length + 1 : Nat) : Int) - (X.length : Int)) == 1) = true := by rw [wsub _ _ (by omega) (by omega)]; simp
  have hfin : X ++ V.take p ++ x :: (V.drop p ++ Y) = X ++ isort ([x] ++ V) ++ Y := by
    have := sorted_left (x := x) (P := V.take p) (Q := V.drop p) (by rw [hV2]; exact sV) hP hQ
    rw [hV2] at this
    rw [show [x] ++ V = x :: V from rfl, this]; simp
  have hrun' : runF false uSymL0T (fun a_1 => Int.toNat (a_1.2.2.1 - a_1.2.1) + 1) ((X.length : Int), ((X.length + 1 : Nat) : Int), ((X.length + 1 + V.length : Nat) : Int), X ++ [x] ++ V ++ Y, ()) = some (false, ((X.length : Int), ((X.length + 1 + p : Nat) : Int), ((X.length + 1 + p : Nat) : Int), X ++ [x] ++ V ++ Y, ())) := hrun
  simp only [uSymT, ownSt, RT.val, w1, Bool.not_true, Bool.false_or, hrun', okB, getO, cond_true, hr, hr2, hfin]
theorem sym_last (k : Int) (X U Y : List Cell) (y : Cell) (hU : 1 < U.length) (sU : Srt U) (hm : (X ++ U ++ [y] ++ Y).length ≤ most) :
    (uSymT k (X ++ U ++ [y] ++ Y) X.length (X.length + U.length : Nat) (X.length + U.length + 1 : Nat)).val = some (X ++ isort (U ++ [y]) ++ Y) := by
  have hms := mst
  have hlen : (X ++ U ++ [y] ++ Y).length = X.length + U.length + 1 + Y.length := by simp; omega
  have hm' := hm
  rw [hlen] at hm'
  have ga : el (X ++ U ++ [y] ++ Y) (X.length + U.length) = y := by
    simp [el]
  have gv : ∀ i, i < U.length → el (X ++ U ++ [y] ++ Y) (X.length + i) = el U i := fun i hi => by
    have := el_mid X U ([y] ++ Y) i hi; simpa using this
  obtain ⟨i, i1, i2, hrun, q1, q2⟩ := bs_run (T := uSymL2T) (fuel := fun a_1 => Int.toNat (a_1.2.2.1 - a_1.2.1) + 1) (fun i j => (((X.length + U.length : Nat) : Int), (i : Int), (j : Int), X ++ U ++ [y] ++ Y, ()))
    (fun h => decide ((el (X ++ U ++ [y] ++ Y) h).1 ≤ y.1)) X.length (X.length + U.length) (by omega) (by simp only; omega)
    (fun i j h1 h2 h3 => by
      have d : decide ((i : Int) < (j : Int)) = true := by simpa using h2
      have r1 := rng_nat (X ++ U ++ [y] ++ Y) ((i + j) / 2) (by rw [hlen]; omega)
      have r2 := rng_nat (X ++ U ++ [y] ++ Y) (X.length + U.length) (by rw [hlen]; omega)
      simp only [uSymL2T, RT.val, d, half_eq i j (by omega), r1, r2, Bool.not_true, Bool.false_or, Bool.or_true, cond_true, get_el, uLess_nlt, ga, wadd1 ((i + j) / 2) (by omega)]
      cases decide ((el (X ++ U ++ [y] ++ Y) ((i + j) / 2)).1 ≤ y.1) <;> rfl)
    (fun i h1 h2 => by
      have d : decide ((i : Int) < (i : Int)) = false := by simp
      simp only [uSymL2T, RT.val, d, cond_false])
  obtain ⟨p, rfl⟩ : ∃ p, i = X.length + p := ⟨i - X.length, by omega⟩
  have hp : p ≤ U.length := by omega
  have hP : ∀ a ∈ U.take p, a.1 ≤ y.1 := fun a ha => by
    obtain ⟨j, h1, h2, rfl⟩ := mem_take ha
    rcases q1 with q1 | q1
    · omega
    · rw [show X.length + p - 1 = X.length + (p - 1) by omega, gv (p - 1) (by omega)] at q1
      have := srt_le sU (i := j) (j := p - 1) (by omega) (by omega)
      simp only [decide_eq_true_eq] at q1; omega
  have hQ : ∀ a ∈ U.drop p, y.1 < a.1 := fun a ha => by
    obtain ⟨j, h1, h2, rfl⟩ := mem_drop ha
    rcases q2 with q2 | q2
    · omega
    · rw [gv p (by omega)] at q2
      have := srt_le sU (i := p) (j := j) h1 h2
      simp only [decide_eq_false_iff_not] at q2; omega
  have hU2 : U.take p ++ U.drop p = U := List.take_append_drop p U
  have hql : (U.drop p).length = U.length - p := by simp
  have hpl : (X ++ U.take p).length = X.length + p := by simp; omega
  have e0 : (X ++ U.take p) ++ (U.drop p ++ y :: Y) = X ++ U ++ [y] ++ Y := by
    have : (X ++ U.take p) ++ (U.drop p ++ y :: Y) = X ++ ((U.take p ++ U.drop p) ++ y :: Y) := by simp only [List.append_assoc]
    rw [this, hU2]; simp
  obtain ⟨r, hr, hr2⟩ := shiftL (X ++ U.take p) (U.drop p) Y y (by rw [e0]; exact hm)
  rw [e0, hpl, hql, show X.length + p + (U.length - p) = X.length + U.length by omega] at hr
  have w0 : (IntKind.wrap .i64 (((X.length + U.length : Nat) : Int) - (X.length : Int)) == 1) = false := by rw [wsub _ _ (by omega) (by omega)]; simp; omega
  have w1 : (IntKind.wrap .i64 (((X.length + U.length + 1 : Nat) : Int) - ((X.length + U.length : Nat) : Int)) == 1) = true := by rw [wsub _ _ (by omega) (by omega)]; simp
  have hfin : X ++ U.take p ++ y :: (U.drop p ++ Y) = X ++ isort (U ++ [y]) ++ Y := by
    have := sorted_right (y := y) (P := U.take p) (Q := U.drop p) (by rw [hU2]; exact sU) hP hQ
    rw [hU2] at this
    rw [this]; simp
  have hrun' : runF false uSymL2T (fun a_1 => Int.toNat (a_1.2.2.1 - a_1.2.1) + 1) (((X.length + U.length : Nat) : Int), (X.length : Int), ((X.length + U.length : Nat) : Int), X ++ U ++ [y] ++ Y, ()) = some (false, (((X.length + U.length : Nat) : Int), ((X.length + p : Nat) : Int), ((X.length + p : Nat) : Int), X ++ U ++ [y] ++ Y, ())) := hrun
  simp only [uSymT, ownSt, RT.val, w0, w1, Bool.not_true, Bool.not_false, Bool.true_or, Bool.false_or, hrun', okB, getO, cond_true, cond_false, hr, hr2, hfin]
end
end Go.Proofs.Ytfejikddclgkcaa
