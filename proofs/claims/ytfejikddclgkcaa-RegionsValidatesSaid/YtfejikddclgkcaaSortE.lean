/-
  The library's stable sorting of cells. Conditions: none.
-/
import Derived.Test.YtfejikddclgkcaaSortD
open Go Go.S3 Go.Proofs Go.Proofs.Cells
set_option linter.unusedVariables false
set_option linter.unusedSimpArgs false
set_option maxRecDepth 100000
namespace Go.Proofs.Ytfejikddclgkcaa
noncomputable section
theorem isort_len (l : List Cell) : (isort l).length = l.length := by
  have hi : ∀ (x : Cell) (l : List Cell), (ins x l).length = l.length + 1 := fun x l => by
    induction l with
    | nil => rfl
    | cons y l ih => simp only [ins]; split <;> simp [ih]
  have : ∀ (l acc : List Cell), (l.foldl (fun a x => ins x a) acc).length = acc.length + l.length := by
    intro l
    induction l with
    | nil => intro acc; simp
    | cons a l ih => intro acc; rw [List.foldl_cons, ih, hi]; simp; omega
  simp [isort, this]
theorem sub3 (X U V Y : List Cell) : ((X ++ U ++ V ++ Y).drop X.length).take ((X.length + U.length) - X.length) = U ∧ ((X ++ U ++ V ++ Y).drop (X.length + U.length)).take ((X.length + U.length + V.length) - (X.length + U.length)) = V := by
  constructor
  · have : X ++ U ++ V ++ Y = X ++ (U ++ (V ++ Y)) := by simp
    rw [this, List.drop_left' rfl, List.take_left' (by omega)]
  · have : X ++ U ++ V ++ Y = (X ++ U) ++ (V ++ Y) := by simp
    rw [this, List.drop_left' (by simp), List.take_left' (by omega)]
theorem rotOk_of (X U V Y : List Cell) (hU : 0 < U.length) (hV : 0 < V.length) (hm : (X ++ U ++ V ++ Y).length ≤ most) : rotOk (X ++ U ++ V ++ Y) X.length (X.length + U.length : Nat) (X.length + U.length + V.length : Nat) = true := by
  simp only [rotOk, Bool.and_eq_true, decide_eq_true_eq, Nat.ble_eq]
  simp only [List.length_append] at hm ⊢
  omega
theorem symOk_of (k : Int) (X U V Y : List Cell) (hU : 0 < U.length) (hV : 0 < V.length) (sU : Srt U) (sV : Srt V) (hk : ((U.length + V.length : Nat) : Int) ≤ k) (hm : (X ++ U ++ V ++ Y).length ≤ most) : symOk k (X ++ U ++ V ++ Y) X.length (X.length + U.length : Nat) (X.length + U.length + V.length : Nat) = true := by
  obtain ⟨s1, s2⟩ := sub3 X U V Y
  simp only [symOk, rotOk_of X U V Y hU hV hm, Int.toNat_natCast, s1, s2, srtB_iff.2 sU, srtB_iff.2 sV, Bool.and_true, Bool.true_and, decide_eq_true_eq]
  omega
theorem sortX_eq' (X L Y : List Cell) (b : Nat) (hb : b = X.length + L.length) : sortX (X ++ L ++ Y) X.length b = X ++ isort L ++ Y := by subst hb; exact sortX_eq X L Y
theorem sym_gen (k : Int) (X U V Y : List Cell) (hU : 1 < U.length) (hV : 1 < V.length) (sU : Srt U) (sV : Srt V) (hk : ((U.length + V.length : Nat) : Int) ≤ k + 1) (hm : (X ++ U ++ V ++ Y).length ≤ most) :
    (uSymT k (X ++ U ++ V ++ Y) X.length (X.length + U.length : Nat) (X.length + U.length + V.length : Nat)).val = some (X ++ isort (U ++ V) ++ Y) := by
  have hms := mst
  have hlen : (X ++ U ++ V ++ Y).length = X.length + U.length + V.length + Y.length := by simp; omega
  have hm' := hm
  rw [hlen] at hm'
  have gu : ∀ i, i < U.length → el (X ++ U ++ V ++ Y) (X.length + i) = el U i := fun i hi => by
    have := el_mid X U (V ++ Y) i hi; simpa using this
  have gv : ∀ i, i < V.length → el (X ++ U ++ V ++ Y) (X.length + U.length + i) = el V i := fun i hi => by
    have := el_mid (X ++ U) V Y i hi; simpa using this
  -- the middle and the bounds of the search
  obtain ⟨M, hM⟩ : ∃ M, M = (X.length + (X.length + U.length + V.length)) / 2 := ⟨_, rfl⟩
  obtain ⟨lo, hi, hlo, hlh, hb1, hb2, hb3, hb4, hb5⟩ : ∃ lo hi : Nat, lo ≤ hi ∧
      ((bif decide (((X.length + U.length : Nat) : Int) > (M : Int)) then IntKind.wrap .i64 (((M + (X.length + U.length) : Nat) : Int) - ((X.length + U.length + V.length : Nat) : Int)) else (X.length : Int)) = (lo : Int) ∧ (bif decide (((X.length + U.length : Nat) : Int) > (M : Int)) then (M : Int) else ((X.length + U.length : Nat) : Int)) = (hi : Int)) ∧
      X.length ≤ lo ∧ hi ≤ X.length + U.length ∧ (∀ c, lo ≤ c → c < hi → X.length + U.length ≤ M + (X.length + U.length) - 1 - c ∧ M + (X.length + U.length) - 1 - c < X.length + U.length + V.length) ∧
      ((lo = X.length ∨ M + (X.length + U.length) - lo = X.length + U.length + V.length) ∧ (hi = X.length + U.length ∨ hi = M)) ∧ M + (X.length + U.length) ≤ lo + (X.length + U.length + V.length) := by
    by_cases hc : M < X.length + U.length
    · refine ⟨M + (X.length + U.length) - (X.length + U.length + V.length), M, by omega, ⟨?_, ?_⟩, by omega, by omega, fun c h1 h2 => by omega, ⟨by omega, .inr rfl⟩, by omega⟩
      · have : decide (((X.length + U.length : Nat) : Int) > (M : Int)) = true := by simp; omega
        rw [this, cond_true, wsub _ _ (by omega) (by omega)]
      · have : decide (((X.length + U.length : Nat) : Int) > (M : Int)) = true := by simp; omega
        rw [this, cond_true]
    · refine ⟨X.length, X.length + U.length, by omega, ⟨?_, ?_⟩, by omega, by omega, fun c h1 h2 => by omega, ⟨.inl rfl, .inl rfl⟩, by omega⟩
      · have : decide (((X.length + U.length : Nat) : Int) > (M : Int)) = false := by simp; omega
        rw [this, cond_false]
      · have : decide (((X.length + U.length : Nat) : Int) > (M : Int)) = false := by simp; omega
        rw [this, cond_false]
  obtain ⟨σ, i1, i2, hrun, q1, q2⟩ := bs_run (T := uSymL4T) (fuel := fun a_1 => Int.toNat (a_1.2.2.2.2.2.2.1 - a_1.2.2.2.2.2.1) + 1)
    (fun i j => ((X.length : Int), ((X.length + U.length : Nat) : Int), ((X.length + U.length + V.length : Nat) : Int), (M : Int), ((M + (X.length + U.length) : Nat) : Int), (i : Int), (j : Int), ((M + (X.length + U.length) - 1 : Nat) : Int), X ++ U ++ V ++ Y, ()))
    (fun h => decide ((el (X ++ U ++ V ++ Y) h).1 ≤ (el (X ++ U ++ V ++ Y) (M + (X.length + U.length) - 1 - h)).1)) lo hi hlo (by simp only; omega)
    (fun i j h1 h2 h3 => by
      have d : decide ((i : Int) < (j : Int)) = true := by simpa using h2
      obtain ⟨b1, b2⟩ := hb3 ((i + j) / 2) (by omega) (by omega)
      have r1 := rng_nat (X ++ U ++ V ++ Y) ((i + j) / 2) (by rw [hlen]; omega)
      have r2 := rng_nat (X ++ U ++ V ++ Y) (M + (X.length + U.length) - 1 - (i + j) / 2) (by rw [hlen]; omega)
      simp only [uSymL4T, RT.val, d, half_eq i j (by omega), wsub (M + (X.length + U.length) - 1) ((i + j) / 2) (by omega) (by omega), r1, r2, Bool.not_true, Bool.false_or, cond_true, get_el, uLess_nlt, wadd1 ((i + j) / 2) (by omega)]
      cases decide ((el (X ++ U ++ V ++ Y) ((i + j) / 2)).1 ≤ (el (X ++ U ++ V ++ Y) (M + (X.length + U.length) - 1 - (i + j) / 2)).1) <;> rfl)
    (fun i h1 h2 => by
      have d : decide ((i : Int) < (i : Int)) = false := by simp
      simp only [uSymL4T, RT.val, d, cond_false])
  -- the parts
  obtain ⟨n1, hn1⟩ : ∃ n1, σ = X.length + n1 := ⟨σ - X.length, by omega⟩
  subst hn1
  have hn1 : n1 ≤ U.length := by omega
  have hbound : ∀ c, lo ≤ c → c < hi → True := fun _ _ _ => trivial
  have hσM : X.length + n1 ≤ M := by
    rcases hb4.2 with e | e
    · by_cases hc : M < X.length + U.length
      · have := hb3 lo
        rcases Nat.lt_or_ge lo hi with h | h
        · have := hb3 (hi - 1) (by omega) (by omega); omega
        · omega
      · omega
    · omega
  obtain ⟨u1, u2, hu, hu1⟩ := split_at U n1 hn1
  have hv1le : M - (X.length + n1) ≤ V.length := by omega
  obtain ⟨v1, v2, hv, hv1⟩ := split_at V (M - (X.length + n1)) hv1le
  subst hu hv
  simp only [List.length_append] at *
  have su := List.pairwise_append.1 sU
  have sv := List.pairwise_append.1 sV
  have eu : ∀ i, i < u1.length + u2.length → el (X ++ (u1 ++ u2) ++ (v1 ++ v2) ++ Y) (X.length + i) = el (u1 ++ u2) i := fun i hi => gu i (by omega)
  have ev : ∀ i, i < v1.length + v2.length → el (X ++ (u1 ++ u2) ++ (v1 ++ v2) ++ Y) (X.length + (u1.length + u2.length) + i) = el (v1 ++ v2) i := fun i hi => gv i (by omega)
  have mu1 : ∀ x ∈ u1, ∃ i, i < u1.length ∧ x = el (u1 ++ u2) i := fun x hx => by
    obtain ⟨i, h1, h2, e⟩ := mem_take (V := u1 ++ u2) (p := u1.length) (y := x) (by simpa using hx)
    exact ⟨i, h1, e⟩
  have mu2 : ∀ x ∈ u2, ∃ i, u1.length ≤ i ∧ i < u1.length + u2.length ∧ x = el (u1 ++ u2) i := fun x hx => by
    obtain ⟨i, h1, h2, e⟩ := mem_drop (V := u1 ++ u2) (p := u1.length) (y := x) (by simpa using hx)
    exact ⟨i, h1, by simpa using h2, e⟩
  have mv1 : ∀ x ∈ v1, ∃ i, i < v1.length ∧ x = el (v1 ++ v2) i := fun x hx => by
    obtain ⟨i, h1, h2, e⟩ := mem_take (V := v1 ++ v2) (p := v1.length) (y := x) (by simpa using hx)
    exact ⟨i, h1, e⟩
  have mv2 : ∀ x ∈ v2, ∃ i, v1.length ≤ i ∧ i < v1.length + v2.length ∧ x = el (v1 ++ v2) i := fun x hx => by
    obtain ⟨i, h1, h2, e⟩ := mem_drop (V := v1 ++ v2) (p := v1.length) (y := x) (by simpa using hx)
    exact ⟨i, h1, by simpa using h2, e⟩
  have h12 : ∀ x ∈ u2, ∀ y ∈ v1, y.1 < x.1 := fun x hx y hy => by
    obtain ⟨i, a1, a2, rfl⟩ := mu2 x hx
    obtain ⟨j, b1, rfl⟩ := mv1 y hy
    rcases q2 with e | e
    · exfalso; rcases hb4.2 with f | f <;> omega
    · have hidx : M + (X.length + (u1.length + u2.length)) - 1 - (X.length + n1) = X.length + (u1.length + u2.length) + (v1.length - 1) := by omega
      rw [eu n1 (by omega), hidx, ev (v1.length - 1) (by omega)] at e
      have c1 := srt_le sU (i := n1) (j := i) (by omega) (by simp; omega)
      have c2 := srt_le sV (i := j) (j := v1.length - 1) (by omega) (by simp; omega)
      simp only [decide_eq_false_iff_not] at e
      omega
  have h1 : ∀ x ∈ u1, ∀ y ∈ v2, x.1 ≤ y.1 := fun x hx y hy => by
    obtain ⟨i, a1, rfl⟩ := mu1 x hx
    obtain ⟨j, b1, b2, rfl⟩ := mv2 y hy
    rcases q1 with e | e
    · exfalso; rcases hb4.1 with f | f <;> omega
    · have hidx : M + (X.length + (u1.length + u2.length)) - 1 - (X.length + n1 - 1) = X.length + (u1.length + u2.length) + v1.length := by omega
      rw [hidx, show X.length + n1 - 1 = X.length + (n1 - 1) by omega, eu (n1 - 1) (by omega), ev v1.length (by omega)] at e
      have c1 := srt_le sU (i := i) (j := n1 - 1) (by omega) (by simp; omega)
      have c2 := srt_le sV (i := v1.length) (j := j) (by omega) (by simp; omega)
      simp only [decide_eq_true_eq] at e
      omega
  have hlaw := sym_law h12 h1 su.2.2 sv.2.2
  have hMv : M = X.length + u1.length + v1.length := by omega
  -- the steps
  have w0 : (IntKind.wrap .i64 (((X.length + (u1.length + u2.length) : Nat) : Int) - (X.length : Int)) == 1) = false := by rw [wsub _ _ (by omega) (by omega)]; simp; omega
  have w1 : (IntKind.wrap .i64 (((X.length + (u1.length + u2.length) + (v1.length + v2.length) : Nat) : Int) - ((X.length + (u1.length + u2.length) : Nat) : Int)) == 1) = false := by rw [wsub _ _ (by omega) (by omega)]; simp; omega
  have w2 : IntKind.wrap .i64 (shrI .u64 (IntKind.wrap .u64 (IntKind.wrap .i64 ((X.length : Int) + ((X.length + (u1.length + u2.length) + (v1.length + v2.length) : Nat) : Int)))) 1) = (M : Int) := by
    rw [half_eq _ _ (by omega), hM]
  have w3 : IntKind.wrap .i64 ((M : Int) + ((X.length + (u1.length + u2.length) : Nat) : Int)) = ((M + (X.length + (u1.length + u2.length)) : Nat) : Int) := wadd _ _ (by omega)
  have w4 : IntKind.wrap .i64 (((M + (X.length + (u1.length + u2.length)) : Nat) : Int) - 1) = ((M + (X.length + (u1.length + u2.length)) - 1 : Nat) : Int) := by
    have := wsub (M + (X.length + (u1.length + u2.length))) 1 (by omega) (by omega); simpa using this
  have w5 : IntKind.wrap .i64 (((M + (X.length + (u1.length + u2.length)) : Nat) : Int) - ((X.length + n1 : Nat) : Int)) = ((X.length + (u1.length + u2.length) + v1.length : Nat) : Int) := by rw [wsub _ _ (by omega) (by omega)]; omega
  -- what rotating, and both merges, make of it
  have e0 : X ++ (u1 ++ u2) ++ (v1 ++ v2) ++ Y = (X ++ u1) ++ u2 ++ v1 ++ (v2 ++ Y) := by simp
  have hrot : (decide (((X.length + n1 : Nat) : Int) < ((X.length + (u1.length + u2.length) : Nat) : Int)) && decide (((X.length + (u1.length + u2.length) : Nat) : Int) < ((X.length + (u1.length + u2.length) + v1.length : Nat) : Int))) = true →
      rotOk (X ++ (u1 ++ u2) ++ (v1 ++ v2) ++ Y) ((X.length + n1 : Nat) : Int) ((X.length + (u1.length + u2.length) : Nat) : Int) ((X.length + (u1.length + u2.length) + v1.length : Nat) : Int) = true := fun h => by
    simp only [Bool.and_eq_true, decide_eq_true_eq] at h
    have := rotOk_of (X ++ u1) u2 v1 (v2 ++ Y) (by omega) (by omega) (by rw [← e0]; simp only [List.length_append]; omega)
    rw [e0]
    simp only [List.length_append] at this
    rwa [show X.length + u1.length + u2.length = X.length + (u1.length + u2.length) by omega, show X.length + u1.length = X.length + n1 by omega] at this
  have hrotX : (bif (decide (((X.length + n1 : Nat) : Int) < ((X.length + (u1.length + u2.length) : Nat) : Int)) && decide (((X.length + (u1.length + u2.length) : Nat) : Int) < ((X.length + (u1.length + u2.length) + v1.length : Nat) : Int))) then rotX (X ++ (u1 ++ u2) ++ (v1 ++ v2) ++ Y) (X.length + n1) (X.length + (u1.length + u2.length)) (X.length + (u1.length + u2.length) + v1.length) else X ++ (u1 ++ u2) ++ (v1 ++ v2) ++ Y) = X ++ u1 ++ v1 ++ (u2 ++ v2 ++ Y) := by
    by_cases h : 0 < u2.length ∧ 0 < v1.length
    · have : (decide (((X.length + n1 : Nat) : Int) < ((X.length + (u1.length + u2.length) : Nat) : Int)) && decide (((X.length + (u1.length + u2.length) : Nat) : Int) < ((X.length + (u1.length + u2.length) + v1.length : Nat) : Int))) = true := by
        simp only [Bool.and_eq_true, decide_eq_true_eq]; omega
      rw [this, cond_true, e0]
      have := rotX_eq (X ++ u1) u2 v1 (v2 ++ Y)
      simp only [List.length_append] at this
      rw [show X.length + u1.length + u2.length = X.length + (u1.length + u2.length) by omega, show X.length + u1.length = X.length + n1 by omega] at this
      rw [this]; simp
    · have : (decide (((X.length + n1 : Nat) : Int) < ((X.length + (u1.length + u2.length) : Nat) : Int)) && decide (((X.length + (u1.length + u2.length) : Nat) : Int) < ((X.length + (u1.length + u2.length) + v1.length : Nat) : Int))) = false := by
        rw [Bool.eq_false_iff]; simp only [ne_eq, Bool.and_eq_true, decide_eq_true_eq]; omega
      rw [this, cond_false]
      rcases Nat.eq_zero_or_pos u2.length with h2 | h2
      · rw [List.length_eq_zero_iff.1 h2]; simp
      · rw [List.length_eq_zero_iff.1 (show v1.length = 0 by omega)]; simp
  have hl2 : (X ++ u1 ++ v1 ++ (u2 ++ v2 ++ Y)).length ≤ most := by simp only [List.length_append]; omega
  have hs1 : (decide ((X.length : Int) < ((X.length + n1 : Nat) : Int)) && decide (((X.length + n1 : Nat) : Int) < (M : Int))) = true → symOk k (X ++ u1 ++ v1 ++ (u2 ++ v2 ++ Y)) (X.length : Int) ((X.length + n1 : Nat) : Int) (M : Int) = true := fun h => by
    simp only [Bool.and_eq_true, decide_eq_true_eq] at h
    have := symOk_of k X u1 v1 (u2 ++ v2 ++ Y) (by omega) (by omega) su.1 sv.1 (by omega) hl2
    rwa [← hMv, show X.length + u1.length = X.length + n1 by omega] at this
  have hsX1 : (bif (decide ((X.length : Int) < ((X.length + n1 : Nat) : Int)) && decide (((X.length + n1 : Nat) : Int) < (M : Int))) then sortX (X ++ u1 ++ v1 ++ (u2 ++ v2 ++ Y)) X.length M else X ++ u1 ++ v1 ++ (u2 ++ v2 ++ Y)) = X ++ isort (u1 ++ v1) ++ (u2 ++ v2 ++ Y) := by
    by_cases h : 0 < u1.length ∧ 0 < v1.length
    · have : (decide ((X.length : Int) < ((X.length + n1 : Nat) : Int)) && decide (((X.length + n1 : Nat) : Int) < (M : Int))) = true := by simp only [Bool.and_eq_true, decide_eq_true_eq]; omega
      rw [this, cond_true, List.append_assoc X u1 v1]
      exact sortX_eq' X (u1 ++ v1) (u2 ++ v2 ++ Y) M (by simp; omega)
    · have : (decide ((X.length : Int) < ((X.length + n1 : Nat) : Int)) && decide (((X.length + n1 : Nat) : Int) < (M : Int))) = false := by rw [Bool.eq_false_iff]; simp only [ne_eq, Bool.and_eq_true, decide_eq_true_eq]; omega
      rw [this, cond_false]
      have : isort (u1 ++ v1) = u1 ++ v1 := isort_same (by
        rcases Nat.eq_zero_or_pos u1.length with h2 | h2
        · rw [List.length_eq_zero_iff.1 h2, List.nil_append]; exact sv.1
        · rw [List.length_eq_zero_iff.1 (show v1.length = 0 by omega), List.append_nil]; exact su.1)
      rw [this]; simp
  have e3 : X ++ isort (u1 ++ v1) ++ (u2 ++ v2 ++ Y) = (X ++ isort (u1 ++ v1)) ++ u2 ++ v2 ++ Y := by simp
  have hl3 : (X ++ isort (u1 ++ v1)).length = M := by rw [List.length_append, isort_len]; simp; omega
  have hs2 : (decide ((M : Int) < ((X.length + (u1.length + u2.length) + v1.length : Nat) : Int)) && decide (((X.length + (u1.length + u2.length) + v1.length : Nat) : Int) < ((X.length + (u1.length + u2.length) + (v1.length + v2.length) : Nat) : Int))) = true → symOk k (X ++ isort (u1 ++ v1) ++ (u2 ++ v2 ++ Y)) (M : Int) ((X.length + (u1.length + u2.length) + v1.length : Nat) : Int) ((X.length + (u1.length + u2.length) + (v1.length + v2.length) : Nat) : Int) = true := fun h => by
    simp only [Bool.and_eq_true, decide_eq_true_eq] at h
    have := symOk_of k (X ++ isort (u1 ++ v1)) u2 v2 Y (by omega) (by omega) su.2.1 sv.2.1 (by omega) (by rw [← e3]; simp only [List.length_append, isort_len]; omega)
    rw [e3]
    rw [hl3] at this
    rwa [show M + u2.length = X.length + (u1.length + u2.length) + v1.length by omega, show X.length + (u1.length + u2.length) + v1.length + v2.length = X.length + (u1.length + u2.length) + (v1.length + v2.length) by omega] at this
  have hsX2 : (bif (decide ((M : Int) < ((X.length + (u1.length + u2.length) + v1.length : Nat) : Int)) && decide (((X.length + (u1.length + u2.length) + v1.length : Nat) : Int) < ((X.length + (u1.length + u2.length) + (v1.length + v2.length) : Nat) : Int))) then sortX (X ++ isort (u1 ++ v1) ++ (u2 ++ v2 ++ Y)) M (X.length + (u1.length + u2.length) + (v1.length + v2.length)) else X ++ isort (u1 ++ v1) ++ (u2 ++ v2 ++ Y)) = X ++ isort (u1 ++ u2 ++ (v1 ++ v2)) ++ Y := by
    have hfin : isort (u1 ++ u2 ++ (v1 ++ v2)) = isort (u1 ++ v1) ++ isort (u2 ++ v2) := by rw [← hlaw]; simp
    rw [hfin]
    by_cases h : 0 < u2.length ∧ 0 < v2.length
    · have : (decide ((M : Int) < ((X.length + (u1.length + u2.length) + v1.length : Nat) : Int)) && decide (((X.length + (u1.length + u2.length) + v1.length : Nat) : Int) < ((X.length + (u1.length + u2.length) + (v1.length + v2.length) : Nat) : Int))) = true := by simp only [Bool.and_eq_true, decide_eq_true_eq]; omega
      rw [this, cond_true, e3, List.append_assoc (X ++ isort (u1 ++ v1)) u2 v2]
      have := sortX_eq' (X ++ isort (u1 ++ v1)) (u2 ++ v2) Y (X.length + (u1.length + u2.length) + (v1.length + v2.length)) (by rw [hl3]; simp; omega)
      rw [hl3] at this
      rw [this]; simp
    · have : (decide ((M : Int) < ((X.length + (u1.length + u2.length) + v1.length : Nat) : Int)) && decide (((X.length + (u1.length + u2.length) + v1.length : Nat) : Int) < ((X.length + (u1.length + u2.length) + (v1.length + v2.length) : Nat) : Int))) = false := by rw [Bool.eq_false_iff]; simp only [ne_eq, Bool.and_eq_true, decide_eq_true_eq]; omega
      rw [this, cond_false]
      have : isort (u2 ++ v2) = u2 ++ v2 := isort_same (by
        rcases Nat.eq_zero_or_pos u2.length with h2 | h2
        · rw [List.length_eq_zero_iff.1 h2, List.nil_append]; exact sv.2.1
        · rw [List.length_eq_zero_iff.1 (show v2.length = 0 by omega), List.append_nil]; exact su.2.1)
      rw [this]; simp
  have imp : ∀ {p q : Bool}, (p = true → q = true) → (!p || q) = true := fun {p q} h => by
    cases p with
    | false => rfl
    | true => rw [h rfl]; rfl
  have hst : runF false uSymL4T (fun a_1 => Int.toNat (a_1.2.2.2.2.2.2.1 - a_1.2.2.2.2.2.1) + 1) ((X.length : Int), ((X.length + (u1.length + u2.length) : Nat) : Int), ((X.length + (u1.length + u2.length) + (v1.length + v2.length) : Nat) : Int), (M : Int), ((M + (X.length + (u1.length + u2.length)) : Nat) : Int), (lo : Int), (hi : Int), ((M + (X.length + (u1.length + u2.length)) - 1 : Nat) : Int), X ++ (u1 ++ u2) ++ (v1 ++ v2) ++ Y, ()) = some (false, ((X.length : Int), ((X.length + (u1.length + u2.length) : Nat) : Int), ((X.length + (u1.length + u2.length) + (v1.length + v2.length) : Nat) : Int), (M : Int), ((M + (X.length + (u1.length + u2.length)) : Nat) : Int), ((X.length + n1 : Nat) : Int), ((X.length + n1 : Nat) : Int), ((M + (X.length + (u1.length + u2.length)) - 1 : Nat) : Int), X ++ (u1 ++ u2) ++ (v1 ++ v2) ++ Y, ())) := hrun
  simp only [uSymT, ownSt, RT.val, w0, w1, w2, w3, w4, Bool.not_false, Bool.true_or, cond_true, cond_false, hlh.1, hlh.2, hst, okB, getO, w5, imp hrot, Int.toNat_natCast, hrotX, imp hs1, hsX1, imp hs2, hsX2]
/-- Any two sorted blocks. -/
theorem sym_run (k : Int) (X U V Y : List Cell) (hU : 0 < U.length) (hV : 0 < V.length) (sU : Srt U) (sV : Srt V) (hk : ((U.length + V.length : Nat) : Int) ≤ k + 1) (hm : (X ++ U ++ V ++ Y).length ≤ most) :
    (uSymT k (X ++ U ++ V ++ Y) X.length (X.length + U.length : Nat) (X.length + U.length + V.length : Nat)).val = some (X ++ isort (U ++ V) ++ Y) := by
  by_cases h1 : U.length = 1
  · obtain ⟨x, rfl⟩ := List.length_eq_one_iff.1 h1
    exact sym_one k X V Y x hV sV hm
  · by_cases h2 : V.length = 1
    · obtain ⟨y, rfl⟩ := List.length_eq_one_iff.1 h2
      exact sym_last k X U Y y (by omega) sU hm
    · exact sym_gen k X U V Y (by omega) (by omega) sU sV hk hm
theorem symRE_ok : ∀ n : Nat, EntryOk Try.prog 61 (symRE (n : Int))
  | 0 => EntryOk.st_never Try.call61 fun a => by
    obtain ⟨l, a, m, b⟩ := a
    have : symOk ((0 : Nat) : Int) l a m b = false := by
      cases h : symOk ((0 : Nat) : Int) l a m b with
      | false => rfl
      | true =>
        exfalso
        simp only [symOk, rotOk, Bool.and_eq_true, decide_eq_true_eq, Nat.ble_eq] at h
        obtain ⟨⟨⟨⟨⟨⟨⟨p1, p2⟩, p3⟩, p4⟩, p5⟩, p6⟩, p7⟩, p8⟩ := h
        omega
    simp only [this]
  | n + 1 => uSym_law (n : Int) (symRE_ok n) fun a h1 h2 hp => by
    obtain ⟨l, a, m, b⟩ := a
    have hp : symOk ((n + 1 : Nat) : Int) l a m b = true := by cases h : symOk ((n + 1 : Nat) : Int) l a m b <;> simp_all
    simp only [symOk, rotOk, Bool.and_eq_true, decide_eq_true_eq, Nat.ble_eq] at hp
    obtain ⟨⟨⟨⟨⟨⟨⟨p1, p2⟩, p3⟩, p4⟩, p5⟩, p6⟩, p7⟩, p8⟩ := hp
    obtain ⟨a, rfl⟩ := Int.eq_ofNat_of_zero_le p1
    obtain ⟨m, rfl⟩ := Int.eq_ofNat_of_zero_le (show (0 : Int) ≤ m by omega)
    obtain ⟨b, rfl⟩ := Int.eq_ofNat_of_zero_le (show (0 : Int) ≤ b by omega)
    obtain ⟨X, U, V, Y, rfl, rfl, rfl, rfl⟩ := parts4 l a m b (by omega) (by omega) (by omega)
    obtain ⟨s1, s2⟩ := sub3 X U V Y
    simp only [Int.toNat_natCast, s1, s2] at p7 p8
    have := sym_run (n : Int) X U V Y (by omega) (by omega) (srtB_iff.1 p7) (srtB_iff.1 p8) (by omega) p5
    simp only [Int.toNat_natCast]
    rw [this, List.append_assoc X U V, sortX_eq' X (U ++ V) Y _ (by simp; omega)]
def uSym1Ok (l : List Cell) (a m b : Int) : Bool := rotOk l a m b && srtB ((l.drop a.toNat).take (m.toNat - a.toNat)) && srtB ((l.drop m.toNat).take (b.toNat - m.toNat))
def uSym1E : Entry := stE uRotRb uRotEl 48 uRotTs (fun a => some (uSym1Ok a.1 a.2.1 a.2.2.1 a.2.2.2)) (fun a => sortX a.1 a.2.1.toNat a.2.2.2.toNat)
theorem uSym1_ok : EntryOk Try.prog 61 uSym1E := stE_congr (symRE_ok most) fun a h1 h2 hp => ⟨by
  obtain ⟨l, a, m, b⟩ := a
  have hp : uSym1Ok l a m b = true := by cases h : uSym1Ok l a m b <;> simp_all
  simp only [uSym1Ok, Bool.and_eq_true] at hp
  have hk : decide (b - a ≤ ((most : Nat) : Int)) = true := by
    have := hp.1.1
    simp only [rotOk, Bool.and_eq_true, decide_eq_true_eq, Nat.ble_eq] at this
    obtain ⟨⟨⟨⟨p1, p2⟩, p3⟩, p4⟩, p5⟩ := this
    refine decide_eq_true ?_
    have key : ∀ (a b : Int) (n : Nat), 0 ≤ a → b ≤ (n : Int) → n ≤ most → b - a ≤ ((most : Nat) : Int) := by intros; omega
    exact key a b _ p1 p4 p5
  simp only [symOk, hp.1.1, hp.1.2, hp.2, hk, Bool.and_self]; simp, rfl⟩
end
end Go.Proofs.Ytfejikddclgkcaa
