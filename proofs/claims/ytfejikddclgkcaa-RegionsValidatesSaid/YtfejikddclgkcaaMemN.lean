/-
  The statements on memories and regions, but for those that hold loops: each returns true. Conditions: none.
-/
import Derived.Test.YtfejikddclgkcaaMemM
open Go Go.S3 Go.Proofs Go.Proofs.Cells
set_option linter.unusedVariables false
set_option linter.unusedSimpArgs false
set_option maxRecDepth 100000
namespace Go.Proofs.Ytfejikddclgkcaa
noncomputable section
theorem lval {t : RT (Option Bool)} (h : t.val = some true) : okB t.val = true ∧ getO false t.val = true := by rw [h]; exact ⟨rfl, rfl⟩
set_option maxHeartbeats 1000000 in
theorem validates_law (l : List Cell) (n : List Int) (t : Int) : lMVC l n t = true ∧ lMV l n t = true := by
  refine lval ?_
  cases hg : (decide (iN l.length > 60) || decide (iN n.length > 100)) with
  | true => simp only [lMVT, RT.val, hg, knownM.1, knownM.2, Bool.not_true, Bool.false_or, cond_true]
  | false =>
    rw [Bool.or_eq_false_iff, decide_eq_false_iff_not, decide_eq_false_iff_not] at hg
    have hl : l.length ≤ 60 := by have := hg.1; simp only [iN] at this; omega
    obtain ⟨c1, _, c2⟩ := nCells_in (from_ok n) (by decide) 12 (by decide)
    have hg' : (decide (iN l.length > 60) || decide (iN n.length > 100)) = false := by rw [Bool.or_eq_false_iff, decide_eq_false_iff_not, decide_eq_false_iff_not]; exact hg
    have s1 := smC_ok (l := l) (by omega)
    have s2 := smC_ok (l := (nCells (n, 0) 12).1) (Nat.le_trans c2 (by decide))
    have s3 := smC_ok (l := normX (nCells (n, 0) 12).1) (Nat.le_trans (norm_small c2) (by decide))
    have c1 : nCellsC (n, 0) 12 = true := c1
    simp only [lMVT, RT.val, hg', knownM.1, knownM.2, c1, s1, s2, s3, beq_self_eq_true, bne_self_eq_false, Bool.not_true, Bool.not_false, Bool.false_or, Bool.or_false, Bool.true_or, Bool.or_true, Bool.or_self, cond_true, cond_false]
theorem decide_self {α : Type} [DecidableEq α] (a : α) : decide (a = a) = true := decide_eq_true rfl
theorem vld_norm (l : List Cell) : vldB (normX l) = true := vldB_iff.2 (normX_vld l)
theorem vld_put (l : List Cell) (c : Cell) : vldB (putX (normX l) c) = true := vldB_iff.2 (putX_vld (normX_vld l))
set_option maxHeartbeats 1000000 in
theorem normalizes_law (l : List Cell) (n : List Int) (t v : Int) : lMNC l n t v = true ∧ lMN l n t v = true := by
  refine lval ?_
  cases hg : (decide (iN l.length > 60) || decide (iN n.length > 100)) with
  | true => simp only [lMNT, RT.val, hg, knownM.1, knownM.2, Bool.not_true, Bool.false_or, cond_true]
  | false =>
    have hg' := hg
    rw [Bool.or_eq_false_iff, decide_eq_false_iff_not, decide_eq_false_iff_not] at hg
    have hl : l.length ≤ 60 := by have := hg.1; simp only [iN] at this; omega
    obtain ⟨c1, _, c2⟩ := nCells_in (from_ok n) (by decide) 12 (by decide)
    have c1 : nCellsC (n, 0) 12 = true := c1
    have c2 : (nCells (n, 0) 12).1.length ≤ 12 := c2
    have s1 := smC_ok (l := l) (by omega)
    have s2 := smC_ok (l := (nCells (n, 0) 12).1) (by omega)
    have s3 := smC_ok (l := normX (nCells (n, 0) 12).1) (Nat.le_trans (norm_small c2) (by decide))
    have s4 := smC_ok (l := normX l) (Nat.le_trans (norm_small hl) (by decide))
    have s5 := smC_ok (l := putX (normX l) (t, v)) (Nat.le_trans (put_small hl) (by decide))
    have s6 := smC_ok (l := putX (normX (nCells (n, 0) 12).1) (t, v)) (Nat.le_trans (put_small c2) (by decide))
    simp only [lMNT, RT.val, hg', knownM.1, knownM.2, c1, s1, s2, s3, s4, s5, s6, decide_self, decide_true, vld_norm, beq_self_eq_true, bne_self_eq_false, Bool.not_true, Bool.not_false, Bool.false_or, Bool.or_false, Bool.true_or, Bool.or_true, Bool.or_self, cond_true, cond_false]
theorem put_put (m : List Cell) (a x y : Int) : putX (normX (putX (normX m) (a, x))) (a, y) = putX (normX m) (a, y) := by
  rw [normX_same (putX_vld (normX_vld m))]
  refine vld_ext (putX_vld (putX_vld (normX_vld m))) (putX_vld (normX_vld m)) fun q => ?_
  rw [putX_get (putX_vld (normX_vld m)), putX_get (normX_vld m), putX_get (normX_vld m)]
  by_cases h : a = q <;> simp [h]
theorem put_comm (m : List Cell) (a b x y : Int) (h : a ≠ b) : putX (normX (putX (normX m) (a, x))) (b, y) = putX (normX (putX (normX m) (b, y))) (a, x) := by
  rw [normX_same (putX_vld (normX_vld m)), normX_same (putX_vld (normX_vld m))]
  refine vld_ext (putX_vld (putX_vld (normX_vld m))) (putX_vld (putX_vld (normX_vld m))) fun q => ?_
  rw [putX_get (putX_vld (normX_vld m)), putX_get (normX_vld m), putX_get (putX_vld (normX_vld m)), putX_get (normX_vld m)]
  simp only
  by_cases h1 : b = q
  · by_cases h2 : a = q
    · omega
    · simp [h1, h2]
  · simp [h1]
theorem exchanges_law (n : List Int) (a b x y : Int) : lMEC n a b x y = true ∧ lME n a b x y = true := by
  refine lval ?_
  cases hg : decide (iN n.length > 100) with
  | true => simp only [lMET, RT.val, hg, knownM.1, knownM.2, Bool.not_true, Bool.false_or, cond_true]
  | false =>
    obtain ⟨c1, _, c2⟩ := nCells_in (from_ok n) (by decide) 12 (by decide)
    have c1 : nCellsC (n, 0) 12 = true := c1
    have c2 : (nCells (n, 0) 12).1.length ≤ 12 := c2
    have s2 := smC_ok (l := (nCells (n, 0) 12).1) (by omega)
    have s3 : ∀ p, smC (putX (normX (nCells (n, 0) 12).1) p) = true := fun p => smC_ok (Nat.le_trans (put_small c2) (by decide))
    have s4 : ∀ p q, smC (putX (normX (putX (normX (nCells (n, 0) 12).1) p)) q) = true := fun p q => smC_ok (Nat.le_trans (put_small (put_small c2)) (by decide))
    cases he : (a == b) with
    | true =>
      have : a = b := by simpa using he
      subst this
      simp only [lMET, RT.val, hg, knownM.1, knownM.2, c1, s2, s3, s4, put_put, beq_self_eq_true, decide_self, decide_true, Bool.not_true, Bool.not_false, Bool.false_or, Bool.or_false, Bool.true_or, Bool.or_true, Bool.or_self, Bool.and_self, cond_true, cond_false]
    | false =>
      have hne : a ≠ b := by simpa using he
      simp only [lMET, RT.val, hg, knownM.1, knownM.2, c1, s2, s3, s4, put_comm _ a b x y hne, he, decide_self, decide_true, Bool.not_true, Bool.not_false, Bool.false_or, Bool.or_false, Bool.true_or, Bool.or_true, Bool.or_self, Bool.and_self, cond_true, cond_false]
/-! ### regions -/
set_option maxHeartbeats 1000000 in
theorem writes_law (l : List RegionT) (c : List Cell) (n : List Int) (t v : Int) : lRWC l c n t v = true ∧ lRW l c n t v = true := by
  refine lval ?_
  cases hg : (decide (iN l.length > 40) || (decide (iN c.length > 60) || decide (iN n.length > 100))) with
  | true => simp only [lRWT, RT.val, hg, knownR.1, knownR.2, Bool.not_true, Bool.false_or, cond_true]
  | false =>
    have hg' := hg
    rw [Bool.or_eq_false_iff, Bool.or_eq_false_iff, decide_eq_false_iff_not, decide_eq_false_iff_not] at hg
    have hl : l.length ≤ 40 := by have := hg.1; simp only [iN] at this; omega
    have hc : c.length ≤ 60 := by have := hg.2.1; simp only [iN] at this; omega
    obtain ⟨r1, rb, r2⟩ := nRegionsB_in (from_ok n) (by decide) 6 (by decide)
    obtain ⟨c1, cb, c2⟩ := nCells_in rb (by decide) 10 (by decide)
    obtain ⟨w1, _⟩ := nWord_in cb (by decide)
    have r1 : nRegionsBC (n, 0) 6 = true := r1
    have r2 : (nRegionsB (n, 0) 6).1.length ≤ 6 := r2
    have c1 : nCellsC (nRegionsB (n, 0) 6).2 10 = true := c1
    have c2 : (nCells (nRegionsB (n, 0) 6).2 10).1.length ≤ 10 := c2
    have w1 : nWordC (nCells (nRegionsB (n, 0) 6).2 10).2 = true := w1
    have s1 := smG_ok (l := l) (by omega)
    have s2 := smC_ok (l := c) (by omega)
    have s3 := smG_ok (l := (nRegionsB (n, 0) 6).1) (by omega)
    have s4 := smC_ok (l := (nCells (nRegionsB (n, 0) 6).2 10).1) (by omega)
    have s5 : ∀ a, smC (writeMX l c a v) = true := fun a => smC_ok (Nat.le_trans (write_small l a v hc) (by decide))
    have s6 : ∀ a, smC (writeMX (nRegionsB (n, 0) 6).1 (nCells (nRegionsB (n, 0) 6).2 10).1 a v) = true := fun a => smC_ok (Nat.le_trans (write_small _ a v c2) (by decide))
    simp only [lRWT, RT.val, hg', knownR.1, knownR.2, r1, c1, w1, s1, s2, s3, s4, s5, s6, decide_self, decide_true, Bool.not_true, Bool.not_false, Bool.false_or, Bool.or_false, Bool.true_or, Bool.or_true, Bool.or_self, Bool.and_self, cond_true, cond_false]
set_option maxHeartbeats 2000000 in
theorem reads_law (l : List RegionT) (c : List Cell) (n : List Int) (t : Int) : lRRC l c n t = true ∧ lRR l c n t = true := by
  refine lval ?_
  cases hg : (decide (iN l.length > 40) || (decide (iN c.length > 60) || decide (iN n.length > 100))) with
  | true => simp only [lRRT, RT.val, hg, knownR.1, knownR.2, Bool.not_true, Bool.false_or, cond_true]
  | false =>
    have hg' := hg
    rw [Bool.or_eq_false_iff, Bool.or_eq_false_iff, decide_eq_false_iff_not, decide_eq_false_iff_not] at hg
    have hl : l.length ≤ 40 := by have := hg.1; simp only [iN] at this; omega
    have hc : c.length ≤ 60 := by have := hg.2.1; simp only [iN] at this; omega
    obtain ⟨r1, rb, r2⟩ := nRegionsB_in (from_ok n) (by decide) 6 (by decide)
    obtain ⟨c1, cb, c2⟩ := nCells_in rb (by decide) 10 (by decide)
    obtain ⟨w1, _⟩ := nWord_in cb (by decide)
    have r1 : nRegionsBC (n, 0) 6 = true := r1
    have r2 : (nRegionsB (n, 0) 6).1.length ≤ 6 := r2
    have c1 : nCellsC (nRegionsB (n, 0) 6).2 10 = true := c1
    have c2 : (nCells (nRegionsB (n, 0) 6).2 10).1.length ≤ 10 := c2
    have w1 : nWordC (nCells (nRegionsB (n, 0) 6).2 10).2 = true := w1
    have s1 := smG_ok (l := l) (by omega)
    have s2 := smC_ok (l := c) (by omega)
    have s3 := smG_ok (l := (nRegionsB (n, 0) 6).1) (by omega)
    have s4 := smC_ok (l := (nCells (nRegionsB (n, 0) 6).2 10).1) (by omega)
    simp only [lRRT, RT.val, hg', knownR.1, knownR.2, r1, c1, w1, s1, s2, s3, s4, bne_self_eq_false, beq_self_eq_true, Bool.not_true, Bool.not_false, Bool.false_or, Bool.or_false, Bool.true_or, Bool.or_true, Bool.or_self, Bool.and_self, cond_true, cond_false]
/-! ### regions: what is kept -/
theorem read_write (l : List RegionT) (m : List Cell) (t v q : Int) : readMX l (writeMX l m t v) q = bif decide (findX l q < 0) then 255 else bif decide (findX l t ≥ 0) && (R.get GR l (findX l t)).2.2.1 then (if t = q then v else getX m q) else getX m q := by
  unfold readMX writeMX
  cases decide (findX l q < 0) with
  | true => rfl
  | false =>
    cases decide (findX l t ≥ 0) && (R.get GR l (findX l t)).2.2.1 with
    | true => simp only [cond_true, cond_false]; rw [putX_get (normX_vld m), normX_get]
    | false => simp only [cond_true, cond_false]; rw [normX_get]
set_option maxHeartbeats 1000000 in
theorem keepsR_law (n : List Int) (other v : Int) : lRKC n other v = true ∧ lRK n other v = true := by
  refine lval ?_
  cases hg : decide (iN n.length > 100) with
  | true => simp only [lRKT, RT.val, hg, knownR.1, knownR.2, Bool.not_true, Bool.false_or, cond_true]
  | false =>
    obtain ⟨r1, rb, r2⟩ := nRegionsB_in (from_ok n) (by decide) 5 (by decide)
    obtain ⟨c1, cb, c2⟩ := nCells_in rb (by decide) 10 (by decide)
    obtain ⟨w1, _⟩ := nWord_in cb (by decide)
    have r1 : nRegionsBC (n, 0) 5 = true := r1
    have r2 : (nRegionsB (n, 0) 5).1.length ≤ 5 := r2
    have c1 : nCellsC (nRegionsB (n, 0) 5).2 10 = true := c1
    have c2 : (nCells (nRegionsB (n, 0) 5).2 10).1.length ≤ 10 := c2
    have w1 : nWordC (nCells (nRegionsB (n, 0) 5).2 10).2 = true := w1
    have s3 := smG_ok (l := (nRegionsB (n, 0) 5).1) (by omega)
    have s4 := smC_ok (l := (nCells (nRegionsB (n, 0) 5).2 10).1) (by omega)
    have s6 : ∀ a, smC (writeMX (nRegionsB (n, 0) 5).1 (nCells (nRegionsB (n, 0) 5).2 10).1 a v) = true := fun a => smC_ok (Nat.le_trans (write_small _ a v c2) (by decide))
    obtain ⟨l, hl⟩ : ∃ l, l = (nRegionsB (n, 0) 5).1 := ⟨_, rfl⟩
    obtain ⟨m, hm⟩ : ∃ m, m = (nCells (nRegionsB (n, 0) 5).2 10).1 := ⟨_, rfl⟩
    obtain ⟨t, ht⟩ : ∃ t, t = (nWord (nCells (nRegionsB (n, 0) 5).2 10).2).1 := ⟨_, rfl⟩
    have hrw := read_write l m t v
    have hread : ∀ q, readMX l m q = bif decide (findX l q < 0) then 255 else getX m q := fun q => rfl
    simp only [lRKT, RT.val, hg, knownR.1, knownR.2, r1, c1, w1, s3, s4, s6, ← hl, ← hm, ← ht, hrw, hread, Bool.not_true, Bool.not_false, Bool.false_or, Bool.or_false, Bool.true_or, Bool.or_true, Bool.or_self, Bool.and_self, cond_true, cond_false]
    rw [← hl] at s3
    rw [← hm] at s4
    rw [← hl, ← hm] at s6
    rcases (findX_in l t).2 with h1 | ⟨i, hi, he⟩
    · have d1 : decide (findX l t < 0) = true := by simpa using h1
      have d2 : decide (findX l t ≥ 0) = false := by simp; omega
      simp only [d1, d2, s3, s4, s6, Bool.false_and, Bool.not_false, Bool.not_true, Bool.true_or, Bool.or_true, Bool.false_or, Bool.or_false, cond_true, cond_false, bne_self_eq_false, beq_self_eq_true, Bool.and_false, Bool.true_and, Bool.or_self, Bool.and_self, Bool.cond_self]
    · have d1 : decide (findX l t < 0) = false := by rw [he]; simp
      have d2 : decide (findX l t ≥ 0) = true := by rw [he]; simp
      have d3 : decide (findX l t < iN l.length) = true := by rw [he]; simp [iN, hi]
      have d4 := findX_rng l t (by rw [he]; simp)
      cases hram : (R.get GR l (findX l t)).2.2.1 with
      | false =>
        simp only [d1, d2, d3, d4, hram, s3, s4, s6, Bool.and_false, Bool.and_true, Bool.not_false, Bool.not_true, Bool.true_or, Bool.or_true, Bool.false_or, Bool.or_false, cond_true, cond_false, bne_self_eq_false, beq_self_eq_true, Bool.true_and, Bool.or_self, Bool.and_self, Bool.cond_self]
      | true =>
        cases ho : (other == t) with
        | true => simp only [d1, d2, d3, d4, hram, s3, s4, s6, ho, if_true, Bool.and_false, Bool.and_true, Bool.not_false, Bool.not_true, Bool.true_or, Bool.or_true, Bool.false_or, Bool.or_false, cond_true, cond_false, bne_self_eq_false, beq_self_eq_true, Bool.true_and, Bool.or_self, Bool.and_self, Bool.false_and]
        | false =>
          have hne : ¬ t = other := fun e => by rw [e] at ho; simp at ho
          simp only [d1, d2, d3, d4, hram, s3, s4, s6, ho, if_true, if_neg hne, Bool.and_false, Bool.and_true, Bool.not_false, Bool.not_true, Bool.true_or, Bool.or_true, Bool.false_or, Bool.or_false, cond_true, cond_false, bne_self_eq_false, beq_self_eq_true, Bool.true_and, Bool.or_self, Bool.and_self, Bool.false_and]
theorem find_app (a b : List RegionT) (t : Int) (h : ∃ x ∈ a, hitB t x = true) : findX (a ++ b) t = findX a t ∧ R.get GR (a ++ b) (findX a t) = R.get GR a (findX a t) := by
  have hlt : a.findIdx (hitB t) < a.length := List.findIdx_lt_length_of_exists h
  have he : (a ++ b).findIdx (hitB t) = a.findIdx (hitB t) := by
    rw [List.findIdx_append, if_pos hlt]
  have h1 : findX (a ++ b) t = findX a t := by
    unfold findX
    rw [he, if_pos hlt, if_pos (by simp; omega)]
  refine ⟨h1, ?_⟩
  unfold findX
  rw [if_pos hlt, get_rg, get_rg]
  simp only [rg, List.getD_eq_getElem?_getD, List.getElem?_append_left hlt]
set_option maxHeartbeats 1000000 in
theorem covers_law (n : List Int) (t v : Int) (ht : inR .u16 t) : lRCC n t v = true ∧ lRC n t v = true := by
  have hms := mst
  refine lval ?_
  cases hg : decide (iN n.length > 100) with
  | true => simp only [lRCT, RT.val, hg, knownR.1, knownR.2, Bool.not_true, Bool.false_or, cond_true]
  | false =>
    obtain ⟨r1, rb, r2⟩ := nRegionsB_in (from_ok n) (by decide) 4 (by decide)
    obtain ⟨c1, cb, c2⟩ := nCells_in rb (by decide) 10 (by decide)
    obtain ⟨f1, fb⟩ := nFlag_in cb (by decide)
    obtain ⟨n1, nb, _⟩ := nNext_in fb (by decide) 4 (by decide) (by decide)
    obtain ⟨q1, qb, q2⟩ := nRegionsB_in nb (by decide) 3 (by decide)
    have r1 : nRegionsBC (n, 0) 4 = true := r1
    have r2 : (nRegionsB (n, 0) 4).1.length ≤ 4 := r2
    have c1 : nCellsC (nRegionsB (n, 0) 4).2 10 = true := c1
    have c2 : (nCells (nRegionsB (n, 0) 4).2 10).1.length ≤ 10 := c2
    have f1 : nFlagC (nCells (nRegionsB (n, 0) 4).2 10).2 = true := f1
    have n1 : nNextC (nFlag (nCells (nRegionsB (n, 0) 4).2 10).2).2 4 = true := n1
    have q1 : nRegionsBC (nNext (nFlag (nCells (nRegionsB (n, 0) 4).2 10).2).2 4).2 3 = true := q1
    have q2 : (nRegionsB (nNext (nFlag (nCells (nRegionsB (n, 0) 4).2 10).2).2 4).2 3).1.length ≤ 3 := q2
    obtain ⟨l, hl⟩ : ∃ l, l = (nRegionsB (n, 0) 4).1 := ⟨_, rfl⟩
    obtain ⟨m, hm⟩ : ∃ m, m = (nCells (nRegionsB (n, 0) 4).2 10).1 := ⟨_, rfl⟩
    obtain ⟨k, hk⟩ : ∃ k, k = (nRegionsB (nNext (nFlag (nCells (nRegionsB (n, 0) 4).2 10).2).2 4).2 3).1 := ⟨_, rfl⟩
    obtain ⟨x, hx⟩ : ∃ x : RegionT, x = (0, 65535, (nFlag (nCells (nRegionsB (n, 0) 4).2 10).2).1, (nNext (nFlag (nCells (nRegionsB (n, 0) 4).2 10).2).2 4).1) := ⟨_, rfl⟩
    rw [← hl] at r2
    rw [← hm] at c2
    rw [← hk] at q2
    have s1 := smG_ok (l := l ++ [x]) (by simp; omega)
    have s2 := smG_ok (l := l ++ [x] ++ k) (by simp; omega)
    have s3 := smC_ok (l := m) (by omega)
    have s4 : ∀ l, smC (writeMX l m t v) = true := fun l => smC_ok (Nat.le_trans (write_small l t v c2) (by decide))
    have b1 : Nat.ble l.length most = true := ble_le (by omega)
    have b2 : Nat.ble (l ++ [x]).length most = true := ble_le (by simp; omega)
    have b3 : Nat.ble (l ++ [x] ++ k).length most = true := ble_le (by simp; omega)
    have hcov : ∃ y ∈ l ++ [x], hitB t y = true := by
      rw [inR_u16] at ht
      exact ⟨x, by simp, by rw [hx]; simp [hitB]; omega⟩
    obtain ⟨e1, e2⟩ := find_app (l ++ [x]) k t hcov
    have g1 : readMX (l ++ [x] ++ k) m t = readMX (l ++ [x]) m t := by unfold readMX; rw [e1]
    have g2 : waitsX (l ++ [x] ++ k) t = waitsX (l ++ [x]) t := by unfold waitsX; rw [e1, e2]
    have g3 : writeMX (l ++ [x] ++ k) m t v = writeMX (l ++ [x]) m t v := by unfold writeMX; rw [e1, e2]
    simp only [lRCT, RT.val, hg, knownR.1, knownR.2, r1, c1, f1, n1, q1, ← hl, ← hm, ← hk, ← hx, List.nil_append, s1, s2, s3, s4, b1, b2, b3, g1, g2, g3, decide_true, beq_self_eq_true, Bool.not_true, Bool.not_false, Bool.false_or, Bool.or_false, Bool.true_or, Bool.or_true, Bool.or_self, Bool.and_self, cond_true, cond_false]
set_option maxHeartbeats 1000000 in
theorem validatesR_law (l : List RegionT) (n : List Int) (r : RegionT) (t more : Int) : lRVC l n r t more = true ∧ lRV l n r t more = true := by
  have hms := mst
  refine lval ?_
  cases hg : (decide (iN l.length > 40) || decide (iN n.length > 100)) with
  | true => simp only [lRVT, RT.val, hg, knownR.1, knownR.2, Bool.not_true, Bool.false_or, cond_true]
  | false =>
    have hg' := hg
    rw [Bool.or_eq_false_iff, decide_eq_false_iff_not, decide_eq_false_iff_not] at hg
    have hll : l.length ≤ 40 := by have := hg.1; simp only [iN] at this; omega
    obtain ⟨r1, rb, r2⟩ := nRegionsB_in (from_ok n) (by decide) 18 (by decide)
    have r1 : nRegionsBC (n, 0) 18 = true := r1
    have r2 : (nRegionsB (n, 0) 18).1.length ≤ 18 := r2
    obtain ⟨m, hm⟩ : ∃ m, m = (nRegionsB (n, 0) 18).1 := ⟨_, rfl⟩
    rw [← hm] at r2
    have s1 := smG_ok (l := l) (by omega)
    have s2 := smG_ok (l := m) (by omega)
    have s3 : ∀ x, smG ([x] ++ m) = true := fun x => smG_ok (by simp; omega)
    have s4 : ∀ i x, smG (setI m i x) = true := fun i x => smG_ok (by simp [setI]; omega)
    have b1 : Nat.ble m.length most = true := ble_le (by omega)
    have b2 : ∀ x : RegionT, Nat.ble ([x] ++ m).length most = true := fun x => ble_le (by simp; omega)
    obtain ⟨p1, _⟩ := mPlace_eq more 3 (by decide) (by decide)
    cases hd : decide (iN m.length > 0) with
    | false =>
      simp only [lRVT, RT.val, hg', knownR.1, knownR.2, r1, ← hm, List.nil_append, hd, s1, s2, s3, s4, b1, b2, p1, beq_self_eq_true, decide_true, Bool.not_true, Bool.not_false, Bool.false_or, Bool.or_false, Bool.true_or, Bool.or_true, Bool.or_self, Bool.and_self, cond_true, cond_false]
    | true =>
      have hpos : 0 < m.length := by simpa [iN] using hd
      obtain ⟨p2, p3⟩ := mPlace_eq t (iN m.length) (by simp only [iN]; omega) (by simp only [iN]; omega)
      have p4 : inRng (mPlace t (iN m.length)) m.length = true := by
        rw [p3]
        have hq : (0 : Int) < iN m.length := by simp only [iN]; omega
        exact inRng_iff.2 ⟨Int.emod_nonneg _ (by omega), Int.emod_lt_of_pos _ hq⟩
      simp only [lRVT, RT.val, hg', knownR.1, knownR.2, r1, ← hm, List.nil_append, hd, s1, s2, s3, s4, b1, b2, p1, p2, p4, beq_self_eq_true, decide_true, Bool.not_true, Bool.not_false, Bool.false_or, Bool.or_false, Bool.true_or, Bool.or_true, Bool.or_self, Bool.and_self, cond_true, cond_false]
/-! ### loops -/
theorem load_el (t : Int) (b : List Int) (n i : Nat) (h : i < n) : el (loadL t b n) i = (IntKind.wrap .u16 (t + IntKind.wrap .u16 (i : Int)), b.getD i 0) := by
  simp [el, loadL, h]
theorem load_get (t : Int) (b : List Int) (hb : b.length ≤ 300) (i : Nat) (hi : i < b.length) : getX (loadX t b) (IntKind.wrap .u16 (t + IntKind.wrap .u16 (i : Int))) = b.getD i 0 := by
  unfold loadX
  rw [normX_get]
  have hl := loadL_len t b b.length
  have e := load_el t b b.length i hi
  have h0 := getX_at (m := loadL t b b.length) (t := IntKind.wrap .u16 (t + IntKind.wrap .u16 (i : Int))) (i := i) (by rw [hl]; exact hi) (congrArg Prod.fst e) (fun k h1 h2 => by
    rw [hl] at h2
    rw [load_el t b b.length k h2]
    simp only [wrap_u16]
    omega)
  rw [h0, e]
theorem loads_law (t : Int) (b : List Int) : lMLC t b = true ∧ lML t b = true := by
  have hms := mst
  refine lval ?_
  cases hg : decide (iN b.length > 300) with
  | true => simp only [lMLT, RT.val, hg, knownM.1, knownM.2, Bool.not_true, Bool.false_or, cond_true]
  | false =>
    have hb : b.length ≤ 300 := by rw [decide_eq_false_iff_not] at hg; simp only [iN] at hg; omega
    have s1 := smB_ok (l := b) (by omega)
    have hlen : (loadX t b).length ≤ 300 := by unfold loadX; exact norm_small (by rw [loadL_len]; exact hb)
    have s2 := smC_ok (l := loadX t b) (by omega)
    obtain ⟨r, hr, h1, hR⟩ := runF_ind (fl := true) (t := lMLL0T) (fuel := fun a => 1000000000000)
      (fun a => ∃ i : Nat, i ≤ b.length ∧ a = (t, b, false, loadX t b, (b.length : Int), (i : Int), ()))
      (fun a => Int.toNat (a.2.2.2.2.1 - a.2.2.2.2.2.1)) (fun r => r.1 = false ∧ ∃ i : Nat, r.2 = (t, b, false, loadX t b, (b.length : Int), (i : Int), ()))
      (by
        rintro a ⟨i, hi, rfl⟩
        by_cases hlt : i < b.length
        · left
          have d : decide ((i : Int) < (b.length : Int)) = true := by simpa using hlt
          have r1 := rng_nat b i hlt
          have g := get_d b i
          have hget := load_get t b hb i hlt
          refine ⟨(t, b, false, loadX t b, (b.length : Int), ((i + 1 : Nat) : Int), ()), ?_, ⟨i + 1, hlt, rfl⟩, by simp only; omega⟩
          simp only [lMLL0T, RT.val, d, r1, s2, g, hget, bne_self_eq_false, Bool.not_true, Bool.false_or, cond_true, cond_false, wadd1 i (by omega)]
        · right; left
          have d : decide ((i : Int) < (b.length : Int)) = false := by simpa using hlt
          exact ⟨_, by simp only [lMLL0T, RT.val, d, cond_false], rfl, i, rfl⟩)
      (t, b, false, loadX t b, iN b.length, 0, ()) ⟨0, Nat.zero_le _, rfl⟩ (by simp only [iN]; omega)
    obtain ⟨i, hR⟩ := hR
    obtain ⟨r1, r2⟩ := r
    simp only at h1 hR
    subst h1 hR
    simp only [lMLT, RT.val, hg, knownM.1, knownM.2, s1, hr, okB, getO, s2, decide_true, Bool.not_true, Bool.not_false, Bool.false_or, Bool.or_false, Bool.true_or, Bool.or_true, Bool.or_self, Bool.and_self, cond_true, cond_false]
theorem keepsM_law (n : List Int) (t other v : Int) : lMKC n t other v = true ∧ lMK n t other v = true := by
  have hms := mst
  refine lval ?_
  cases hg : decide (iN n.length > 100) with
  | true => simp only [lMKT, RT.val, hg, knownM.1, knownM.2, Bool.not_true, Bool.false_or, cond_true]
  | false =>
    obtain ⟨c1, _, c2⟩ := nCells_in (from_ok n) (by decide) 12 (by decide)
    have c1 : nCellsC (n, 0) 12 = true := c1
    have c2 : (nCells (n, 0) 12).1.length ≤ 12 := c2
    obtain ⟨m, hm⟩ : ∃ m, m = (nCells (n, 0) 12).1 := ⟨_, rfl⟩
    obtain ⟨L, hL⟩ : ∃ L, L = (nCells (n, 0) 12).2.1 := ⟨_, rfl⟩
    obtain ⟨N, hN⟩ : ∃ N, N = (nCells (n, 0) 12).2.2 := ⟨_, rfl⟩
    rw [← hm] at c2
    obtain ⟨x, hx⟩ : ∃ x : List Cell, x = [(other, 0), (IntKind.u16.wrap (t + 1), 0)] ++ m := ⟨_, rfl⟩
    have hxl : x.length ≤ 14 := by rw [hx]; simp; omega
    obtain ⟨p, hp⟩ : ∃ p, p = putX (normX m) (t, v) := ⟨_, rfl⟩
    have s1 := smC_ok (l := m) (by omega)
    have s2 : smC p = true := by rw [hp]; exact smC_ok (Nat.le_trans (put_small c2) (by decide))
    have b1 : Nat.ble x.length most = true := ble_le (by omega)
    have hgp : ∀ q, getX p q = if t = q then v else getX m q := fun q => by rw [hp, putX_get (normX_vld m), normX_get]
    have hgt : getX p t = v := by rw [hgp]; simp
    have hv : vldB p = true := by rw [hp]; exact vld_put m (t, v)
    obtain ⟨r, hr, h1, i, hR⟩ := runF_ind (fl := true) (t := lMKL0T) (fuel := fun a => 1000000000000)
      (fun a => ∃ i : Nat, i ≤ x.length ∧ a = (t, v, false, m, p, x, (x.length : Int), (i : Int), L, N, ()))
      (fun a => Int.toNat (a.2.2.2.2.2.2.1 - a.2.2.2.2.2.2.2.1)) (fun r => r.1 = false ∧ ∃ i : Nat, r.2 = (t, v, false, m, p, x, (x.length : Int), (i : Int), L, N, ()))
      (by
        rintro a ⟨i, hi, rfl⟩
        by_cases hlt : i < x.length
        · left
          have d : decide ((i : Int) < (x.length : Int)) = true := by simpa using hlt
          have r1 := rng_nat x i hlt
          have g := get_el x i
          have hcond : ((el x i).1 != t && getX p (el x i).1 != getX m (el x i).1) = false := by
            rw [hgp]
            by_cases he : t = (el x i).1
            · have : ((el x i).1 != t) = false := by simp [he]
              rw [this]; rfl
            · rw [if_neg he]; simp
          refine ⟨(t, v, false, m, p, x, (x.length : Int), ((i + 1 : Nat) : Int), L, N, ()), ?_, ⟨i + 1, hlt, rfl⟩, by simp only; omega⟩
          simp only [lMKL0T, RT.val, d, r1, s1, s2, g, hcond, Bool.not_true, Bool.or_true, Bool.false_or, cond_true, cond_false, wadd1 i (by omega)]
        · right; left
          have d : decide ((i : Int) < (x.length : Int)) = false := by simpa using hlt
          exact ⟨_, by simp only [lMKL0T, RT.val, d, cond_false], rfl, i, rfl⟩)
      (t, v, false, m, p, x, iN x.length, 0, L, N, ()) ⟨0, Nat.zero_le _, rfl⟩ (by simp only [iN]; omega)
    obtain ⟨r1, r2⟩ := r
    simp only at h1 hR
    subst h1 hR
    simp only [lMKT, RT.val, hg, knownM.1, knownM.2, c1, ← hm, ← hL, ← hN, ← hx, ← hp, s1, b1, hr, okB, getO, s2, hgt, hv, beq_self_eq_true, decide_true, Bool.not_true, Bool.not_false, Bool.false_or, Bool.or_false, Bool.true_or, Bool.or_true, Bool.or_self, Bool.and_self, cond_true, cond_false]
end
end Go.Proofs.Ytfejikddclgkcaa
