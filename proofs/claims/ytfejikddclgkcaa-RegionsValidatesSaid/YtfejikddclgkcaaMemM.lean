/-
  What the makers of cells and of regions make; known examples. Conditions: none.
-/
import Derived.Test.YtfejikddclgkcaaMem4
open Go Go.S3 Go.Proofs Go.Proofs.Cells
set_option linter.unusedVariables false
set_option linter.unusedSimpArgs false
set_option maxRecDepth 100000
namespace Go.Proofs.Ytfejikddclgkcaa
noncomputable section
theorem NB.up {s : List Int × Int} {k j : Int} (h : NB s k) (hj : k ≤ j) : NB s j := ⟨h.1, by have := h.2; omega⟩
theorem from_ok (n : List Int) : NB (n, 0) 0 := ⟨by simp, by simp⟩
theorem nFlag_in {s : List Int × Int} {k : Int} (h : NB s k) (hk : k ≤ 1000000) : nFlagC s = true ∧ NB (nFlag s).2 (k + 1) := by
  obtain ⟨c1, b, _⟩ := nNext_in h hk 2 (by decide) (by decide)
  simp only [nFlagC, nFlag, nFlagT, RT.val, c1, cond_true, okB, getO]
  exact ⟨trivial, b⟩
theorem ble_le {a b : Nat} (h : a ≤ b) : Nat.ble a b = true := by rw [Nat.ble_eq]; exact h
theorem nCells_in {s : List Int × Int} {k : Int} (h : NB s k) (hk : k ≤ 500000) (n : Nat) (hn : n ≤ 100) :
    nCellsC s (n : Int) = true ∧ NB (nCells s (n : Int)).2 (k + 1 + 3 * n) ∧ (nCells s (n : Int)).1.length ≤ n := by
  have hms := mst
  have w0 : IntKind.wrap .i64 ((n : Int) + 1) = (n : Int) + 1 := wrap_i64 _ (by omega) (by omega)
  obtain ⟨c1, b1, d0, d1⟩ := nNext_in h (by omega) ((n : Int) + 1) (by omega) (by omega)
  obtain ⟨s1, hs1⟩ : ∃ s1, s1 = (nNext s ((n : Int) + 1)).2 := ⟨_, rfl⟩
  obtain ⟨q, hq⟩ : ∃ q : Nat, (nNext s ((n : Int) + 1)).1 = (q : Int) := ⟨_, (Int.toNat_of_nonneg d0).symm⟩
  rw [← hs1] at b1
  obtain ⟨r, hr, h1, s', o, hs', ho, hR⟩ := runF_ind (fl := false) (t := nCellsL0T) (fuel := fun a => 400)
    (fun a => ∃ (i : Nat) (s' : List Int × Int) (o : List Cell), i ≤ q ∧ NB s' (k + 1 + 3 * ((q - i : Nat) : Int)) ∧ o.length ≤ q - i ∧ a = ((i : Int), s', o, ()))
    (fun a => Int.toNat a.1) (fun r => r.1 = false ∧ ∃ (s' : List Int × Int) (o : List Cell), NB s' (k + 1 + 3 * (q : Int)) ∧ o.length ≤ q ∧ r.2 = ((0 : Int), s', o, ()))
    (by
      rintro a ⟨i, s', o, hi, hs', ho, rfl⟩
      cases i with
      | zero =>
        right; left
        exact ⟨_, by simp only [nCellsL0T, RT.val]; rfl, rfl, s', o, by simpa using hs', by omega, rfl⟩
      | succ i =>
        left
        have d : decide (((i + 1 : Nat) : Int) > 0) = true := decide_eq_true (by omega)
        obtain ⟨kw, bw, _⟩ := nWord_in hs' (by omega)
        obtain ⟨kb, bb, _⟩ := nByte_in bw (by omega)
        have hb : ∀ x : Cell, Nat.ble (o ++ [x]).length most = true := fun x => ble_le (by simp; omega)
        have w : IntKind.wrap .i64 (((i + 1 : Nat) : Int) - 1) = (i : Int) := by rw [wrap_i64 _ (by omega) (by omega)]; omega
        refine ⟨_, ?_, ⟨i, (nByte (nWord s').2).2, o ++ [((nWord s').1, (nByte (nWord s').2).1)], by omega, bb.up (by omega), by simp; omega, rfl⟩, by simp only; omega⟩
        simp only [nCellsL0T, RT.val, d, kw, kb, hb, w, cond_true, Bool.not_true, Bool.false_or, Bool.or_true, Bool.or_false])
    ((q : Int), s1, [], ()) ⟨q, s1, [], Nat.le_refl _, by simpa using b1, by simp, rfl⟩ (by simp only; omega)
  obtain ⟨r1, r2⟩ := r
  simp only at h1 hR
  subst h1 hR
  have hv : (nCellsT s (n : Int)).val = some (o, s') := by
    simp only [nCellsT, RT.val, w0, c1, hq, ← hs1, hr, okB, getO, cond_true]
  simp only [nCellsC, nCells, hv, okB, getO]
  exact ⟨trivial, hs'.up (by omega), by omega⟩
theorem nRegionsB_in {s : List Int × Int} {k : Int} (h : NB s k) (hk : k ≤ 500000) (n : Nat) (hn : n ≤ 100) :
    nRegionsBC s (n : Int) = true ∧ NB (nRegionsB s (n : Int)).2 (k + 1 + 5 * n) ∧ (nRegionsB s (n : Int)).1.length ≤ n := by
  have hms := mst
  have w0 : IntKind.wrap .i64 ((n : Int) + 1) = (n : Int) + 1 := wrap_i64 _ (by omega) (by omega)
  obtain ⟨c1, b1, d0, d1⟩ := nNext_in h (by omega) ((n : Int) + 1) (by omega) (by omega)
  obtain ⟨L, N, hs1⟩ : ∃ L N, (L, N) = (nNext s ((n : Int) + 1)).2 := ⟨_, _, rfl⟩
  obtain ⟨q, hq⟩ : ∃ q : Nat, (nNext s ((n : Int) + 1)).1 = (q : Int) := ⟨_, (Int.toNat_of_nonneg d0).symm⟩
  rw [← hs1] at b1
  obtain ⟨r, hr, h1, L', N', o, hs', ho, hR⟩ := runF_ind (fl := false) (t := nRegionsBL0T) (fuel := fun a => 400)
    (fun a => ∃ (i : Nat) (L : List Int) (N : Int) (o : List RegionT), i ≤ q ∧ NB (L, N) (k + 1 + 5 * ((q - i : Nat) : Int)) ∧ o.length ≤ q - i ∧ a = ((i : Int), L, N, o, ()))
    (fun a => Int.toNat a.1) (fun r => r.1 = false ∧ ∃ (L : List Int) (N : Int) (o : List RegionT), NB (L, N) (k + 1 + 5 * (q : Int)) ∧ o.length ≤ q ∧ r.2 = ((0 : Int), L, N, o, ()))
    (by
      rintro a ⟨i, L, N, o, hi, hs', ho, rfl⟩
      cases i with
      | zero =>
        right; left
        exact ⟨_, by simp only [nRegionsBL0T, RT.val]; rfl, rfl, L, N, o, by simpa using hs', by omega, rfl⟩
      | succ i =>
        left
        have d : decide (((i + 1 : Nat) : Int) > 0) = true := decide_eq_true (by omega)
        obtain ⟨kw, bw, _⟩ := nWord_in hs' (by omega)
        obtain ⟨k1, b1, e0, e1⟩ := nNext_in bw (by omega) 6 (by decide) (by decide)
        obtain ⟨k2, b2, _⟩ := nNext_in b1 (by omega) 3 (by decide) (by decide)
        obtain ⟨k3, b3, f0, f1⟩ := nNext_in b2 (by omega) 5 (by decide) (by decide)
        have r1 : inRng (nNext (nWord (L, N)).2 6).1 6 = true := inRng_iff.2 ⟨e0, e1⟩
        have r2 : inRng (nNext (nNext (nNext (nWord (L, N)).2 6).2 3).2 5).1 5 = true := inRng_iff.2 ⟨f0, f1⟩
        have hb : ∀ x : RegionT, Nat.ble (o ++ [x]).length most = true := fun x => ble_le (by simp; omega)
        have w : IntKind.wrap .i64 (((i + 1 : Nat) : Int) - 1) = (i : Int) := by rw [wrap_i64 _ (by omega) (by omega)]; omega
        obtain ⟨o', ho'⟩ : ∃ o' : List RegionT, o' = o ++ [((nWord (L, N)).1, IntKind.u16.wrap (if 65535 < IntKind.i64.wrap (IntKind.i64.wrap (nWord (L, N)).1 + R.get (R.int IntKind.i64) [0, 3, 15, 255, 4095, 65535] (nNext (nWord (L, N)).2 6).1) then 65535 else IntKind.i64.wrap (IntKind.i64.wrap (nWord (L, N)).1 + R.get (R.int IntKind.i64) [0, 3, 15, 255, 4095, 65535] (nNext (nWord (L, N)).2 6).1)), decide ((nNext (nNext (nWord (L, N)).2 6).2 3).1 > 0), R.get (R.int IntKind.i64) [0, 0, 1, 2, 5] (nNext (nNext (nNext (nWord (L, N)).2 6).2 3).2 5).1)] := ⟨_, rfl⟩
        refine ⟨((i : Int), (nNext (nNext (nNext (nWord (L, N)).2 6).2 3).2 5).2.1, (nNext (nNext (nNext (nWord (L, N)).2 6).2 3).2 5).2.2, o', ()), ?_, ⟨i, _, _, o', by omega, b3.up (by omega), by rw [ho']; simp; omega, rfl⟩, by simp only; omega⟩
        simp only [nRegionsBL0T, RT.val, List.length_cons, List.length_nil, Nat.reduceAdd, d, kw, k1, k2, k3, r1, r2, hb, w, ho', cond_true, Bool.not_true, Bool.false_or, Bool.or_true, Bool.or_false])
    ((q : Int), L, N, [], ()) ⟨q, L, N, [], Nat.le_refl _, by simpa using b1, by simp, rfl⟩ (by simp only; omega)
  obtain ⟨r1, r2⟩ := r
  simp only at h1 hR
  subst h1 hR
  have hv : (nRegionsBT s (n : Int)).val = some (o, L', N') := by
    simp only [nRegionsBT, RT.val, w0, c1, hq, ← hs1, hr, okB, getO, cond_true]
  simp only [nRegionsBC, nRegionsB, hv, okB, getO]
  exact ⟨trivial, hs'.up (by omega), by omega⟩
theorem smC_ok {l : List Cell} (h : l.length ≤ 1000) : smC l = true := ble_le (by have := mst; omega)
theorem smB_ok {l : List Int} (h : l.length ≤ 1000) : smB l = true := ble_le (by have := mst; omega)
theorem smG_ok {l : List RegionT} (h : l.length ≤ 1000) : smG l = true := ble_le (by have := mst; omega)
theorem put_small {l : List Cell} {c : Cell} {n : Nat} (h : l.length ≤ n) : (putX (normX l) c).length ≤ n + 1 := by
  have := normX_len l
  have := putX_len c (normX l)
  omega
theorem norm_small {l : List Cell} {n : Nat} (h : l.length ≤ n) : (normX l).length ≤ n := Nat.le_trans (normX_len l) h
theorem write_small (l : List RegionT) {m : List Cell} (t v : Int) {n : Nat} (h : m.length ≤ n) : (writeMX l m t v).length ≤ n + 1 := by
  unfold writeMX
  cases decide (findX l t ≥ 0) && (R.get GR l (findX l t)).2.2.1 with
  | true => exact put_small h
  | false => exact Nat.le_trans (normX_len m) (by omega)
theorem kload : loadX 65535 [1, 2] = [(0, 2), (65535, 1)] := by decide
theorem kload0 : putX (normX (loadX 65535 [1, 2])) (0, 0) = [(65535, 1)] := by rw [kload]; decide
theorem knownM : kKnMC = true ∧ kKnM = true := by
  have h1 : smB [1, 2] = true := smB_ok (by decide)
  have h2 : smC (loadX 65535 [1, 2]) = true := by rw [kload]; exact smC_ok (by decide)
  have g1 : (Cells.getX (loadX 65535 [1, 2]) 65535 == 1) = true := by rw [kload]; decide
  have g2 : (Cells.getX (loadX 65535 [1, 2]) 0 == 2) = true := by rw [kload]; decide
  have hv : kKnMT.val = some true := by
    simp only [kKnMT, RT.val, h1, h2, g1, g2, Bool.not_true, Bool.false_or, Bool.or_true, cond_true]
  simp only [kKnMC, kKnM, hv, okB, getO, and_self]
theorem knownR : kKnRC = true ∧ kKnR = true := by
  have h1 : smG [(0, 4095, false, 0), (4096, 8191, true, 2)] = true := smG_ok (by decide)
  have h2 : smC [] = true := smC_ok (by decide)
  have h3 : writeMX [(0, 4095, false, 0), (4096, 8191, true, 2)] [] 0 7 = [] := by decide
  have h4 : writeMX [(0, 4095, false, 0), (4096, 8191, true, 2)] [] 4096 7 = [(4096, 7)] := by decide
  have h5 : smC [(4096, 7)] = true := smC_ok (by decide)
  have h6 : (readMX [(0, 4095, false, 0), (4096, 8191, true, 2)] [(4096, 7)] 4096 == 7) = true := by decide
  have h7 : (iN (List.length ([] : List Cell)) == 0) = true := by decide
  have hv : kKnRT.val = some true := by
    simp only [kKnRT, RT.val, h1, h2, h3, h4, h5, h6, h7, Bool.and_self, Bool.not_true, Bool.not_false, Bool.false_or, Bool.or_true, cond_true]
  simp only [kKnRC, kKnR, hv, okB, getO, and_self]
end
end Go.Proofs.Ytfejikddclgkcaa
