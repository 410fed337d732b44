/-
  Memories: Load, Same and Find of the reference, the program's Valid and Find, Read and Write, as plain functions. Conditions: none.
-/
import Derived.Test.YtfejikddclgkcaaMemC
open Go Go.S3 Go.Proofs Go.Proofs.Cells
set_option linter.unusedVariables false
set_option linter.unusedSimpArgs false
set_option maxRecDepth 100000
namespace Go.Proofs.Ytfejikddclgkcaa
noncomputable section
abbrev BR : R := R.int IntKind.u8
theorem get_d (l : List Int) (i : Nat) : R.get BR l (i : Int) = l.getD i 0 := by simp [R.get, R.dflt]
/-! ### Load -/
def loadL (t : Int) (b : List Int) (n : Nat) : List Cell := (List.range n).map fun i : Nat => (IntKind.wrap .u16 (t + IntKind.wrap .u16 (i : Int)), b.getD i 0)
theorem loadL_succ (t : Int) (b : List Int) (n : Nat) : loadL t b (n + 1) = loadL t b n ++ [(IntKind.wrap .u16 (t + IntKind.wrap .u16 (n : Int)), b.getD n 0)] := by simp [loadL, List.range_succ]
theorem loadL_len (t : Int) (b : List Int) (n : Nat) : (loadL t b n).length = n := by simp [loadL]
def loadX (t : Int) (b : List Int) : List Cell := normX (loadL t b b.length)
theorem rload_run (t : Int) (b : List Int) (hb : b.length + 1 ≤ most) : rLoadC t b = true ∧ rLoad t b = loadX t b := by
  have hms := mst
  obtain ⟨r, hr, h1, hR⟩ := runF_ind (fl := false) (t := rLoadL0T) (fuel := fun a => 1000000000000)
    (fun a => ∃ i : Nat, i ≤ b.length ∧ a = (t, b, (b.length : Int), (i : Int), loadL t b i, ()))
    (fun a => Int.toNat (a.2.2.1 - a.2.2.2.1)) (fun r => r.1 = false ∧ r.2 = (t, b, (b.length : Int), (b.length : Int), loadL t b b.length, ()))
    (by
      rintro a ⟨i, hi, rfl⟩
      by_cases hlt : i < b.length
      · left
        have d : decide ((i : Int) < (b.length : Int)) = true := by simpa using hlt
        have r1 := rng_nat b i hlt
        have hl : ∀ x : Cell, Nat.ble (loadL t b i ++ [x]).length most = true := fun x => by rw [Nat.ble_eq, List.length_append, loadL_len]; simp only [List.length_singleton]; omega
        refine ⟨_, ?_, ⟨i + 1, hlt, rfl⟩, by simp only; omega⟩
        rw [loadL_succ]
        have g := get_d b i
        simp only [rLoadL0T, RT.val, d, r1, g, hl, cond_true, Bool.not_true, Bool.false_or, wadd1 i (by omega)]
      · right; left
        have d : decide ((i : Int) < (b.length : Int)) = false := by simpa using hlt
        have e : i = b.length := by omega
        subst e
        exact ⟨_, by simp only [rLoadL0T, RT.val, d, cond_false], rfl, rfl⟩)
    (t, b, iN b.length, 0, [], ()) ⟨0, Nat.zero_le _, rfl⟩ (by simp only [iN]; omega)
  obtain ⟨r1, r2⟩ := r
  simp only at h1 hR
  subst h1 hR
  have hn := rnorm_run (loadL t b b.length) (by rw [loadL_len]; exact hb)
  have hv : (rLoadT t b).val = some (loadX t b) := by
    simp only [rLoadT, RT.val, hr, okB, getO, cond_true, hn.1, hn.2, loadX]
  exact ⟨by simp only [rLoadC, hv]; rfl, by simp only [rLoad, hv, getO]⟩
/-! ### Same -/
theorem rsame_run (a b : List Cell) (ha : a.length ≤ most) : rSameMC a b = true ∧ rSameM a b = decide (a = b) := by
  have hms := mst
  have hv : (rSameMT a b).val = some (decide (a = b)) := by
    by_cases hl : a.length = b.length
    · have hn : (iN a.length != iN b.length) = false := by simp [iN, hl]
      obtain ⟨r, hr, hR⟩ := runF_ind (fl := true) (t := rSameML0T) (fuel := fun _ => 1000000000000)
        (fun x => ∃ i : Nat, i ≤ a.length ∧ (∀ k, k < i → el a k = el b k) ∧ x = (a, b, false, (a.length : Int), (i : Int), ()))
        (fun x => Int.toNat (x.2.2.2.1 - x.2.2.2.2.1)) (fun r => (r.1 = false ∧ a = b) ∨ (r.1 = true ∧ a ≠ b ∧ r.2.2.2.1 = false))
        (by
          rintro x ⟨i, hi, hk, rfl⟩
          by_cases hlt : i < a.length
          · have d : decide ((i : Int) < (a.length : Int)) = true := by simpa using hlt
            have r1 := rng_nat a i hlt
            have r2 := rng_nat b i (by omega)
            have g1 := get_el a i
            have g2 := get_el b i
            by_cases he : el a i = el b i
            · left
              refine ⟨(a, b, false, (a.length : Int), ((i + 1 : Nat) : Int), ()), ?_, ⟨i + 1, hlt, fun k hk' => ?_, rfl⟩, by simp only; omega⟩
              · simp only [rSameML0T, RT.val, d, r1, r2, g1, g2, he, beq_self_eq_true, Bool.and_self, Bool.not_true, Bool.or_true, cond_true, cond_false, wadd1 i (by omega)]
              · by_cases e : k = i
                · subst e; exact he
                · exact hk k (by omega)
            · right; right
              have hne : ((el a i).1 == (el b i).1 && ((el a i).2 == (el b i).2 && true)) = false := by
                rw [Bool.eq_false_iff]; intro h
                simp only [Bool.and_eq_true, beq_iff_eq, and_true] at h
                exact he (Prod.ext h.1 h.2)
              refine ⟨(a, b, false, (a.length : Int), (i : Int), ()), rfl, ?_, .inr ⟨rfl, fun h => he (by rw [h]), rfl⟩⟩
              simp only [rSameML0T, RT.val, d, r1, r2, g1, g2, hne, Bool.not_true, Bool.not_false, Bool.or_true, cond_true]
          · right; left
            have d : decide ((i : Int) < (a.length : Int)) = false := by simpa using hlt
            refine ⟨_, by simp only [rSameML0T, RT.val, d, cond_false]; rfl, .inl ⟨rfl, List.ext_getElem? fun k => ?_⟩⟩
            by_cases hk' : k < a.length
            · rw [el_get a k hk', el_get b k (by omega), hk k (by omega)]
            · rw [List.getElem?_eq_none (by omega), List.getElem?_eq_none (by omega)])
        (a, b, false, iN a.length, 0, ()) ⟨0, Nat.zero_le _, fun k h => by omega, rfl⟩ (by simp only [iN]; omega)
      rcases hR with ⟨h1, h2⟩ | ⟨h1, h2, h3⟩
      · have hd : decide (a = b) = true := decide_eq_true h2
        simp only [rSameMT, RT.val, hn, hr, okB, getO, cond_true, cond_false, h1, hd]
      · have hd : decide (a = b) = false := decide_eq_false h2
        simp only [rSameMT, RT.val, hn, hr, okB, getO, cond_true, cond_false, h1, h3, hd]
    · have hn : (iN a.length != iN b.length) = true := by simp only [iN, bne_iff_ne, ne_eq]; omega
      have hne : a ≠ b := fun h => hl (by rw [h])
      simp only [rSameMT, RT.val, hn, cond_true, hne, decide_false]
  exact ⟨by simp only [rSameMC, hv]; rfl, by simp only [rSameM, hv, getO]⟩
/-! ### the program's Valid -/
theorem mvalid_eq (m : List Cell) (hm : m.length ≤ most) : mValidC m = true ∧ mValid m = vldB m := by
  have h := mvalid_run m hm
  exact ⟨by simp only [mValidC, h]; rfl, by simp only [mValid, h, getO]⟩
theorem rvalid_eq (m : List Cell) (hm : m.length ≤ most) : rValidC m = true ∧ rValid m = vldB m := by
  have h := rvalid_run m hm
  exact ⟨by simp only [rValidC, h]; rfl, by simp only [rValid, h, getO]⟩
theorem rget_eq (m : List Cell) (t : Int) (hm : m.length ≤ most) : rGetMC m t = true ∧ rGetM m t = getX m t := by
  have h := rget_run m t hm
  exact ⟨by simp only [rGetMC, h]; rfl, by simp only [rGetM, h, getO]⟩
/-! ### regions -/
abbrev GR : R := R.pair (R.int IntKind.u16) (R.pair (R.int IntKind.u16) (R.pair R.bool (R.int IntKind.i64)))
def hitB (t : Int) (r : RegionT) : Bool := decide (r.1 ≤ t) && decide (t ≤ r.2.1)
def findX (l : List RegionT) (t : Int) : Int := if l.findIdx (hitB t) < l.length then (l.findIdx (hitB t) : Int) else -1
def rg (l : List RegionT) (i : Nat) : RegionT := l.getD i (0, 0, false, 0)
theorem get_rg (l : List RegionT) (i : Nat) : R.get GR l (i : Int) = rg l i := by simp [R.get, R.dflt, rg]
theorem rg_get (l : List RegionT) (i : Nat) (h : i < l.length) : l[i] = rg l i := by simp [rg, h]
theorem find_at {l : List RegionT} {t : Int} {i : Nat} (hi : i < l.length) (h : hitB t (rg l i) = true) (hk : ∀ k, k < i → hitB t (rg l k) = false) : findX l t = i := by
  have : l.findIdx (hitB t) = i := (List.findIdx_eq hi).2 ⟨by rw [rg_get l i hi]; exact h, fun j hj => by rw [rg_get l j (by omega)]; exact hk j hj⟩
  simp only [findX, this, hi, if_true]
theorem find_no {l : List RegionT} {t : Int} (hk : ∀ k, k < l.length → hitB t (rg l k) = false) : findX l t = -1 := by
  have : ¬ l.findIdx (hitB t) < l.length := by
    rw [List.findIdx_lt_length]
    rintro ⟨x, hx, hp⟩
    obtain ⟨i, hi, rfl⟩ := List.mem_iff_getElem.1 hx
    rw [rg_get l i hi, hk i hi] at hp
    exact absurd hp (by simp)
  simp only [findX, this, if_false]
theorem rfind_run (l : List RegionT) (t : Int) (hl : l.length ≤ most) : rFindC l t = true ∧ rFind l t = findX l t := by
  have hms := mst
  obtain ⟨r, hr, hR⟩ := runF_ind (fl := true) (t := rFindL0T) (fuel := fun _ => 1000000000000)
    (fun x => ∃ i : Nat, i ≤ l.length ∧ (∀ k, k < i → hitB t (rg l k) = false) ∧ x = (t, 0, l, (l.length : Int), (i : Int), ()))
    (fun x => Int.toNat (x.2.2.2.1 - x.2.2.2.2.1)) (fun r => (r.1 = false ∧ findX l t = -1) ∨ (r.1 = true ∧ r.2.2.1 = findX l t))
    (by
      rintro x ⟨i, hi, hk, rfl⟩
      by_cases hlt : i < l.length
      · have d : decide ((i : Int) < (l.length : Int)) = true := by simpa using hlt
        have r1 := rng_nat l i hlt
        have g1 := get_rg l i
        cases hh : hitB t (rg l i) with
        | false =>
          left
          refine ⟨(t, 0, l, (l.length : Int), ((i + 1 : Nat) : Int), ()), ?_, ⟨i + 1, hlt, fun k hk' => ?_, rfl⟩, by simp only; omega⟩
          · simp only [hitB] at hh
            simp only [rFindL0T, RT.val, d, r1, g1, hh, cond_true, cond_false, wadd1 i (by omega)]
          · by_cases e : k = i
            · subst e; exact hh
            · exact hk k (by omega)
        | true =>
          right; right
          refine ⟨(t, (i : Int), l, (l.length : Int), (i : Int), ()), rfl, ?_, .inr ⟨rfl, (find_at hlt hh hk).symm⟩⟩
          simp only [hitB] at hh
          simp only [rFindL0T, RT.val, d, r1, g1, hh, cond_true]
      · right; left
        have d : decide ((i : Int) < (l.length : Int)) = false := by simpa using hlt
        exact ⟨_, by simp only [rFindL0T, RT.val, d, cond_false]; rfl, .inl ⟨rfl, find_no fun k h => hk k (by omega)⟩⟩)
    (t, 0, l, iN l.length, 0, ()) ⟨0, Nat.zero_le _, fun k h => by omega, rfl⟩ (by simp only [iN]; omega)
  have hv : (rFindT l t).val = some (findX l t) := by
    rcases hR with ⟨h1, h2⟩ | ⟨h1, h2⟩
    · simp only [rFindT, RT.val, hr, okB, getO, cond_true, h1, cond_false, h2]
    · simp only [rFindT, RT.val, hr, okB, getO, cond_true, h1, h2]
  exact ⟨by simp only [rFindC, hv]; rfl, by simp only [rFind, hv, getO]⟩
theorem pfind_run (l : List RegionT) (t : Int) (hl : l.length ≤ most) : pFindC l t = true ∧ pFind l t = findX l t := by
  have h := rfind_run l t hl
  have e : pFindT l t = rFindT l t := rfl
  simp only [rFindC, rFind, ← e] at h
  exact h
def readMX (l : List RegionT) (m : List Cell) (t : Int) : Int := bif decide (findX l t < 0) then 255 else getX m t
theorem rread_run (l : List RegionT) (m : List Cell) (t : Int) (hl : l.length ≤ most) (hm : m.length ≤ most) : rReadMC l m t = true ∧ rReadM l m t = readMX l m t := by
  have h1 := rfind_run l t hl
  have h2 := rget_eq m t hm
  have hv : (rReadMT l m t).val = some (readMX l m t) := by
    simp only [rReadMT, RT.val, h1.1, h1.2, h2.1, h2.2, cond_true, readMX]
    cases decide (findX l t < 0) <;> rfl
  exact ⟨by simp only [rReadMC, hv]; rfl, by simp only [rReadM, hv, getO]⟩
end
end Go.Proofs.Ytfejikddclgkcaa
