/-
  Memories and regions: contracts by plain functions, one for the program and the reference. Conditions: none.
-/
import Derived.Test.YtfejikddclgkcaaMem3
open Go Go.S3 Go.Proofs Go.Proofs.Cells
set_option linter.unusedVariables false
set_option linter.unusedSimpArgs false
set_option maxRecDepth 100000
namespace Go.Proofs.Ytfejikddclgkcaa
noncomputable section
/-- There is room for one more. -/
def sm {α : Type} (l : List α) : Bool := Nat.ble (l.length + 1) most
def smC (l : List (Int × Int)) : Bool := sm l
def smB (l : List Int) : Bool := sm l
def smG (l : List RegionT) : Bool := sm l
theorem sm_iff {α : Type} {l : List α} : sm l = true ↔ l.length + 1 ≤ most := by simp [sm]
theorem sm_le {α : Type} {l : List α} (h : sm l = true) : l.length ≤ most := by have := sm_iff.1 h; omega
/-! ### Load -/
theorem mload_run (t : Int) (b : List Int) (hb : b.length + 1 ≤ most) : mLoadC t b = true ∧ mLoad t b = loadX t b := by
  have hms := mst
  obtain ⟨r, hr, h1, hR⟩ := runF_ind (fl := false) (t := mLoadL0T) (fuel := fun a => 1000000000000)
    (fun a => ∃ i : Nat, i ≤ b.length ∧ a = (t, b, (b.length : Int), (i : Int), loadL t b i, ()))
    (fun a => Int.toNat (a.2.2.1 - a.2.2.2.1)) (fun r => r.1 = false ∧ r.2 = (t, b, (b.length : Int), (b.length : Int), loadL t b b.length, ()))
    (by
      rintro a ⟨i, hi, rfl⟩
      by_cases hlt : i < b.length
      · left
        have d : decide ((i : Int) < (b.length : Int)) = true := by simpa using hlt
        have r1 := rng_nat b i hlt
        have hl : ∀ x : Cell, Nat.ble (loadL t b i ++ [x]).length most = true := fun x => by rw [Nat.ble_eq, List.length_append, loadL_len]; simp only [List.length_singleton]; omega
        refine ⟨_, ?_, ⟨i + 1, hlt, rfl⟩, by simp only; omega⟩
        rw [loadL_succ]
        have g := get_d b i
        simp only [mLoadL0T, RT.val, d, r1, g, hl, cond_true, Bool.not_true, Bool.false_or, wadd1 i (by omega)]
      · right; left
        have d : decide ((i : Int) < (b.length : Int)) = false := by simpa using hlt
        have e : i = b.length := by omega
        subst e
        exact ⟨_, by simp only [mLoadL0T, RT.val, d, cond_false], rfl, rfl⟩)
    (t, b, iN b.length, 0, rep (0, 0) (Int.toNat 0), ()) ⟨0, Nat.zero_le _, rfl⟩ (by simp only [iN]; omega)
  obtain ⟨r1, r2⟩ := r
  simp only at h1 hR
  subst h1 hR
  have hn := mnorm_run (loadL t b b.length) (by rw [loadL_len]; omega)
  have hc1 : decide (0 ≤ iN b.length) = true := by simp [iN]
  have hc2 : decide (iN b.length ≤ iN most) = true := by simp [iN]; omega
  have hv : (mLoadT t b).val = some (loadX t b) := by
    simp only [mLoadT, RT.val, hc1, hc2, Nat.le_refl, Int.le_refl, decide_true, Bool.and_self, hr, okB, getO, cond_true, hn.1, hn.2, loadX]
  exact ⟨by simp only [mLoadC, hv]; rfl, by simp only [mLoad, hv, getO]⟩
/-! ### regions -/
theorem findX_in (l : List RegionT) (t : Int) : -1 ≤ findX l t ∧ (findX l t < 0 ∨ ∃ i : Nat, i < l.length ∧ findX l t = i) := by
  unfold findX
  split
  · rename_i h; exact ⟨by omega, .inr ⟨_, h, rfl⟩⟩
  · exact ⟨by omega, .inl (by omega)⟩
theorem findX_rng (l : List RegionT) (t : Int) (h : 0 ≤ findX l t) : inRng (findX l t) l.length = true := by
  rcases (findX_in l t).2 with h1 | ⟨i, hi, e⟩
  · omega
  · rw [e]; exact rng_nat l i hi
def writeMX (l : List RegionT) (m : List Cell) (t v : Int) : List Cell := bif decide (findX l t ≥ 0) && (R.get GR l (findX l t)).2.2.1 then putX (normX m) (t, v) else normX m
def limX (n : Int) : Int := if (if 100 < n then 100 else n) > 0 then if 100 < n then 100 else n else 0
def waitsX (l : List RegionT) (t : Int) : Int := bif decide (findX l t ≥ 0) then limX (R.get GR l (findX l t)).2.2.2 else 0
theorem ge_lt (x : Int) : decide (x ≥ 0) = !decide (x < 0) := by by_cases h : x < 0 <;> simp [h] <;> omega
theorem pread_run (l : List RegionT) (m : List Cell) (t : Int) (hl : l.length ≤ most) (hm : m.length ≤ most) : pReadMC l m t = true ∧ pReadM l m t = readMX l m t := by
  have h1 := pfind_run l t hl
  have hb : Nat.ble m.length most = true := by rw [Nat.ble_eq]; exact hm
  have hv : (pReadMT l m t).val = some (readMX l m t) := by
    simp only [pReadMT, RT.val, h1.1, h1.2, hb, cond_true, readMX]
    cases decide (findX l t < 0) <;> rfl
  exact ⟨by simp only [pReadMC, hv]; rfl, by simp only [pReadM, hv, getO]⟩
theorem pwrite_run (l : List RegionT) (m : List Cell) (t v : Int) (hl : l.length ≤ most) (hm : m.length + 1 ≤ most) : pWriteMC l m t v = true ∧ pWriteM l m t v = writeMX l m t v := by
  have h1 := pfind_run l t hl
  have h2 := mput_run m t v hm
  have h3 := mnorm_run m (by omega)
  have hv : (pWriteMT l m t v).val = some (writeMX l m t v) := by
    have hr : (!decide (findX l t ≥ 0) || inRng (findX l t) l.length) = true := by
      by_cases h : 0 ≤ findX l t
      · rw [findX_rng l t h]; simp
      · have : decide (findX l t ≥ 0) = false := by simp; omega
        rw [this]; rfl
    simp only [pWriteMT, RT.val, h1.1, h1.2, h2.1, h2.2, h3.1, h3.2, hr, Bool.or_true, cond_true, writeMX]
    cases decide (findX l t ≥ 0) && (R.get GR l (findX l t)).2.2.1 <;> rfl
  exact ⟨by simp only [pWriteMC, hv]; rfl, by simp only [pWriteM, hv, getO]⟩
theorem rwrite_run (l : List RegionT) (m : List Cell) (t v : Int) (hl : l.length ≤ most) (hm : m.length + 1 ≤ most) : rWriteMC l m t v = true ∧ rWriteM l m t v = writeMX l m t v := by
  have h1 := rfind_run l t hl
  have h2 := rput_run m t v hm
  have h3 := rnorm_run m hm
  have hv : (rWriteMT l m t v).val = some (writeMX l m t v) := by
    have hr : (!decide (findX l t ≥ 0) || inRng (findX l t) l.length) = true := by
      by_cases h : 0 ≤ findX l t
      · rw [findX_rng l t h]; simp
      · have : decide (findX l t ≥ 0) = false := by simp; omega
        rw [this]; rfl
    simp only [rWriteMT, RT.val, h1.1, h1.2, h2.1, h2.2, h3.1, h3.2, hr, Bool.or_true, cond_true, writeMX]
    cases decide (findX l t ≥ 0) && (R.get GR l (findX l t)).2.2.1 <;> rfl
  exact ⟨by simp only [rWriteMC, hv]; rfl, by simp only [rWriteM, hv, getO]⟩
theorem pwaits_run (l : List RegionT) (t : Int) (hl : l.length ≤ most) : pWaitsRC l t = true ∧ pWaitsR l t = waitsX l t := by
  have h1 := pfind_run l t hl
  have hv : (pWaitsRT l t).val = some (waitsX l t) := by
    simp only [pWaitsRT, RT.val, h1.1, h1.2, cond_true, waitsX, limX, ge_lt]
    by_cases h : findX l t < 0
    · have hd : decide (findX l t < 0) = true := by simpa using h
      simp only [hd, Bool.not_true, cond_true, cond_false]
    · have hd : decide (findX l t < 0) = false := by simpa using h
      have hr := findX_rng l t (by omega)
      simp only [hd, hr, Bool.not_false, cond_true, cond_false]
  exact ⟨by simp only [pWaitsRC, hv]; rfl, by simp only [pWaitsR, hv, getO]⟩
theorem rwaits_run (l : List RegionT) (t : Int) (hl : l.length ≤ most) : rWaitsC l t = true ∧ rWaits l t = waitsX l t := by
  have h1 := rfind_run l t hl
  have hv : (rWaitsT l t).val = some (waitsX l t) := by
    have hr : (!decide (findX l t ≥ 0) || inRng (findX l t) l.length) = true := by
      by_cases h : 0 ≤ findX l t
      · rw [findX_rng l t h]; simp
      · have : decide (findX l t ≥ 0) = false := by simp; omega
        rw [this]; rfl
    simp only [rWaitsT, RT.val, h1.1, h1.2, hr, cond_true, waitsX]
    cases decide (findX l t ≥ 0) <;> rfl
  exact ⟨by simp only [rWaitsC, hv]; rfl, by simp only [rWaits, hv, getO]⟩
/-- Which map is in order: the first error. -/
def badR (r : RegionT) : Bool := decide (r.2.1 < r.1) || (decide (r.2.2.2 < 0) || decide (r.2.2.2 > 100))
def validRX (l : List RegionT) : Int := bif decide (iN l.length > 16) then 3 else bif l.any badR then 1 else 0
theorem rvalidR_run (l : List RegionT) (hl : l.length ≤ most) : rValidRC l = true ∧ rValidR l = validRX l := by
  have hms := mst
  obtain ⟨r, hr, hR⟩ := runF_ind (fl := true) (t := rValidRL0T) (fuel := fun _ => 1000000000000)
    (fun x => ∃ i : Nat, i ≤ l.length ∧ (∀ k, k < i → badR (rg l k) = false) ∧ x = (0, l, (l.length : Int), (i : Int), ()))
    (fun x => Int.toNat (x.2.2.1 - x.2.2.2.1)) (fun r => (r.1 = false ∧ l.any badR = false) ∨ (r.1 = true ∧ l.any badR = true ∧ r.2.1 = 1))
    (by
      rintro x ⟨i, hi, hk, rfl⟩
      by_cases hlt : i < l.length
      · have d : decide ((i : Int) < (l.length : Int)) = true := by simpa using hlt
        have r1 := rng_nat l i hlt
        have g1 := get_rg l i
        cases hh : badR (rg l i) with
        | false =>
          left
          refine ⟨(0, l, (l.length : Int), ((i + 1 : Nat) : Int), ()), ?_, ⟨i + 1, hlt, fun k hk' => ?_, rfl⟩, by simp only; omega⟩
          · simp only [badR] at hh
            simp only [rValidRL0T, RT.val, d, r1, g1, hh, cond_true, cond_false, wadd1 i (by omega)]
          · by_cases e : k = i
            · subst e; exact hh
            · exact hk k (by omega)
        | true =>
          right; right
          refine ⟨(1, l, (l.length : Int), (i : Int), ()), rfl, ?_, .inr ⟨rfl, List.any_eq_true.2 ⟨rg l i, ?_, hh⟩, rfl⟩⟩
          · simp only [badR] at hh
            simp only [rValidRL0T, RT.val, d, r1, g1, hh, cond_true]
          · rw [← rg_get l i hlt]; exact List.getElem_mem hlt
      · right; left
        have d : decide ((i : Int) < (l.length : Int)) = false := by simpa using hlt
        refine ⟨_, by simp only [rValidRL0T, RT.val, d, cond_false]; rfl, .inl ⟨rfl, ?_⟩⟩
        rw [List.any_eq_false]
        intro q hq
        obtain ⟨k, hk', rfl⟩ := List.mem_iff_getElem.1 hq
        rw [rg_get l k hk', hk k (by omega)]; simp)
    (0, l, iN l.length, 0, ()) ⟨0, Nat.zero_le _, fun k h => by omega, rfl⟩ (by simp only [iN]; omega)
  have hv : (rValidRT l).val = some (validRX l) := by
    cases hd : decide (iN l.length > 16) with
    | true => simp only [rValidRT, RT.val, hd, cond_true, validRX]
    | false =>
      rcases hR with ⟨h1, h2⟩ | ⟨h1, h2, h3⟩
      · simp only [rValidRT, RT.val, hd, hr, okB, getO, cond_true, cond_false, h1, h2, validRX]
      · simp only [rValidRT, RT.val, hd, hr, okB, getO, cond_true, cond_false, h1, h2, h3, validRX]
  exact ⟨by simp only [rValidRC, hv]; rfl, by simp only [rValidR, hv, getO]⟩
theorem pvalidR_run (l : List RegionT) (hl : l.length ≤ most) : pValidRC l = true ∧ pValidR l = validRX l := by
  have h := rvalidR_run l hl
  have e : pValidRT l = rValidRT l := rfl
  simp only [rValidRC, rValidR, ← e] at h
  exact h
/-! ### contracts -/
theorem tight {P : Program} {f : FuncId} {ts : List Sh} {rs : Rs} {C : HL ts → Bool} {F G : HL ts → rs.den} (h : EntryOk P f (pureE ts rs (fun a => some (C a)) F)) {pre : HL ts → Bool} (hp : ∀ a, pre a = true → C a = true ∧ F a = G a) :
    EntryOk P f (pureE ts rs (fun a => some (pre a)) G) := by
  have key : ∀ a, some (pre a) ≠ some false → pre a = true := fun a h => by cases hq : pre a with
    | true => rfl
    | false => rw [hq] at h; exact absurd rfl h
  exact h.pure_congr (fun a _ hq => by rw [(hp a (key a hq)).1]; simp) (fun a _ hq => (hp a (key a hq)).2)
def mValid1E : Entry := pureE mValidTs mValidRs (fun a => some (smC a)) (fun a => vldB a)
theorem mValid1_ok : EntryOk Try.prog 17 mValid1E := tight mValid_ok fun a h => mvalid_eq a (sm_le h)
def rValid1E : Entry := pureE rValidTs rValidRs (fun a => some (smC a)) (fun a => vldB a)
theorem rValid1_ok : EntryOk Try.prog 18 rValid1E := tight rValid_ok fun a h => rvalid_eq a (sm_le h)
def mGet1E : Entry := pureE mGetTs mGetRs (fun a => some (smC a.1)) (fun a => getX a.1 a.2)
theorem mGet1_ok : EntryOk Try.prog 19 mGet1E := tight mGet_ok fun a h => ⟨by rw [Nat.ble_eq]; exact sm_le h, rfl⟩
def rGetM1E : Entry := pureE rGetMTs rGetMRs (fun a => some (smC a.1)) (fun a => getX a.1 a.2)
theorem rGetM1_ok : EntryOk Try.prog 20 rGetM1E := tight rGetM_ok fun a h => rget_eq a.1 a.2 (sm_le h)
def mNorm1E : Entry := pureE mNormTs mNormRs (fun a => some (smC a)) (fun a => normX a)
theorem mNorm1_ok : EntryOk Try.prog 22 mNorm1E := tight mNorm_ok fun a h => mnorm_run a (sm_le h)
def rNorm1E : Entry := pureE rNormTs rNormRs (fun a => some (smC a)) (fun a => normX a)
theorem rNorm1_ok : EntryOk Try.prog 16 rNorm1E := tight rNorm_ok fun a h => rnorm_run a (sm_iff.1 h)
def mPut1E : Entry := pureE mPutTs mPutRs (fun a => some (smC a.1)) (fun a => putX (normX a.1) (a.2.1, a.2.2))
theorem mPut1_ok : EntryOk Try.prog 23 mPut1E := tight mPut_ok fun a h => mput_run a.1 a.2.1 a.2.2 (sm_iff.1 h)
def rPutM1E : Entry := pureE rPutMTs rPutMRs (fun a => some (smC a.1)) (fun a => putX (normX a.1) (a.2.1, a.2.2))
theorem rPutM1_ok : EntryOk Try.prog 24 rPutM1E := tight rPutM_ok fun a h => rput_run a.1 a.2.1 a.2.2 (sm_iff.1 h)
def mLoad1E : Entry := pureE mLoadTs mLoadRs (fun a => some (smB a.2)) (fun a => loadX a.1 a.2)
theorem mLoad1_ok : EntryOk Try.prog 25 mLoad1E := tight mLoad_ok fun a h => mload_run a.1 a.2 (sm_iff.1 h)
def rLoad1E : Entry := pureE rLoadTs rLoadRs (fun a => some (smB a.2)) (fun a => loadX a.1 a.2)
theorem rLoad1_ok : EntryOk Try.prog 26 rLoad1E := tight rLoad_ok fun a h => rload_run a.1 a.2 (sm_iff.1 h)
def rSameM1E : Entry := pureE rSameMTs rSameMRs (fun a => some (smC a.1)) (fun a => decide ((a.1 : List Cell) = a.2))
theorem rSameM1_ok : EntryOk Try.prog 21 rSameM1E := tight rSameM_ok fun a h => rsame_run a.1 a.2 (sm_le h)
def pFind1E : Entry := pureE pFindTs pFindRs (fun a => some (smG a.1)) (fun a => findX a.1 a.2)
theorem pFind1_ok : EntryOk Try.prog 30 pFind1E := tight pFind_ok fun a h => pfind_run a.1 a.2 (sm_le h)
def rFind1E : Entry := pureE rFindTs rFindRs (fun a => some (smG a.1)) (fun a => findX a.1 a.2)
theorem rFind1_ok : EntryOk Try.prog 31 rFind1E := tight rFind_ok fun a h => rfind_run a.1 a.2 (sm_le h)
def pReadM1E : Entry := pureE pReadMTs pReadMRs (fun a => some (smG a.1 && smC a.2.1)) (fun a => readMX a.1 a.2.1 a.2.2)
theorem pReadM1_ok : EntryOk Try.prog 32 pReadM1E := tight pReadM_ok fun a h => by rw [Bool.and_eq_true] at h; exact pread_run a.1 a.2.1 a.2.2 (sm_le h.1) (sm_le h.2)
def rReadM1E : Entry := pureE rReadMTs rReadMRs (fun a => some (smG a.1 && smC a.2.1)) (fun a => readMX a.1 a.2.1 a.2.2)
theorem rReadM1_ok : EntryOk Try.prog 33 rReadM1E := tight rReadM_ok fun a h => by rw [Bool.and_eq_true] at h; exact rread_run a.1 a.2.1 a.2.2 (sm_le h.1) (sm_le h.2)
def pWriteM1E : Entry := pureE pWriteMTs pWriteMRs (fun a => some (smG a.1 && smC a.2.1)) (fun a => writeMX a.1 a.2.1 a.2.2.1 a.2.2.2)
theorem pWriteM1_ok : EntryOk Try.prog 36 pWriteM1E := tight pWriteM_ok fun a h => by rw [Bool.and_eq_true] at h; exact pwrite_run a.1 a.2.1 a.2.2.1 a.2.2.2 (sm_le h.1) (sm_iff.1 h.2)
def rWriteM1E : Entry := pureE rWriteMTs rWriteMRs (fun a => some (smG a.1 && smC a.2.1)) (fun a => writeMX a.1 a.2.1 a.2.2.1 a.2.2.2)
theorem rWriteM1_ok : EntryOk Try.prog 37 rWriteM1E := tight rWriteM_ok fun a h => by rw [Bool.and_eq_true] at h; exact rwrite_run a.1 a.2.1 a.2.2.1 a.2.2.2 (sm_le h.1) (sm_iff.1 h.2)
def pWaitsR1E : Entry := pureE pWaitsRTs pWaitsRRs (fun a => some (smG a.1)) (fun a => waitsX a.1 a.2)
theorem pWaitsR1_ok : EntryOk Try.prog 34 pWaitsR1E := tight pWaitsR_ok fun a h => pwaits_run a.1 a.2 (sm_le h)
def rWaits1E : Entry := pureE rWaitsTs rWaitsRs (fun a => some (smG a.1)) (fun a => waitsX a.1 a.2)
theorem rWaits1_ok : EntryOk Try.prog 35 rWaits1E := tight rWaits_ok fun a h => rwaits_run a.1 a.2 (sm_le h)
def pValidR1E : Entry := pureE pValidRTs pValidRRs (fun a => some (smG a)) (fun a => validRX a)
theorem pValidR1_ok : EntryOk Try.prog 41 pValidR1E := tight pValidR_ok fun a h => pvalidR_run a (sm_le h)
def rValidR1E : Entry := pureE rValidRTs rValidRRs (fun a => some (smG a)) (fun a => validRX a)
theorem rValidR1_ok : EntryOk Try.prog 42 rValidR1E := tight rValidR_ok fun a h => rvalidR_run a (sm_le h)
end
end Go.Proofs.Ytfejikddclgkcaa
