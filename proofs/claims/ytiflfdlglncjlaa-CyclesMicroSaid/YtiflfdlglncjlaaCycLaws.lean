/-
  The laws of the cycles as plain functions: always true. Conditions: none.
-/
import Derived.Test.YtiflfdlglncjlaaCyc3
open Go Go.S3 Go.Proofs
set_option linter.unusedVariables false
set_option linter.unusedSimpArgs false
set_option maxRecDepth 100000
namespace Go.Proofs.Ytiflfdlglncjlaa
noncomputable section
theorem totals_law (c op : Int) (tk : Bool) : lTotals c op tk = true := by
  simp [lTotals, lTotalsT, RT.val]
theorem place2 (x : Int) : mPlaceC x 2 = true ∧ (IntKind.wrap .i64 (1 + mPlace x 2) = 1 ∨ IntKind.wrap .i64 (1 + mPlace x 2) = 2) := by
  have e : (mPlaceT x 2).val = some (IntKind.wrap .i64 (Int.tmod (IntKind.wrap .u64 x) 2)) := rfl
  refine ⟨by simp only [mPlaceC, e]; rfl, ?_⟩
  have : mPlace x 2 = IntKind.wrap .i64 (Int.tmod (IntKind.wrap .u64 x) 2) := by simp only [mPlace, e, getO]
  rw [this]
  have hn : 0 ≤ IntKind.wrap .u64 x := (inR_wrap .u64 x).1
  rw [Int.tmod_eq_emod_of_nonneg hn]
  have h : IntKind.wrap .u64 x % 2 = 0 ∨ IntKind.wrap .u64 x % 2 = 1 := by omega
  rcases h with h | h
  · rw [h]; exact .inl (by decide)
  · rw [h]; exact .inr (by decide)
theorem sums_law (c op : Int) (tk : Bool) (h : inR .u8 op) : lSumsC c op tk = true ∧ lSums c op tk = true := by
  obtain ⟨hp, hq⟩ := place2 c
  have key : ∀ c', IntKind.wrap .i64 (1 + mPlace c 2) = c' → (lSumsT c op tk).val = some true := by
    intro c' e
    have hl := (kinds_ok c' op tk h).2.2.2
    have ht := (total_ok c' op tk h).2.2
    unfold lSumsT
    simp only [hp, e]
    revert hl ht
    generalize rKinds c' op tk = l
    generalize rTotal c' op tk = n
    intro hl ht
    match l, hl, ht with
    | [], _, ht => simp [sumS] at ht; omega
    | [a], _, ht => simp [sumS] at ht; simp [RT.val, w123, inRng, iN, R.get, lKnown, lKnownT]; omega
    | [a, b], _, ht => simp [sumS] at ht; simp [RT.val, w123, inRng, iN, R.get, lKnown, lKnownT]; omega
    | [a, b, d], _, ht => simp [sumS] at ht; simp [RT.val, w123, inRng, iN, R.get, lKnown, lKnownT]; omega
    | [a, b, d, e], _, ht => simp [sumS] at ht; simp [RT.val, w123, inRng, iN, R.get, lKnown, lKnownT]; omega
    | [a, b, d, e, f], _, ht => simp [sumS] at ht; simp [RT.val, w123, inRng, iN, R.get, lKnown, lKnownT]; omega
    | a :: b :: d :: e :: f :: g :: t, h, _ => simp at h
  have := key _ rfl
  exact ⟨by simp only [lSumsC, this]; rfl, by simp only [lSums, this, getO]⟩
def takT (c op : Int) : Bool :=
  let x1 : Bool := (rDecode c op).2.2.2.2.2.2.1 != 11
  decide (rTotal c op true ≥ rTotal c op false) && bif bif (rDecode c op).1 == 24 then x1 else bif (rDecode c op).1 == 25 then x1 else bif (rDecode c op).1 == 26 then x1 else (rDecode c op).1 == 45 && x1 then lKnown else rTotal c op true == rTotal c op false && lKnown
theorem taken_law (c op : Int) (h : inR .u8 op) : lTakenC c op = true ∧ lTaken c op = true := by
  obtain ⟨hp, hq⟩ := place2 c
  have key : (lTakenT c op).val = some (takT (IntKind.wrap .i64 (1 + mPlace c 2)) op) := by
    simp only [lTakenT, RT.val, hp, cond_true]; rfl
  have fin : takT (IntKind.wrap .i64 (1 + mPlace c 2)) op = true := by
    rcases hq with e | e
    · rw [e]; exact byte_all (takT 1) (by kernel_rfl) op h
    · rw [e]; exact byte_all (takT 2) (by kernel_rfl) op h
  rw [fin] at key
  exact ⟨by simp only [lTakenC, key]; rfl, by simp only [lTaken, key, getO]⟩
end
end Go.Proofs.Ytiflfdlglncjlaa
