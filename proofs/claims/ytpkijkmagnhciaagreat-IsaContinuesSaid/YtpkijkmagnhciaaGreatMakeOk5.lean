/-
  What the makers of inputs make: in range, and never a panic. Conditions: none.
-/
import Derived.Test.YtpkijkmagnhciaaGreatMake
open Go Go.S3 Go.Proofs
set_option linter.unusedVariables false
set_option linter.unusedSimpArgs false
set_option maxRecDepth 100000
namespace Go.Proofs.YtpkijkmagnhciaaGreat
noncomputable section
def NB (s : List Int × Int) (k : Int) : Prop := 0 ≤ s.2 ∧ s.2 ≤ k
theorem mPlace_eq (x n : Int) (h0 : 0 < n) (h1 : n ≤ 4611686018427387904) : mPlaceC x n = true ∧ mPlace x n = (x % 18446744073709551616) % n := by
  have e : IntKind.wrap .u64 n = n := wrap_in ⟨by simp [IntKind.min, IntKind.signed]; omega, by simp [IntKind.max, IntKind.signed, IntKind.bits]; omega⟩
  have e2 : IntKind.wrap .u64 x = x % 18446744073709551616 := by simp [IntKind.wrap, IntKind.signed, IntKind.bits]
  have hn : (n != 0) = true := by simp; omega
  have h2 : 0 ≤ x % 18446744073709551616 := Int.emod_nonneg _ (by decide)
  have h3 := Int.emod_nonneg (x % 18446744073709551616) (b := n) (by omega)
  have h4 := Int.emod_lt_of_pos (x % 18446744073709551616) (b := n) h0
  have hv : (mPlaceT x n).val = some ((x % 18446744073709551616) % n) := by
    simp only [mPlaceT, RT.val, e, e2, hn, cond_true, Int.tmod_eq_emod_of_nonneg h2]
    rw [wrap_i64 _ (by omega) (by omega)]
  exact ⟨by simp only [mPlaceC, hv]; rfl, by simp only [mPlace, hv, getO]⟩
theorem nNext_in {s : List Int × Int} {k : Int} (h : NB s k) (hk : k ≤ 1000000) (n : Int) (h0 : 0 < n) (h1 : n ≤ 4611686018427387904) :
    nNextC s n = true ∧ NB (nNext s n).2 (k + 1) ∧ 0 ≤ (nNext s n).1 ∧ (nNext s n).1 < n := by
  obtain ⟨ha, hb⟩ := h
  have e1 : IntKind.wrap .i64 (s.2 + 1) = s.2 + 1 := wrap_i64 _ (by omega) (by omega)
  have e2 : IntKind.wrap .i64 s.2 = s.2 := wrap_i64 _ (by omega) (by omega)
  by_cases hl : (s.1.length : Int) ≤ s.2
  · have hv : (nNextT s n).val = some (0, s.1, s.2 + 1) := by simp [nNextT, RT.val, iN, hl, e1]
    simp only [nNextC, nNext, hv, okB, getO, NB]
    exact ⟨trivial, ⟨by omega, by omega⟩, by omega, h0⟩
  · have hr : inRng s.2 s.1.length = true := inRng_iff.2 ⟨ha, by omega⟩
    obtain ⟨p1, p2⟩ := mPlace_eq (R.get (R.int IntKind.i64) s.1 s.2) n h0 h1
    have h3 := Int.emod_nonneg (R.get (R.int IntKind.i64) s.1 s.2 % 18446744073709551616) (b := n) (by omega)
    have h4 := Int.emod_lt_of_pos (R.get (R.int IntKind.i64) s.1 s.2 % 18446744073709551616) (b := n) h0
    have hv : (nNextT s n).val = some ((R.get (R.int IntKind.i64) s.1 s.2 % 18446744073709551616) % n, s.1, s.2 + 1) := by simp [nNextT, RT.val, iN, hl, e1, e2, hr, p1, p2]
    simp only [nNextC, nNext, hv, okB, getO, NB]
    exact ⟨trivial, ⟨by omega, by omega⟩, h3, h4⟩
theorem nByte_in {s : List Int × Int} {k : Int} (h : NB s k) (hk : k ≤ 1000000) : nByteC s = true ∧ NB (nByte s).2 (k + 1) ∧ inR .u8 (nByte s).1 := by
  obtain ⟨c, b, d0, d1⟩ := nNext_in h hk 512 (by decide) (by decide)
  have m0 : 0 ≤ (nNext s 512).1 % 16 := Int.emod_nonneg _ (by decide)
  have m1 : (nNext s 512).1 % 16 < 16 := Int.emod_lt_of_pos _ (by decide)
  have ht : Int.tmod (nNext s 512).1 16 = (nNext s 512).1 % 16 := Int.tmod_eq_emod_of_nonneg d0
  by_cases hn : 256 ≤ (nNext s 512).1
  · have hv : (nByteT s).val = some (R.get (R.int IntKind.u8) [0, 1, 127, 128, 255, 15, 16, 153, 154, 9, 102, 254, 129, 85, 170, 64] ((nNext s 512).1 % 16), (nNext s 512).2) := by
      simp [nByteT, RT.val, c, hn, ht, inRng, m0, m1]
    simp only [nByteC, nByte, hv, okB, getO]
    refine ⟨trivial, b, ?_⟩
    have hall : ∀ i : Nat, i < 16 → inR .u8 (([0, 1, 127, 128, 255, 15, 16, 153, 154, 9, 102, 254, 129, 85, 170, 64] : List Int).getD i 0) := by
      intro i hi
      have : ∀ i : Fin 16, decide (0 ≤ ([0, 1, 127, 128, 255, 15, 16, 153, 154, 9, 102, 254, 129, 85, 170, 64] : List Int).getD i 0) && decide (([0, 1, 127, 128, 255, 15, 16, 153, 154, 9, 102, 254, 129, 85, 170, 64] : List Int).getD i 0 ≤ 255) := by decide
      have := this ⟨i, hi⟩
      rw [inR_u8]; simpa using this
    exact hall ((nNext s 512).1 % 16).toNat (by omega)
  · have hv : (nByteT s).val = some (IntKind.wrap .u8 (nNext s 512).1, (nNext s 512).2) := by simp [nByteT, RT.val, c, hn]
    simp only [nByteC, nByte, hv, okB, getO]
    exact ⟨trivial, b, inR_wrap _ _⟩
theorem nWord_in {s : List Int × Int} {k : Int} (h : NB s k) (hk : k ≤ 900000) : nWordC s = true ∧ NB (nWord s).2 (k + 2) ∧ inR .u16 (nWord s).1 := by
  obtain ⟨c, b, d0, d1⟩ := nNext_in h (by omega) 5 (by decide) (by decide)
  obtain ⟨c8, b8, e0, e1⟩ := nNext_in b (by omega) 8 (by decide) (by decide)
  obtain ⟨c6, b6, _⟩ := nNext_in b (by omega) 65536 (by decide) (by decide)
  obtain ⟨c4, b4, _⟩ := nNext_in b (by omega) 64 (by decide) (by decide)
  have w : ∀ {t : List Int × Int}, NB t (k + 1 + 1) → NB t (k + 2) := fun h => ⟨h.1, by have := h.2; omega⟩
  have hr : inRng (nNext (nNext s 5).2 8).1 8 = true := inRng_iff.2 ⟨e0, by omega⟩
  by_cases h0 : (nNext s 5).1 = 0
  · have hv : (nWordT s).val = some (R.get (R.int IntKind.u16) [0, 1, 65535, 65534, 32767, 32768, 255, 256] (nNext (nNext s 5).2 8).1, (nNext (nNext s 5).2 8).2) := by
      simp [nWordT, RT.val, c, h0, c8, hr]
    simp only [nWordC, nWord, hv, okB, getO]
    refine ⟨trivial, w b8, ?_⟩
    have hall : ∀ i : Nat, i < 8 → inR .u16 (([0, 1, 65535, 65534, 32767, 32768, 255, 256] : List Int).getD i 0) := by
      intro i hi
      have : ∀ i : Fin 8, decide (0 ≤ ([0, 1, 65535, 65534, 32767, 32768, 255, 256] : List Int).getD i 0) && decide (([0, 1, 65535, 65534, 32767, 32768, 255, 256] : List Int).getD i 0 ≤ 65535) := by decide
      have := this ⟨i, hi⟩
      simp only [Bool.and_eq_true, decide_eq_true_eq] at this
      exact ⟨by simpa [IntKind.min, IntKind.signed] using this.1, by simpa [IntKind.max, IntKind.signed, IntKind.bits] using this.2⟩
    exact hall (nNext (nNext s 5).2 8).1.toNat (by omega)
  · by_cases h1 : (nNext s 5).1 = 1
    · have hv : (nWordT s).val = some (IntKind.wrap .u16 (nNext (nNext s 5).2 65536).1, (nNext (nNext s 5).2 65536).2) := by simp [nWordT, RT.val, c, h1, c6]
      simp only [nWordC, nWord, hv, okB, getO]
      exact ⟨trivial, w b6, inR_wrap _ _⟩
    · have hv : (nWordT s).val = some (IntKind.wrap .u16 (nNext (nNext s 5).2 64).1, (nNext (nNext s 5).2 64).2) := by
        have g0 : ((nNext s 5).1 == 0) = false := by simpa using h0
        have g1 : ((nNext s 5).1 == 1) = false := by simpa using h1
        simp [nWordT, RT.val, c, g0, g1, c4]
      simp only [nWordC, nWord, hv, okB, getO]
      exact ⟨trivial, w b4, inR_wrap _ _⟩
theorem nChip_in {s : List Int × Int} {k : Int} (h : NB s k) (hk : k ≤ 1000000) : nChipC s = true ∧ NB (nChip s).2 (k + 1) ∧ ((nChip s).1 = 1 ∨ (nChip s).1 = 2) := by
  obtain ⟨c, b, d0, d1⟩ := nNext_in h hk 2 (by decide) (by decide)
  have hv : (nChipT s).val = some (1 + (nNext s 2).1, (nNext s 2).2) := by simp [nChipT, RT.val, c]; rw [wrap_i64 _ (by omega) (by omega)]
  simp only [nChipC, nChip, hv, okB, getO]
  exact ⟨trivial, b, by omega⟩
theorem nFlags_in {s : List Int × Int} {k : Int} (h : NB s k) (hk : k ≤ 1000000) (c : Int) : nFlagsC s c = true ∧ NB (nFlags s c).2 (k + 1) := by
  obtain ⟨c1, b, _⟩ := nNext_in h hk 128 (by decide) (by decide)
  simp only [nFlagsC, nFlags, nFlagsT, RT.val, c1, cond_true, okB, getO]
  exact ⟨trivial, b⟩
def RegOk (r : Int × Int × Int × Int × Int × Int × Int × (Bool × Bool × Bool × Bool × Bool × Bool × Bool) × Int × Int) : Prop :=
  inR .u8 r.1 ∧ inR .u8 r.2.1 ∧ inR .u8 r.2.2.1 ∧ inR .u8 r.2.2.2.1 ∧ inR .u8 r.2.2.2.2.1 ∧ inR .u8 r.2.2.2.2.2.1 ∧ inR .u8 r.2.2.2.2.2.2.1 ∧ inR .u16 r.2.2.2.2.2.2.2.2.1 ∧ inR .u16 r.2.2.2.2.2.2.2.2.2
theorem nRegs_in {s : List Int × Int} {k : Int} (h : NB s k) (hk : k ≤ 800000) (c : Int) : nRegsC s c = true ∧ NB (nRegs s c).2 (k + 12) ∧ RegOk (nRegs s c).1 := by
  obtain ⟨c1, b1, r1⟩ := nByte_in h (by omega)
  obtain ⟨c2, b2, r2⟩ := nByte_in b1 (by omega)
  obtain ⟨c3, b3, r3⟩ := nByte_in b2 (by omega)
  obtain ⟨c4, b4, r4⟩ := nByte_in b3 (by omega)
  obtain ⟨c5, b5, r5⟩ := nByte_in b4 (by omega)
  obtain ⟨c6, b6, r6⟩ := nByte_in b5 (by omega)
  obtain ⟨c7, b7, r7⟩ := nByte_in b6 (by omega)
  obtain ⟨c8, b8⟩ := nFlags_in b7 (by omega) c
  obtain ⟨c9, b9, r9⟩ := nWord_in b8 (by omega)
  obtain ⟨c10, b10, r10⟩ := nWord_in b9 (by omega)
  have hv : (nRegsT s c).val = some (((nByte s).1, (nByte (nByte s).2).1, (nByte (nByte (nByte s).2).2).1, (nByte (nByte (nByte (nByte s).2).2).2).1, (nByte (nByte (nByte (nByte (nByte s).2).2).2).2).1, (nByte (nByte (nByte (nByte (nByte (nByte s).2).2).2).2).2).1, (nByte (nByte (nByte (nByte (nByte (nByte (nByte s).2).2).2).2).2).2).1, (nFlags (nByte (nByte (nByte (nByte (nByte (nByte (nByte s).2).2).2).2).2).2).2 c).1, (nWord (nFlags (nByte (nByte (nByte (nByte (nByte (nByte (nByte s).2).2).2).2).2).2).2 c).2).1, (nWord (nWord (nFlags (nByte (nByte (nByte (nByte (nByte (nByte (nByte s).2).2).2).2).2).2).2 c).2).2).1), (nWord (nWord (nFlags (nByte (nByte (nByte (nByte (nByte (nByte (nByte s).2).2).2).2).2).2).2 c).2).2).2) := by
    simp only [nRegsT, RT.val, c1, c2, c3, c4, c5, c6, c7, c8, c9, c10, Bool.not_true, Bool.false_or, cond_true, Bool.or_true]
  simp only [nRegsC, nRegs, hv, okB, getO]
  exact ⟨trivial, ⟨b10.1, by have := b10.2; omega⟩, r1, r2, r3, r4, r5, r6, r7, r9, r10⟩
theorem nOpcode_in {s : List Int × Int} {k : Int} (h : NB s k) (hk : k ≤ 900000) : nOpcodeC s = true ∧ NB (nOpcode s).2 (k + 2) ∧ inR .u8 (nOpcode s).1 := by
  obtain ⟨c, b, d0, d1⟩ := nNext_in h (by omega) 3 (by decide) (by decide)
  have w : ∀ {t : List Int × Int}, NB t (k + 1 + 1) → NB t (k + 2) := fun h => ⟨h.1, by have := h.2; omega⟩
  by_cases hn : 0 < (nNext s 3).1
  · have hk' : k + 1 ≤ 1000001 := by omega
    obtain ⟨c2, b2, _⟩ := nNext_in b (by omega) 256 (by decide) (by decide)
    have hv : (nOpcodeT s).val = some (IntKind.wrap .u8 (nNext (nNext s 3).2 256).1, (nNext (nNext s 3).2 256).2) := by simp [nOpcodeT, RT.val, c, hn, c2]
    simp only [nOpcodeC, nOpcode, hv, okB, getO]
    exact ⟨trivial, w b2, inR_wrap _ _⟩
  · obtain ⟨c2, b2, e0, e1⟩ := nNext_in b (by omega) 18 (by decide) (by decide)
    have hr : inRng (nNext (nNext s 3).2 18).1 18 = true := inRng_iff.2 ⟨e0, by omega⟩
    have hv : (nOpcodeT s).val = some (R.get (R.int IntKind.u8) [251, 243, 118, 205, 201, 197, 227, 211, 219, 54, 52, 32, 48, 194, 202, 255, 62, 49] (nNext (nNext s 3).2 18).1, (nNext (nNext s 3).2 18).2) := by
      simp [nOpcodeT, RT.val, c, hn, c2, hr]
    simp only [nOpcodeC, nOpcode, hv, okB, getO]
    refine ⟨trivial, w b2, ?_⟩
    have hall : ∀ i : Nat, i < 18 → inR .u8 (([251, 243, 118, 205, 201, 197, 227, 211, 219, 54, 52, 32, 48, 194, 202, 255, 62, 49] : List Int).getD i 0) := by
      intro i hi
      have : ∀ i : Fin 18, decide (0 ≤ ([251, 243, 118, 205, 201, 197, 227, 211, 219, 54, 52, 32, 48, 194, 202, 255, 62, 49] : List Int).getD i 0) && decide (([251, 243, 118, 205, 201, 197, 227, 211, 219, 54, 52, 32, 48, 194, 202, 255, 62, 49] : List Int).getD i 0 ≤ 255) := by decide
      have := this ⟨i, hi⟩
      rw [inR_u8]; simpa using this
    exact hall (nNext (nNext s 3).2 18).1.toNat (by omega)
theorem from_ok (l : List Int) : NB (l, 0) 0 := ⟨by simp, by simp⟩
end
end Go.Proofs.YtpkijkmagnhciaaGreat
