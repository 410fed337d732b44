/-
  What the makers of inputs make: in range, and never a panic. Conditions: none.
-/
import Derived.Test.YtghoimllhpjkjaaGreatMake
open Go.IntKind (u8 u16 i64)
open Go Go.S3 Go.Proofs
set_option linter.unusedVariables false
set_option linter.unusedSimpArgs false
set_option maxRecDepth 100000
namespace Go.Proofs.YtghoimllhpjkjaaGreat
noncomputable section
def NB (s : List Int × Int) (k : Int) : Prop := 0 ≤ s.2 ∧ s.2 ≤ k
theorem Zww (x n : Int) (h0 : 0 < n) (h1 : n ≤ 4611686018427387904) : Znu x n = true ∧ Znv x n = (x % 18446744073709551616) % n := by
 have e : IntKind.wrap .u64 n = n := ZpN ⟨by simp [IntKind.min, IntKind.signed]; omega, by simp [IntKind.max, IntKind.signed, IntKind.bits]; omega⟩
 have e2 : IntKind.wrap .u64 x = x % 18446744073709551616 := by simp [IntKind.wrap, IntKind.signed, IntKind.bits]
 have hn : (n != 0) = true := by simp; omega
 have h2 : 0 ≤ x % 18446744073709551616 := Int.emod_nonneg _ (by decide)
 have h3 := Int.emod_nonneg (x % 18446744073709551616) (b := n) (by omega)
 have h4 := Int.emod_lt_of_pos (x % 18446744073709551616) (b := n) h0
 have hv : (Znt x n).val = some ((x % 18446744073709551616) % n) := by
  simp only [Znt, RT.val, e, e2, hn, cond_true, Int.tmod_eq_emod_of_nonneg h2]
  rw [ZH _ (by omega) (by omega)]
 exact ⟨by simp only [Znu, hv]; rfl, by simp only [Znv, hv, getO]⟩
theorem ZB {s : List Int × Int} {k : Int} (h : NB s k) (hk : k ≤ 1000000) (n : Int) (h0 : 0 < n) (h1 : n ≤ 4611686018427387904) :
  Zq s n = true ∧ NB (Zd s n).2 (k + 1) ∧ 0 ≤ (Zd s n).1 ∧ (Zd s n).1 < n := by
 obtain ⟨ha, hb⟩ := h
 have e1 : IntKind.wrap .i64 (s.2 + 1) = s.2 + 1 := ZH _ (by omega) (by omega)
 have e2 : IntKind.wrap .i64 s.2 = s.2 := ZH _ (by omega) (by omega)
 by_cases hl : (s.1.length : Int) ≤ s.2
 ·have hv : (Znf s n).val = some (0, s.1, s.2 + 1) := by simp [Znf, RT.val, iN, hl, e1]
  simp only [Zq, Zd, hv, okB, getO, NB]
  exact ⟨trivial, ⟨by omega, by omega⟩, by omega, h0⟩
 ·have hr : Zg s.2 s.1.length = true := Zac.2 ⟨ha, by omega⟩
  obtain ⟨p1, p2⟩ := Zww (R.get (R.int i64) s.1 s.2) n h0 h1
  have h3 := Int.emod_nonneg (R.get (R.int i64) s.1 s.2 % 18446744073709551616) (b := n) (by omega)
  have h4 := Int.emod_lt_of_pos (R.get (R.int i64) s.1 s.2 % 18446744073709551616) (b := n) h0
  have hv : (Znf s n).val = some ((R.get (R.int i64) s.1 s.2 % 18446744073709551616) % n, s.1, s.2 + 1) := by simp [Znf, RT.val, iN, hl, e1, e2, hr, p1, p2]
  simp only [Zq, Zd, hv, okB, getO, NB]
  exact ⟨trivial, ⟨by omega, by omega⟩, h3, h4⟩
theorem Zcj {s : List Int × Int} {k : Int} (h : NB s k) (hk : k ≤ 1000000) : Zaj s = true ∧ NB (Zm s).2 (k + 1) ∧ inR .u8 (Zm s).1 := by
 obtain ⟨c, b, d0, d1⟩ := ZB h hk 512 (by decide) (by decide)
 have m0 : 0 ≤ (Zd s 512).1 % 16 := Int.emod_nonneg _ (by decide)
 have m1 : (Zd s 512).1 % 16 < 16 := Int.emod_lt_of_pos _ (by decide)
 have ht : Int.tmod (Zd s 512).1 16 = (Zd s 512).1 % 16 := Int.tmod_eq_emod_of_nonneg d0
 by_cases hn : 256 ≤ (Zd s 512).1
 ·have hv : (Znl s).val = some (R.get (R.int u8) [0, 1, 127, 128, 255, 15, 16, 153, 154, 9, 102, 254, 129, 85, 170, 64] ((Zd s 512).1 % 16), (Zd s 512).2) := by
   simp [Znl, RT.val, c, hn, ht, Zg, m0, m1]
  simp only [Zaj, Zm, hv, okB, getO]
  refine ⟨trivial, b, ?_⟩
  have hall : ∀ i : Nat, i < 16 → inR .u8 (([0, 1, 127, 128, 255, 15, 16, 153, 154, 9, 102, 254, 129, 85, 170, 64] : List Int).getD i 0) := by
   intro i hi
   have : ∀ i : Fin 16, decide (0 ≤ ([0, 1, 127, 128, 255, 15, 16, 153, 154, 9, 102, 254, 129, 85, 170, 64] : List Int).getD i 0) && decide (([0, 1, 127, 128, 255, 15, 16, 153, 154, 9, 102, 254, 129, 85, 170, 64] : List Int).getD i 0 ≤ 255) := by decide
   have := this ⟨i, hi⟩
   rw [ZfY]; simpa using this
  exact hall ((Zd s 512).1 % 16).toNat (by omega)
 ·have hv : (Znl s).val = some (IntKind.wrap .u8 (Zd s 512).1, (Zd s 512).2) := by simp [Znl, RT.val, c, hn]
  simp only [Zaj, Zm, hv, okB, getO]
  exact ⟨trivial, b, ZaZ _ _⟩
theorem Ztg {s : List Int × Int} {k : Int} (h : NB s k) (hk : k ≤ 900000) : Zd4 s = true ∧ NB (Za2 s).2 (k + 2) ∧ inR .u16 (Za2 s).1 := by
 obtain ⟨c, b, d0, d1⟩ := ZB h (by omega) 5 (by decide) (by decide)
 obtain ⟨c8, b8, e0, e1⟩ := ZB b (by omega) 8 (by decide) (by decide)
 obtain ⟨c6, b6, _⟩ := ZB b (by omega) 65536 (by decide) (by decide)
 obtain ⟨c4, b4, _⟩ := ZB b (by omega) 64 (by decide) (by decide)
 have w : ∀ {t : List Int × Int}, NB t (k + 1 + 1) → NB t (k + 2) := fun h => ⟨h.1, by have := h.2; omega⟩
 have hr : Zg (Zd (Zd s 5).2 8).1 8 = true := Zac.2 ⟨e0, by omega⟩
 by_cases h0 : (Zd s 5).1 = 0
 ·have hv : (Zh4 s).val = some (R.get (R.int u16) [0, 1, 65535, 65534, 32767, 32768, 255, 256] (Zd (Zd s 5).2 8).1, (Zd (Zd s 5).2 8).2) := by
   simp [Zh4, RT.val, c, h0, c8, hr]
  simp only [Zd4, Za2, hv, okB, getO]
  refine ⟨trivial, w b8, ?_⟩
  have hall : ∀ i : Nat, i < 8 → inR .u16 (([0, 1, 65535, 65534, 32767, 32768, 255, 256] : List Int).getD i 0) := by
   intro i hi
   have : ∀ i : Fin 8, decide (0 ≤ ([0, 1, 65535, 65534, 32767, 32768, 255, 256] : List Int).getD i 0) && decide (([0, 1, 65535, 65534, 32767, 32768, 255, 256] : List Int).getD i 0 ≤ 65535) := by decide
   have := this ⟨i, hi⟩
   simp only [Bool.and_eq_true, decide_eq_true_eq] at this
   exact ⟨by simpa [IntKind.min, IntKind.signed] using this.1, by simpa [IntKind.max, IntKind.signed, IntKind.bits] using this.2⟩
  exact hall (Zd (Zd s 5).2 8).1.toNat (by omega)
 ·by_cases h1 : (Zd s 5).1 = 1
  ·have hv : (Zh4 s).val = some (IntKind.wrap .u16 (Zd (Zd s 5).2 65536).1, (Zd (Zd s 5).2 65536).2) := by simp [Zh4, RT.val, c, h1, c6]
   simp only [Zd4, Za2, hv, okB, getO]
   exact ⟨trivial, w b6, ZaZ _ _⟩
  ·have hv : (Zh4 s).val = some (IntKind.wrap .u16 (Zd (Zd s 5).2 64).1, (Zd (Zd s 5).2 64).2) := by
    have g0 : ((Zd s 5).1 == 0) = false := by simpa using h0
    have g1 : ((Zd s 5).1 == 1) = false := by simpa using h1
    simp [Zh4, RT.val, c, g0, g1, c4]
   simp only [Zd4, Za2, hv, okB, getO]
   exact ⟨trivial, w b4, ZaZ _ _⟩
theorem ZD5 {s : List Int × Int} {k : Int} (h : NB s k) (hk : k ≤ 1000000) : Zjy s = true ∧ NB (ZN s).2 (k + 1) ∧ ((ZN s).1 = 1 ∨ (ZN s).1 = 2) := by
 obtain ⟨c, b, d0, d1⟩ := ZB h hk 2 (by decide) (by decide)
 have hv : (Zwk s).val = some (1 + (Zd s 2).1, (Zd s 2).2) := by simp [Zwk, RT.val, c]; rw [ZH _ (by omega) (by omega)]
 simp only [Zjy, ZN, hv, okB, getO]
 exact ⟨trivial, b, by omega⟩
theorem ZM1 {s : List Int × Int} {k : Int} (h : NB s k) (hk : k ≤ 1000000) (c : Int) : Ztr s c = true ∧ NB (Zjx s c).2 (k + 1) := by
 obtain ⟨c1, b, _⟩ := ZB h hk 128 (by decide) (by decide)
 simp only [Ztr, Zjx, Zto, RT.val, c1, cond_true, okB, getO]
 exact ⟨trivial, b⟩
def RegOk (r : Int × Int × Int × Int × Int × Int × Int × (Bool × Bool × Bool × Bool × Bool × Bool × Bool) × Int × Int) : Prop :=
 inR .u8 r.1 ∧ inR .u8 r.2.1 ∧ inR .u8 r.2.2.1 ∧ inR .u8 r.2.2.2.1 ∧ inR .u8 r.2.2.2.2.1 ∧ inR .u8 r.2.2.2.2.2.1 ∧ inR .u8 r.2.2.2.2.2.2.1 ∧ inR .u16 r.2.2.2.2.2.2.2.2.1 ∧ inR .u16 r.2.2.2.2.2.2.2.2.2
theorem ZQh {s : List Int × Int} {k : Int} (h : NB s k) (hk : k ≤ 800000) (c : Int) : Zwb s c = true ∧ NB (ZiS s c).2 (k + 12) ∧ RegOk (ZiS s c).1 := by
 obtain ⟨c1, b1, r1⟩ := Zcj h (by omega)
 obtain ⟨c2, b2, r2⟩ := Zcj b1 (by omega)
 obtain ⟨c3, b3, r3⟩ := Zcj b2 (by omega)
 obtain ⟨c4, b4, r4⟩ := Zcj b3 (by omega)
 obtain ⟨c5, b5, r5⟩ := Zcj b4 (by omega)
 obtain ⟨c6, b6, r6⟩ := Zcj b5 (by omega)
 obtain ⟨c7, b7, r7⟩ := Zcj b6 (by omega)
 obtain ⟨c8, b8⟩ := ZM1 b7 (by omega) c
 obtain ⟨c9, b9, r9⟩ := Ztg b8 (by omega)
 obtain ⟨c10, b10, r10⟩ := Ztg b9 (by omega)
 have hv : (Zwa s c).val = some (((Zm s).1, (Zm (Zm s).2).1, (Zm (Zm (Zm s).2).2).1, (Zm (Zm (Zm (Zm s).2).2).2).1, (Zm (Zm (Zm (Zm (Zm s).2).2).2).2).1, (Zm (Zm (Zm (Zm (Zm (Zm s).2).2).2).2).2).1, (Zm (Zm (Zm (Zm (Zm (Zm (Zm s).2).2).2).2).2).2).1, (Zjx (Zm (Zm (Zm (Zm (Zm (Zm (Zm s).2).2).2).2).2).2).2 c).1, (Za2 (Zjx (Zm (Zm (Zm (Zm (Zm (Zm (Zm s).2).2).2).2).2).2).2 c).2).1, (Za2 (Za2 (Zjx (Zm (Zm (Zm (Zm (Zm (Zm (Zm s).2).2).2).2).2).2).2 c).2).2).1), (Za2 (Za2 (Zjx (Zm (Zm (Zm (Zm (Zm (Zm (Zm s).2).2).2).2).2).2).2 c).2).2).2) := by
  simp only [Zwa, RT.val, c1, c2, c3, c4, c5, c6, c7, c8, c9, c10, Bool.not_true, Bool.false_or, cond_true, Bool.or_true]
 simp only [Zwb, ZiS, hv, okB, getO]
 exact ⟨trivial, ⟨b10.1, by have := b10.2; omega⟩, r1, r2, r3, r4, r5, r6, r7, r9, r10⟩
theorem Zwf {s : List Int × Int} {k : Int} (h : NB s k) (hk : k ≤ 1000000) : Zng s = true ∧ NB (Zch s).2 (k + 1) := by
 obtain ⟨c, b, _⟩ := ZB h hk 512 (by decide) (by decide)
 simp only [Zng, Zch, Ztj, RT.val, c, cond_true, okB, getO]
 exact ⟨trivial, b⟩
theorem ZiW {s : List Int × Int} {k : Int} (h : NB s k) (hk : k ≤ 900000) : ZbL s = true ∧ NB (Zal s).2 (k + 2) ∧ inR .u8 (Zal s).1 := by
 obtain ⟨c, b, d0, d1⟩ := ZB h (by omega) 3 (by decide) (by decide)
 have w : ∀ {t : List Int × Int}, NB t (k + 1 + 1) → NB t (k + 2) := fun h => ⟨h.1, by have := h.2; omega⟩
 by_cases hn : 0 < (Zd s 3).1
 ·have hk' : k + 1 ≤ 1000001 := by omega
  obtain ⟨c2, b2, _⟩ := ZB b (by omega) 256 (by decide) (by decide)
  have hv : (ZeX s).val = some (IntKind.wrap .u8 (Zd (Zd s 3).2 256).1, (Zd (Zd s 3).2 256).2) := by simp [ZeX, RT.val, c, hn, c2]
  simp only [ZbL, Zal, hv, okB, getO]
  exact ⟨trivial, w b2, ZaZ _ _⟩
 ·obtain ⟨c2, b2, e0, e1⟩ := ZB b (by omega) 18 (by decide) (by decide)
  have hr : Zg (Zd (Zd s 3).2 18).1 18 = true := Zac.2 ⟨e0, by omega⟩
  have hv : (ZeX s).val = some (R.get (R.int u8) [251, 243, 118, 205, 201, 197, 227, 211, 219, 54, 52, 32, 48, 194, 202, 255, 62, 49] (Zd (Zd s 3).2 18).1, (Zd (Zd s 3).2 18).2) := by
   simp [ZeX, RT.val, c, hn, c2, hr]
  simp only [ZbL, Zal, hv, okB, getO]
  refine ⟨trivial, w b2, ?_⟩
  have hall : ∀ i : Nat, i < 18 → inR .u8 (([251, 243, 118, 205, 201, 197, 227, 211, 219, 54, 52, 32, 48, 194, 202, 255, 62, 49] : List Int).getD i 0) := by
   intro i hi
   have : ∀ i : Fin 18, decide (0 ≤ ([251, 243, 118, 205, 201, 197, 227, 211, 219, 54, 52, 32, 48, 194, 202, 255, 62, 49] : List Int).getD i 0) && decide (([251, 243, 118, 205, 201, 197, 227, 211, 219, 54, 52, 32, 48, 194, 202, 255, 62, 49] : List Int).getD i 0 ≤ 255) := by decide
   have := this ⟨i, hi⟩
   rw [ZfY]; simpa using this
  exact hall (Zd (Zd s 3).2 18).1.toNat (by omega)
theorem ZND (l : List Int) : NB (l, 0) 0 := ⟨by simp, by simp⟩
end
end Go.Proofs.YtghoimllhpjkjaaGreat
