/-
  Plain lemmas on the numbers of the model: wrapping, bits, bytes. Contracts without a condition. Conditions: none (lemmas).
-/
import Derived.Test.YtiflfdlglncjlaaS3Read
set_option linter.unusedSimpArgs false
set_option linter.unusedVariables false
namespace Go.S3

theorem wrap_u8 (n : Int) : IntKind.wrap .u8 n = n % 256 := by simp [IntKind.wrap, IntKind.signed, IntKind.bits]
theorem wrap_u16 (n : Int) : IntKind.wrap .u16 n = n % 65536 := by simp [IntKind.wrap, IntKind.signed, IntKind.bits]
theorem wrap_i8 (n : Int) : IntKind.wrap .i8 n = if n % 256 ≥ 128 then n % 256 - 256 else n % 256 := by simp [IntKind.wrap, IntKind.signed, IntKind.bits]
theorem wrap_i16 (n : Int) : IntKind.wrap .i16 n = if n % 65536 ≥ 32768 then n % 65536 - 65536 else n % 65536 := by simp [IntKind.wrap, IntKind.signed, IntKind.bits]
theorem wrap_i64 (n : Int) (h : -9223372036854775808 ≤ n) (h2 : n ≤ 9223372036854775807) : IntKind.wrap .i64 n = n := by
  simp [IntKind.wrap, IntKind.signed, IntKind.bits]
  split <;> omega
theorem inR_u8 {n : Int} : inR .u8 n ↔ 0 ≤ n ∧ n ≤ 255 := by simp [inR, IntKind.min, IntKind.max, IntKind.signed, IntKind.bits]
theorem inR_u16 {n : Int} : inR .u16 n ↔ 0 ≤ n ∧ n ≤ 65535 := by simp [inR, IntKind.min, IntKind.max, IntKind.signed, IntKind.bits]
theorem inR_i64 {n : Int} : inR .i64 n ↔ -9223372036854775808 ≤ n ∧ n ≤ 9223372036854775807 := by simp [inR, IntKind.min, IntKind.max, IntKind.signed, IntKind.bits]
theorem wrap_in {k : IntKind} {n : Int} (h : inR k n) : IntKind.wrap k n = n := by
  revert h
  cases k <;> simp [inR, IntKind.wrap, IntKind.min, IntKind.max, IntKind.signed, IntKind.bits] <;> (try split) <;> omega

/-- What holds of each byte, one by one. -/
theorem byte_all (p : Int → Bool) (h : (List.range 256).all (fun n => p (n : Int)) = true) (b : Int) (hb : inR .u8 b) : p b = true := by
  rw [inR_u8] at hb
  have := List.all_eq_true.1 h b.toNat (by simp; omega)
  rwa [show ((b.toNat : Nat) : Int) = b by omega] at this

theorem wrap_nat_le {k : IntKind} {n m : Nat} (h : n ≤ m) (hm : inR k (m : Int)) : k.wrap (n : Int) = n := by
  apply wrap_in
  have := hm.2
  have h1 : k.min ≤ 0 := by cases k <;> simp [IntKind.min, IntKind.signed, IntKind.bits]
  exact ⟨by omega, by omega⟩
/-- x & m is at most m. -/
theorem andI_le (k : IntKind) (x m : Int) (h0 : 0 ≤ m) (hm : inR k m) : 0 ≤ andI k x m ∧ andI k x m ≤ m := by
  unfold andI
  have h1 : ((BitVec.ofInt k.bits x) &&& (BitVec.ofInt k.bits m)).toNat ≤ m.toNat := by
    rw [BitVec.toNat_and]
    refine Nat.le_trans Nat.and_le_right ?_
    rw [BitVec.toNat_ofInt]
    have : m % ((2 ^ k.bits : Nat) : Int) ≤ m := by
      have e1 := Int.emod_add_mul_ediv m ((2 ^ k.bits : Nat) : Int)
      have e2 : 0 ≤ m / ((2 ^ k.bits : Nat) : Int) := Int.ediv_nonneg h0 (by omega)
      have e3 : 0 ≤ ((2 ^ k.bits : Nat) : Int) * (m / ((2 ^ k.bits : Nat) : Int)) := Int.mul_nonneg (by omega) e2
      omega
    omega
  rw [wrap_nat_le h1 (by rw [Int.toNat_of_nonneg h0]; exact hm)]
  omega
theorem and7 (x : Int) : 0 ≤ andI .i64 x 7 ∧ andI .i64 x 7 ≤ 7 := andI_le _ _ _ (by decide) (by rw [inR_i64]; omega)
theorem and3 (x : Int) : 0 ≤ andI .i64 x 3 ∧ andI .i64 x 3 ≤ 3 := andI_le _ _ _ (by decide) (by rw [inR_i64]; omega)
theorem and15 (x : Int) : 0 ≤ andI .u8 x 15 ∧ andI .u8 x 15 ≤ 15 := andI_le _ _ _ (by decide) (by rw [inR_u8]; omega)
theorem and7b (x : Int) : 0 ≤ andI .u8 x 7 ∧ andI .u8 x 7 ≤ 7 := andI_le _ _ _ (by decide) (by rw [inR_u8]; omega)

/-! ### the highest bit of a word -/
def tb (x : Int) : Bool := decide (x ≥ 32768)
theorem tb_msb (x : Int) (h : inR .u16 x) : tb x = (BitVec.ofInt 16 x).msb := by
  rw [inR_u16] at h
  rw [BitVec.msb_eq_decide, BitVec.toNat_ofInt]
  unfold tb
  simp only [decide_eq_decide]
  omega
theorem ofInt_wrap16 (b : BitVec 16) : IntKind.wrap .u16 (b.toNat : Int) = b.toNat ∧ inR .u16 (b.toNat : Int) ∧ BitVec.ofInt 16 (b.toNat : Int) = b := by
  have := b.isLt
  have hr : inR .u16 (b.toNat : Int) := by rw [inR_u16]; omega
  refine ⟨wrap_in hr, hr, ?_⟩
  apply BitVec.eq_of_toNat_eq
  rw [BitVec.toNat_ofInt]; omega
theorem tb_and (x y : Int) (hx : inR .u16 x) (hy : inR .u16 y) : tb (andI .u16 x y) = (tb x && tb y) := by
  obtain ⟨h1, h2, h3⟩ := ofInt_wrap16 ((BitVec.ofInt 16 x) &&& (BitVec.ofInt 16 y))
  have e : andI .u16 x y = (((BitVec.ofInt 16 x) &&& (BitVec.ofInt 16 y)).toNat : Int) := h1
  rw [e, tb_msb _ h2, h3, BitVec.msb_and, ← tb_msb _ hx, ← tb_msb _ hy]
theorem tb_xor (x y : Int) (hx : inR .u16 x) (hy : inR .u16 y) : tb (xorI .u16 x y) = (tb x ^^ tb y) := by
  obtain ⟨h1, h2, h3⟩ := ofInt_wrap16 ((BitVec.ofInt 16 x) ^^^ (BitVec.ofInt 16 y))
  have e : xorI .u16 x y = (((BitVec.ofInt 16 x) ^^^ (BitVec.ofInt 16 y)).toNat : Int) := h1
  rw [e, tb_msb _ h2, h3, BitVec.msb_xor, ← tb_msb _ hx, ← tb_msb _ hy]
theorem inR_bits (k : IntKind) (x y : Int) : inR k (andI k x y) ∧ inR k (orI k x y) ∧ inR k (xorI k x y) := ⟨inR_wrap _ _, inR_wrap _ _, inR_wrap _ _⟩
theorem and_top (x : Int) (hx : inR .u16 x) : andI .u16 x 32768 = if tb x then 32768 else 0 := by
  have h1 := andI_le .u16 x 32768 (by decide) (by rw [inR_u16]; omega)
  have h2 := tb_and x 32768 hx (by rw [inR_u16]; omega)
  have h3 : tb 32768 = true := rfl
  rw [h3, Bool.and_true] at h2
  cases ht : tb x with
  | true => rw [ht] at h2; simp [tb] at h2 ⊢; omega
  | false =>
    -- no bit is left
    obtain ⟨e1, e2, e3⟩ := ofInt_wrap16 ((BitVec.ofInt 16 x) &&& (BitVec.ofInt 16 32768))
    have e : andI .u16 x 32768 = (((BitVec.ofInt 16 x) &&& (BitVec.ofInt 16 32768)).toNat : Int) := e1
    have hm : (BitVec.ofInt 16 x).msb = false := by rw [← tb_msb _ hx]; exact ht
    have : (BitVec.ofInt 16 x) &&& (BitVec.ofInt 16 32768) = 0#16 := by
      apply BitVec.eq_of_getLsbD_eq
      intro i hi
      have h32 : (BitVec.ofInt 16 32768).getLsbD i = decide (i = 15) := by
        have : ∀ i : Fin 16, (BitVec.ofInt 16 32768).getLsbD i = decide (i.1 = 15) := by decide
        exact this ⟨i, hi⟩
      rw [BitVec.getLsbD_and, h32]
      by_cases h15 : i = 15
      · subst h15
        rw [BitVec.msb_eq_getLsbD_last] at hm
        simp at hm
        simp [hm]
      · simp [h15]
    rw [e, this]; simp
theorem and_top_ne (x : Int) (hx : inR .u16 x) : (andI .u16 x 32768 != 0) = tb x := by
  rw [and_top x hx]; cases tb x <;> rfl

/-! ### contracts without a condition -/
theorem EntryOk.tot {P : Program} {f : FuncId} {ts : List Sh} {rs : Rs} {pre : HL ts → Option Bool} {F G : HL ts → rs.den} (h : EntryOk P f (pureE ts rs pre F)) (hp : ∀ a, okHL ts a → pre a ≠ some false) (hG : ∀ a, okHL ts a → F a = G a) :
    EntryOk P f (pureE ts rs (fun _ => none) G) := EntryOk.pure_congr h (fun a h1 _ => hp a h1) (fun a h1 _ => hG a h1)
end Go.S3
