/-
  The state behind an instruction: what the reference's order of steps comes to. Conditions: none.
-/
import Derived.Test.YteboknglfjadoaaGreatFinX
open Go Go.S3 Go.Proofs
set_option linter.unusedVariables false
set_option linter.unusedSimpArgs false
set_option maxRecDepth 100000
namespace Go.Proofs.YteboknglfjadoaaGreat
noncomputable section
theorem rset_up (r : RegT) (f : FlgT) (pc n v : Int) : rSet (r.1, r.2.1, r.2.2.1, r.2.2.2.1, r.2.2.2.2.1, r.2.2.2.2.2.1, r.2.2.2.2.2.2.1, f, r.2.2.2.2.2.2.2.2.1, pc) n v =
    ((rSet r n v).1, (rSet r n v).2.1, (rSet r n v).2.2.1, (rSet r n v).2.2.2.1, (rSet r n v).2.2.2.2.1, (rSet r n v).2.2.2.2.2.1, (rSet r n v).2.2.2.2.2.2.1, f, (rSet r n v).2.2.2.2.2.2.2.2.1, pc) := rfl
theorem rset_fl (r : RegT) (n v : Int) : (rSet r n v).2.2.2.2.2.2.2.1 = r.2.2.2.2.2.2.2.1 := rfl
theorem rset_sp (r : RegT) (n v : Int) : (rSet r n v).2.2.2.2.2.2.2.2 = r.2.2.2.2.2.2.2.2 := rfl
theorem rsp_up (r : RegT) (f : FlgT) (pc n v : Int) : rSetPair (r.1, r.2.1, r.2.2.1, r.2.2.2.1, r.2.2.2.2.1, r.2.2.2.2.2.1, r.2.2.2.2.2.2.1, f, r.2.2.2.2.2.2.2.2.1, pc) n v =
    ((rSetPair r n v).1, (rSetPair r n v).2.1, (rSetPair r n v).2.2.1, (rSetPair r n v).2.2.2.1, (rSetPair r n v).2.2.2.2.1, (rSetPair r n v).2.2.2.2.2.1, (rSetPair r n v).2.2.2.2.2.2.1, f, (rSetPair r n v).2.2.2.2.2.2.2.2.1, pc) := by
  simp only [rSetPair, rSetPairT, RT.val]
  cases (andI IntKind.i64 n 3 == 3) <;> rfl
theorem rsp_fl (r : RegT) (n v : Int) : (rSetPair r n v).2.2.2.2.2.2.2.1 = r.2.2.2.2.2.2.2.1 := by
  simp only [rSetPair, rSetPairT, RT.val]
  cases (andI IntKind.i64 n 3 == 3) <;> rfl
theorem rget_up (r : RegT) (f : FlgT) (sp pc n : Int) : rGetT (r.1, r.2.1, r.2.2.1, r.2.2.2.1, r.2.2.2.2.1, r.2.2.2.2.2.1, r.2.2.2.2.2.2.1, f, sp, pc) n = rGetT r n := rfl
theorem rpair_up (r : RegT) (f : FlgT) (pc n : Int) : rPair (r.1, r.2.1, r.2.2.1, r.2.2.2.1, r.2.2.2.2.1, r.2.2.2.2.2.1, r.2.2.2.2.2.2.1, f, r.2.2.2.2.2.2.2.2.1, pc) n = rPair r n := by
  simp only [rPair, rPairT, RT.val, rGet, rGetC, rget_up]
theorem bnat {x : Int} (h : inR .u8 x) : ∃ a : Nat, x = a ∧ a < 256 := by
  rw [inR_u8] at h
  exact ⟨x.toNat, by omega, by omega⟩
theorem w16 {n : Nat} (h : n < 65536) : IntKind.wrap .u16 (n : Int) = n := wrap_in ⟨by simp [IntKind.min, IntKind.signed], by simp [IntKind.max, IntKind.signed, IntKind.bits]; omega⟩
theorem join_val {h l : Int} (hh : inR .u8 h) (hl : inR .u8 l) : rJoin h l = 256 * h + l := by
  obtain ⟨a, rfl, ha⟩ := bnat hh
  obtain ⟨b, rfl, hb⟩ := bnat hl
  have e1 : shlI .u16 (IntKind.wrap .u16 (a : Int)) 8 = ((a * 256 : Nat) : Int) := by
    rw [w16 (by omega)]
    simp only [shlI]
    have : ((a : Int) * 2 ^ min (8 : Int).toNat IntKind.u16.bits) = ((a * 256 : Nat) : Int) := by simp [IntKind.bits]
    rw [this, w16 (by omega)]
  have e2 : (BitVec.ofInt IntKind.u16.bits ((a * 256 : Nat) : Int) ||| BitVec.ofInt IntKind.u16.bits (b : Int)).toNat = a * 256 + b := by
    rw [BitVec.toNat_or, BitVec.toNat_ofInt, BitVec.toNat_ofInt]
    have k1 : (((a * 256 : Nat) : Int) % ((2 ^ IntKind.u16.bits : Nat) : Int)).toNat = a * 256 := by simp [IntKind.bits]; omega
    have k2 : ((b : Int) % ((2 ^ IntKind.u16.bits : Nat) : Int)).toNat = b := by simp [IntKind.bits]; omega
    rw [k1, k2]
    have := Nat.shiftLeft_add_eq_or_of_lt (i := 8) (b := b) (by omega) a
    rw [Nat.shiftLeft_eq] at this
    exact this.symm
  show orI .u16 (shlI .u16 (IntKind.wrap .u16 (a : Int)) 8) (IntKind.wrap .u16 (b : Int)) = _
  rw [e1, w16 (by omega)]
  simp only [orI]
  rw [e2, w16 (by omega)]
  omega
theorem join_lo {h l : Int} (hh : inR .u8 h) (hl : inR .u8 l) : IntKind.wrap .u8 (rJoin h l) = l := by
  rw [join_val hh hl]
  rw [inR_u8] at hl
  simp [IntKind.wrap, IntKind.signed, IntKind.bits]; omega
theorem join_hi {h l : Int} (hh : inR .u8 h) (hl : inR .u8 l) : IntKind.wrap .u8 (shrI .u16 (rJoin h l) 8) = h := by
  rw [join_val hh hl]
  rw [inR_u8] at hl hh
  have : shrI .u16 (256 * h + l) 8 = h := by
    simp only [shrI]
    have : ((2 : Int) ^ min (8 : Int).toNat IntKind.u16.bits) = 256 := by decide
    rw [this, Int.fdiv_eq_ediv_of_nonneg _ (by decide)]; omega
  rw [this]
  simp [IntKind.wrap, IntKind.signed, IntKind.bits]; omega
theorem rsp_join (r : RegT) {h l : Int} (hh : inR .u8 h) (hl : inR .u8 l) : rSetPair r 2 (rJoin h l) = (r.1, r.2.1, r.2.2.1, r.2.2.2.1, r.2.2.2.2.1, h, l, r.2.2.2.2.2.2.2) := by
  have e : rSetPair r 2 (rJoin h l) = (r.1, r.2.1, r.2.2.1, r.2.2.2.1, r.2.2.2.2.1, IntKind.wrap .u8 (shrI .u16 (rJoin h l) 8), IntKind.wrap .u8 (rJoin h l), r.2.2.2.2.2.2.2) := by
    generalize rJoin h l = v
    rfl
  rw [e, join_lo hh hl, join_hi hh hl]
theorem not_eq (x : Int) : IntKind.wrap .u8 (255 - x) = notI .u8 x := by
  have e : notI .u8 x = IntKind.wrap .u8 ((~~~ (BitVec.ofInt 8 x)).toNat : Int) := by
    show IntKind.wrap .u8 (((BitVec.ofInt 8 255) ^^^ (BitVec.ofInt 8 x)).toNat : Int) = _
    have : BitVec.ofInt 8 255 = BitVec.allOnes 8 := by decide
    rw [this, BitVec.allOnes_xor]
  have h1 : (BitVec.ofInt 8 x).toNat = (x % 256).toNat := BitVec.toNat_ofInt ..
  have h2 : ((x % 256).toNat : Int) = x % 256 := by omega
  rw [e, BitVec.toNat_not, h1]
  have h3 : ((2 ^ 8 - 1 - (x % 256).toNat : Nat) : Int) = 255 - x % 256 := by omega
  rw [h3]
  simp [IntKind.wrap, IntKind.signed, IntKind.bits]
end
end Go.Proofs.YteboknglfjadoaaGreat
