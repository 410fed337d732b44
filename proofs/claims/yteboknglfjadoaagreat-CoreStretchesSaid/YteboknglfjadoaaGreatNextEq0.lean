/-
  The next machine cycle: the program's is the reference's, kind by kind. Conditions: none.
-/
import Derived.Test.YteboknglfjadoaaGreatMicroL
open Go Go.S3 Go.Proofs
set_option linter.unusedVariables false
set_option linter.unusedSimpArgs false
set_option maxRecDepth 100000
namespace Go.Proofs.YteboknglfjadoaaGreat
noncomputable section
abbrev Cyc := Int × Int × Int × Int
abbrev cycR : R := R.pair (R.int IntKind.i64) (R.pair (R.int IntKind.u16) (R.pair (R.int IntKind.u8) (R.int IntKind.i64)))
theorem qat_ok (st) (n : Int) (h : 0 ≤ n) : qAtC st n = true ∧ qAt st n = st.2.2.1.getD n.toNat 0 := by
  by_cases hn : n < (st.2.2.1.length : Int)
  · simp [qAtC, qAt, qAtT, RT.val, iN, inRng, h, hn, okB, getO, R.get, R.dflt]
  · have : st.2.2.1.length ≤ n.toNat := by omega
    simp [qAtC, qAt, qAtT, RT.val, iN, inRng, h, hn, okB, getO, R.get, R.dflt, List.getD_eq_getElem?_getD, List.getElem?_eq_none this]
theorem mat_ok (st) (n : Int) (h : 0 ≤ n) : mAtC st n = true ∧ mAt st n = st.2.2.1.getD n.toNat 0 := by
  by_cases hn : n < (st.2.2.1.length : Int)
  · simp [mAtC, mAt, mAtT, RT.val, iN, inRng, h, hn, okB, getO, R.get, R.dflt]
  · have : st.2.2.1.length ≤ n.toNat := by omega
    simp [mAtC, mAt, mAtT, RT.val, iN, inRng, h, hn, okB, getO, R.get, R.dflt, List.getD_eq_getElem?_getD, List.getElem?_eq_none this]
theorem qat0 (st) : qAtC st 0 = true ∧ qAt st 0 = st.2.2.1.getD 0 0 := qat_ok st 0 (by decide)
theorem qat1 (st) : qAtC st 1 = true ∧ qAt st 1 = st.2.2.1.getD 1 0 := qat_ok st 1 (by decide)
theorem mat0 (st) : mAtC st 0 = true ∧ mAt st 0 = st.2.2.1.getD 0 0 := mat_ok st 0 (by decide)
theorem mat1 (st) : mAtC st 1 = true ∧ mAt st 1 = st.2.2.1.getD 1 0 := mat_ok st 1 (by decide)
theorem rg0 (g : List Int) : R.get (.int .u8) g 0 = g.getD 0 0 := rfl
/-- The cycle behind n completed ones. -/
def pick (l : List Cyc) (n : Nat) : Cyc × Bool := (l.getD n (0, 0, 0, 0), decide (n < l.length))
theorem pk (l : List Cyc) (n : Nat) : (cond (decide (iN n ≥ iN l.length)) (some (((0, 0, 0, 0) : Cyc), false)) (cond (inRng (iN n) l.length) (some (R.get cycR l (iN n), true)) none)) = some (pick l n) := by
  by_cases h : n < l.length
  · have h1 : ¬ (l.length : Int) ≤ n := by omega
    simp [pick, h, h1, inRng, iN, R.get, R.dflt]
  · have h1 : (l.length : Int) ≤ n := by omega
    simp [pick, h, h1, inRng, iN]
theorem pick_cons (x : Cyc) (l) (n : Nat) : pick (x :: l) (n + 1) = pick l n := by simp [pick]
theorem pick_zero (x : Cyc) (l) : pick (x :: l) 0 = (x, true) := by simp [pick]
theorem internal_eq (s : Int) : pInternal s = rInternal s := rfl
theorem len0 (g : List Int) (a : Int) : (iN (a :: g).length == 0) = false ∧ decide (iN (a :: g).length > 0) = true ∧ inRng 0 (a :: g).length = true := by
  have : ((g.length : Int) + 1 == 0) = false := by simp; omega
  simp [iN, inRng, this]
theorem len00 : (iN ([] : List Int).length == 0) = true ∧ decide (iN ([] : List Int).length > 0) = false ∧ inRng 0 ([] : List Int).length = false := by decide
theorem qPair_eq (s) (n) : qPair s n = rPair s.1.2.1 n := rfl
theorem qReg_eq (s) (n) : qReg s n = rGet s.1.2.1 n := rfl
theorem qTaken_eq (s) : qTaken s = rHolds s.2.2.2.1.2.2.2.2.2.2.1 s.1.2.1.2.2.2.2.2.2.2.1 := rfl
theorem mTaken_eq (s i) : mTaken s i = rHolds i.2.2.2.2.2.2.1 s.1.2.1.2.2.2.2.2.2.2.1 := rfl
theorem qBehind_eq (s) : qBehind s = cond s.2.1 s.1.2.1.2.2.2.2.2.2.2.2.2 (IntKind.wrap .u16 (s.1.2.1.2.2.2.2.2.2.2.2.2 + IntKind.wrap .u16 s.2.2.2.1.2.1)) := rfl
theorem mBehind_eq (s n) : mBehind s n = cond s.2.1 s.1.2.1.2.2.2.2.2.2.2.2.2 (IntKind.wrap .u16 (s.1.2.1.2.2.2.2.2.2.2.2.2 + IntKind.wrap .u16 n)) := rfl
theorem w_i64 : IntKind.wrap .i64 2 = 2 ∧ IntKind.wrap .i64 4 = 4 := by decide
theorem qJoin1 (s) : qJoinC s 1 = true ∧ qJoin s 1 = rJoin (s.2.2.1.getD 2 0) (s.2.2.1.getD 1 0) := by
  simp [qJoinC, qJoin, qJoinT, RT.val, w_i64, qat_ok s 2 (by decide), qat_ok s 1 (by decide), okB, getO]
theorem qJoin3 (s) : qJoinC s 3 = true ∧ qJoin s 3 = rJoin (s.2.2.1.getD 4 0) (s.2.2.1.getD 3 0) := by
  simp [qJoinC, qJoin, qJoinT, RT.val, w_i64, qat_ok s 4 (by decide), qat_ok s 3 (by decide), okB, getO]
theorem mWord1 (s) : mWordC s 1 = true ∧ mWord s 1 = rJoin (s.2.2.1.getD 2 0) (s.2.2.1.getD 1 0) := by
  simp [mWordC, mWord, mWordT, RT.val, w_i64, mat_ok s 2 (by decide), mat_ok s 1 (by decide), okB, getO]
theorem mWord3 (s) : mWordC s 3 = true ∧ mWord s 3 = rJoin (s.2.2.1.getD 4 0) (s.2.2.1.getD 3 0) := by
  simp [mWordC, mWord, mWordT, RT.val, w_i64, mat_ok s 4 (by decide), mat_ok s 3 (by decide), okB, getO]
theorem qCounted_eq (s) : qCountedC s = true ∧ qCounted s = cond (s.2.2.2.1.1 == 14) (rInr s.1.1 (s.2.2.1.getD 1 0) s.1.2.1.2.2.2.2.2.2.2.1).1 (rDcr s.1.1 (s.2.2.1.getD 1 0) s.1.2.1.2.2.2.2.2.2.2.1).1 := by
  simp [qCountedC, qCounted, qCountedT, RT.val, qat1, okB, getO]
theorem rStepped_eq (c i v) : rStepped c i v = cond (i.1 == 14) (rInr c.1 v c.2.1.2.2.2.2.2.2.2.1) (rDcr c.1 v c.2.1.2.2.2.2.2.2.2.1) := rfl

end
end Go.Proofs.YteboknglfjadoaaGreat
