/-
  Contracts of functions; each found by the symbolic executor and checked by the kernel. Conditions: none.
-/
import Derived.Test.YtpkijkmagnhciaaGreatPinsEq
import Derived.Test.YtpkijkmagnhciaaGreatS3Nil
import Derived.Test.YtpkijkmagnhciaaGreatS3D
import Derived.Test.YtpkijkmagnhciaaGreatProg
set_option linter.unusedVariables false
set_option linter.unusedSimpArgs false
open Go Go.S3 Go.Proofs
set_option maxRecDepth 100000
namespace Go.Proofs.YtpkijkmagnhciaaGreat
noncomputable section
end
end Go.Proofs.YtpkijkmagnhciaaGreat
open Go Go.S3 Go.Proofs
set_option linter.unusedVariables false
set_option linter.unusedSimpArgs false
set_option maxRecDepth 100000
namespace Go.Proofs.YtpkijkmagnhciaaGreat
noncomputable section
abbrev Cyc := Int × Int × Int × Int
abbrev cycR : R := R.pair (R.int IntKind.i64) (R.pair (R.int IntKind.u16) (R.pair (R.int IntKind.u8) (R.int IntKind.i64)))
theorem qat_ok (st) (n : Int) (h : 0 ≤ n) : qAtC st n = true ∧ qAt st n = st.2.2.1.getD n.toNat 0 := by
  by_cases hn : n < (st.2.2.1.length : Int)
  · simp [qAtC, qAt, qAtT, RT.val, iN, inRng, h, hn, okB, getO, R.get, R.dflt]
  · have : st.2.2.1.length ≤ n.toNat := by omega
    simp [qAtC, qAt, qAtT, RT.val, iN, inRng, h, hn, okB, getO, R.get, R.dflt, List.getD_eq_getElem?_getD, List.getElem?_eq_none this]
theorem mat_ok (st) (n : Int) (h : 0 ≤ n) : mAtC st n = true ∧ mAt st n = st.2.2.1.getD n.toNat 0 := by
  by_cases hn : n < (st.2.2.1.length : Int)
  · simp [mAtC, mAt, mAtT, RT.val, iN, inRng, h, hn, okB, getO, R.get, R.dflt]
  · have : st.2.2.1.length ≤ n.toNat := by omega
    simp [mAtC, mAt, mAtT, RT.val, iN, inRng, h, hn, okB, getO, R.get, R.dflt, List.getD_eq_getElem?_getD, List.getElem?_eq_none this]
theorem qat0 (st) : qAtC st 0 = true ∧ qAt st 0 = st.2.2.1.getD 0 0 := qat_ok st 0 (by decide)
theorem qat1 (st) : qAtC st 1 = true ∧ qAt st 1 = st.2.2.1.getD 1 0 := qat_ok st 1 (by decide)
theorem mat0 (st) : mAtC st 0 = true ∧ mAt st 0 = st.2.2.1.getD 0 0 := mat_ok st 0 (by decide)
theorem mat1 (st) : mAtC st 1 = true ∧ mAt st 1 = st.2.2.1.getD 1 0 := mat_ok st 1 (by decide)
theorem rg0 (g : List Int) : R.get (.int .u8) g 0 = g.getD 0 0 := rfl
def pick (l : List Cyc) (n : Nat) : Cyc × Bool := (l.getD n (0, 0, 0, 0), decide (n < l.length))
theorem pk (l : List Cyc) (n : Nat) : (cond (decide (iN n ≥ iN l.length)) (some (((0, 0, 0, 0) : Cyc), false)) (cond (inRng (iN n) l.length) (some (R.get cycR l (iN n), true)) none)) = some (pick l n) := by
  by_cases h : n < l.length
  · have h1 : ¬ (l.length : Int) ≤ n := by omega
    simp [pick, h, h1, inRng, iN, R.get, R.dflt]
  · have h1 : (l.length : Int) ≤ n := by omega
    simp [pick, h, h1, inRng, iN]
theorem pick_cons (x : Cyc) (l) (n : Nat) : pick (x :: l) (n + 1) = pick l n := by simp [pick]
theorem pick_zero (x : Cyc) (l) : pick (x :: l) 0 = (x, true) := by simp [pick]
theorem internal_eq (s : Int) : pInternal s = rInternal s := rfl
theorem len0 (g : List Int) (a : Int) : (iN (a :: g).length == 0) = false ∧ decide (iN (a :: g).length > 0) = true ∧ inRng 0 (a :: g).length = true := by
  have : ((g.length : Int) + 1 == 0) = false := by simp; omega
  simp [iN, inRng, this]
theorem len00 : (iN ([] : List Int).length == 0) = true ∧ decide (iN ([] : List Int).length > 0) = false ∧ inRng 0 ([] : List Int).length = false := by decide
theorem qPair_eq (s) (n) : qPair s n = rPair s.1.2.1 n := rfl
theorem qReg_eq (s) (n) : qReg s n = rGet s.1.2.1 n := rfl
theorem qTaken_eq (s) : qTaken s = rHolds s.2.2.2.1.2.2.2.2.2.2.1 s.1.2.1.2.2.2.2.2.2.2.1 := rfl
theorem mTaken_eq (s i) : mTaken s i = rHolds i.2.2.2.2.2.2.1 s.1.2.1.2.2.2.2.2.2.2.1 := rfl
theorem qBehind_eq (s) : qBehind s = cond s.2.1 s.1.2.1.2.2.2.2.2.2.2.2.2 (IntKind.wrap .u16 (s.1.2.1.2.2.2.2.2.2.2.2.2 + IntKind.wrap .u16 s.2.2.2.1.2.1)) := rfl
theorem mBehind_eq (s n) : mBehind s n = cond s.2.1 s.1.2.1.2.2.2.2.2.2.2.2.2 (IntKind.wrap .u16 (s.1.2.1.2.2.2.2.2.2.2.2.2 + IntKind.wrap .u16 n)) := rfl
theorem w_i64 : IntKind.wrap .i64 2 = 2 ∧ IntKind.wrap .i64 4 = 4 := by decide
theorem qJoin1 (s) : qJoinC s 1 = true ∧ qJoin s 1 = rJoin (s.2.2.1.getD 2 0) (s.2.2.1.getD 1 0) := by
  simp [qJoinC, qJoin, qJoinT, RT.val, w_i64, qat_ok s 2 (by decide), qat_ok s 1 (by decide), okB, getO]
theorem qJoin3 (s) : qJoinC s 3 = true ∧ qJoin s 3 = rJoin (s.2.2.1.getD 4 0) (s.2.2.1.getD 3 0) := by
  simp [qJoinC, qJoin, qJoinT, RT.val, w_i64, qat_ok s 4 (by decide), qat_ok s 3 (by decide), okB, getO]
theorem mWord1 (s) : mWordC s 1 = true ∧ mWord s 1 = rJoin (s.2.2.1.getD 2 0) (s.2.2.1.getD 1 0) := by
  simp [mWordC, mWord, mWordT, RT.val, w_i64, mat_ok s 2 (by decide), mat_ok s 1 (by decide), okB, getO]
theorem qCounted_eq (s) : qCountedC s = true ∧ qCounted s = cond (s.2.2.2.1.1 == 14) (rInr s.1.1 (s.2.2.1.getD 1 0) s.1.2.1.2.2.2.2.2.2.2.1).1 (rDcr s.1.1 (s.2.2.1.getD 1 0) s.1.2.1.2.2.2.2.2.2.2.1).1 := by
  simp [qCountedC, qCounted, qCountedT, RT.val, qat1, okB, getO]
theorem rStepped_eq (c i v) : rStepped c i v = cond (i.1 == 14) (rInr c.1 v c.2.1.2.2.2.2.2.2.2.1) (rDcr c.1 v c.2.1.2.2.2.2.2.2.2.1) := rfl
end
end Go.Proofs.YtpkijkmagnhciaaGreat
open Go Go.S3 Go.Proofs
set_option linter.unusedVariables false
set_option linter.unusedSimpArgs false
set_option maxRecDepth 100000
namespace Go.Proofs.YtpkijkmagnhciaaGreat
noncomputable section
abbrev FlgT := Bool × Bool × Bool × Bool × Bool × Bool × Bool
abbrev RegT := Int × Int × Int × Int × Int × Int × Int × FlgT × Int × Int
abbrev CpuT := Int × RegT × Bool × Bool × Bool × Int × Bool × Bool × Bool × Bool × Bool × Bool × Bool
abbrev InsT := Int × Int × Int × Int × Int × Int × Int × Int
def opC (c : CpuT) (inj : Bool) (k : Int) : Cyc := bif inj then (9, pcOf c, 0, 3) else (2, IntKind.wrap .u16 (pcOf c + IntKind.wrap .u16 k), 0, 3)
def pushX (c : CpuT) (w : Int) : List Cyc := [(5, IntKind.wrap .u16 (spOf c - 1), IntKind.wrap .u8 (shrI .u16 w 8), 3), (5, IntKind.wrap .u16 (spOf c - 2), IntKind.wrap .u8 w, 3)]
def popX (c : CpuT) : List Cyc := [(4, spOf c, 0, 3), (4, IntKind.wrap .u16 (spOf c + 1), 0, 3)]
def behindX (c : CpuT) (inj : Bool) (i : InsT) : Int := bif inj then pcOf c else IntKind.wrap .u16 (pcOf c + IntKind.wrap .u16 i.2.1)
def takenX (c : CpuT) (i : InsT) : Bool := rHolds i.2.2.2.2.2.2.1 c.2.1.2.2.2.2.2.2.2.1
def readW (a : Int) : List Cyc := [(2, a, 0, 3), (2, IntKind.wrap .u16 (a + 1), 0, 3)]
def writeW (c : CpuT) (a : Int) : List Cyc := [(3, a, c.2.1.2.2.2.2.2.2.1, 3), (3, IntKind.wrap .u16 (a + 1), c.2.1.2.2.2.2.2.1, 3)]
def targetX (c : CpuT) (inj : Bool) (i : InsT) : List Cyc := bif c.1 == 2 && !takenX c i then [opC c inj 1] else [opC c inj 1, opC c inj 2]
def joinX (g : List Int) (n : Nat) : Int := rJoin (g.getD (n + 1) 0) (g.getD n 0)
def idleX (c : CpuT) : Cyc := (11, pcOf c, 0, 3)
def countX (c : CpuT) (i : InsT) (v : Int) : Int := bif i.1 == 14 then (rInr c.1 v c.2.1.2.2.2.2.2.2.2.1).1 else (rDcr c.1 v c.2.1.2.2.2.2.2.2.2.1).1
def bodyX (c : CpuT) (inj : Bool) (g : List Int) (i : InsT) : List Cyc :=
  let hl := rPair c.2.1 2
  let dst := i.2.2.1
  let src := i.2.2.2.1
  let pr := i.2.2.2.2.1
  bif i.1 == 2 then (bif src == 6 then [(2, hl, 0, 3)] else bif dst == 6 then [(3, hl, rGet c.2.1 src, 3)] else []) else
  bif i.1 == 3 then opC c inj 1 :: (bif dst == 6 then [(3, hl, g.getD 1 0, 3)] else []) else
  bif i.1 == 4 then [opC c inj 1, opC c inj 2] else
  bif i.1 == 5 then [opC c inj 1, opC c inj 2, (2, joinX g 1, 0, 3)] else
  bif i.1 == 6 then [opC c inj 1, opC c inj 2, (3, joinX g 1, c.2.1.1, 3)] else
  bif i.1 == 7 then opC c inj 1 :: opC c inj 2 :: readW (joinX g 1) else
  bif i.1 == 8 then opC c inj 1 :: opC c inj 2 :: writeW c (joinX g 1) else
  bif i.1 == 9 then [(2, rPair c.2.1 pr, 0, 3)] else
  bif i.1 == 10 then [(3, rPair c.2.1 pr, c.2.1.1, 3)] else
  bif i.1 == 12 then (bif src == 6 then [(2, hl, 0, 3)] else []) else
  bif i.1 == 13 then [opC c inj 1] else
  bif i.1 == 14 || i.1 == 15 then (bif dst == 6 then [(2, hl, 0, 3), (3, hl, countX c i (g.getD 1 0), 3)] else []) else
  bif i.1 == 18 || i.1 == 40 || i.1 == 42 then [idleX c, idleX c] else
  bif i.1 == 24 then targetX c inj i else
  bif i.1 == 25 then targetX c inj i ++ (bif takenX c i then pushX c (behindX c inj i) else []) else
  bif i.1 == 26 then (bif takenX c i then popX c else []) else
  bif i.1 == 27 then pushX c (behindX c inj i) else
  bif i.1 == 45 then (bif takenX c i then pushX c (behindX c inj i) else []) else
  bif i.1 == 30 then pushX c (bif pr == 3 then rPSW c.1 c.2.1 else rPair c.2.1 pr) else
  bif i.1 == 31 then popX c else
  bif i.1 == 32 then popX c ++ [(5, IntKind.wrap .u16 (spOf c + 1), c.2.1.2.2.2.2.2.1, 3), (5, spOf c, c.2.1.2.2.2.2.2.2.1, bif c.1 == 2 then 3 else 5)] else
  bif i.1 == 33 then [opC c inj 1, (6, rJoin (g.getD 1 0) (g.getD 1 0), 0, 3)] else
  bif i.1 == 34 then [opC c inj 1, (7, rJoin (g.getD 1 0) (g.getD 1 0), c.2.1.1, 3)] else
  bif i.1 == 37 then (bif c.1 == 2 then [] else [(10, pcOf c, 0, 3)]) else
  bif i.1 == 41 then [idleX c] else
  bif i.1 == 43 || i.1 == 44 then [opC c inj 1, idleX c] else
  bif i.1 == 46 then writeW c (rPair c.2.1 1) else
  bif i.1 == 47 then readW (rPair c.2.1 1) else
  []
def planX (c : CpuT) (s : Int) (g : List Int) : List Cyc :=
  bif rInternal s then (12, pcOf c, 0, 6) :: pushX c (pcOf c)
  else (bif s == 5 then 8 else 1, pcOf c, 0, 4) :: match g with
    | [] => []
    | o :: _ => bodyX c (s == 5) g (rDecode c.1 o)
def nextX (c : CpuT) (s : Int) (g : List Int) : Cyc × Bool := pick (planX c s g) g.length
def sk (x : Cyc) : Cyc := (x.1, 0, 0, x.2.2.2)
end
end Go.Proofs.YtpkijkmagnhciaaGreat
set_option linter.unusedSimpArgs false
open Go Go.S3 Go.Proofs
set_option linter.unusedVariables false
set_option maxRecDepth 100000
namespace Go.Proofs.YtpkijkmagnhciaaGreat
noncomputable section
def kindT (c op : Int) : Bool := decide (1 ≤ (rDecode c op).1) && decide ((rDecode c op).1 ≤ 47)
theorem kind_in (c op : Int) (h : inR .u8 op) : 1 ≤ (rDecode c op).1 ∧ (rDecode c op).1 ≤ 47 := by
  have fin : kindT c op = true → 1 ≤ (rDecode c op).1 ∧ (rDecode c op).1 ≤ 47 := by
    intro hc; simpa [kindT] using hc
  by_cases hc : c = 2
  · subst hc; exact fin (byte_all (kindT 2) (by kernel_rfl) op h)
  · have h0 := byte_all (kindT 0) (by kernel_rfl) op h
    have e : rDecode c op = rDecode 0 op := by unfold rDecode; rw [rdec_chip c op hc]
    refine fin ?_
    simp only [kindT, e] at h0 ⊢; exact h0
theorem head_in {g : List Int} (h : (R.sl (.int .u8)).ok g) : inR .u8 (g.getD 0 0) := by
  cases g with
  | nil => rw [inR_u8]; simp
  | cons x l => exact h.2 x (by simp)
theorem kinds47 {n : Int} (h1 : 1 ≤ n) (h2 : n ≤ 47) : n = 1 ∨ n = 2 ∨ n = 3 ∨ n = 4 ∨ n = 5 ∨ n = 6 ∨ n = 7 ∨ n = 8 ∨ n = 9 ∨ n = 10 ∨ n = 11 ∨ n = 12 ∨ n = 13 ∨ n = 14 ∨ n = 15 ∨ n = 16 ∨ n = 17 ∨ n = 18 ∨ n = 19 ∨ n = 20 ∨ n = 21 ∨ n = 22 ∨ n = 23 ∨ n = 24 ∨ n = 25 ∨ n = 26 ∨ n = 27 ∨ n = 28 ∨ n = 29 ∨ n = 30 ∨ n = 31 ∨ n = 32 ∨ n = 33 ∨ n = 34 ∨ n = 35 ∨ n = 36 ∨ n = 37 ∨ n = 38 ∨ n = 39 ∨ n = 40 ∨ n = 41 ∨ n = 42 ∨ n = 43 ∨ n = 44 ∨ n = 45 ∨ n = 46 ∨ n = 47 := by omega
end
end Go.Proofs.YtpkijkmagnhciaaGreat
set_option linter.unusedSimpArgs false
open Go Go.S3 Go.Proofs
set_option linter.unusedVariables false
set_option maxRecDepth 100000
namespace Go.Proofs.YtpkijkmagnhciaaGreat
noncomputable section
def imicro_newPlan_pNextE (k : Int) : Entry := .tree (evFunc (envX Tryz.prog [(163, pDecKE k), (200, qAtE)] [] 255 8) Tryz.f157)
theorem imicro_newPlan_pNext_ok (k : Int) : EntryOk Tryz.prog 157 (imicro_newPlan_pNextE k) := inl_ok (P := Tryz.prog) (n := 255) (k := 8) (l := [(163, pDecKE k), (200, qAtE)]) (ol := []) ⟨(pDecK_ok k), qAt_ok, trivial⟩ Tryz.func157 rfl (by kernel_rfl) Tryz.call157 trivial
def i__micro_plan__addE : Entry := .tree (evFunc (envX Tryz.prog [] [] 255 8) Tryz.f201)
theorem i__micro_plan__add_ok : EntryOk Tryz.prog 201 i__micro_plan__addE := inl_ok (P := Tryz.prog) (n := 255) (k := 8) (l := []) (ol := []) trivial Tryz.func201 rfl (by kernel_rfl) Tryz.call201 trivial
def i__micro_plan__pushE : Entry := .tree (evFunc (envX Tryz.prog [(201, i__micro_plan__addE)] [] 15 8) Tryz.f159)
theorem i__micro_plan__push_ok : EntryOk Tryz.prog 159 i__micro_plan__pushE := inl_ok (P := Tryz.prog) (n := 15) (k := 8) (l := [(201, i__micro_plan__addE)]) (ol := []) ⟨i__micro_plan__add_ok, trivial⟩ Tryz.func159 rfl (by kernel_rfl) Tryz.call159 trivial
def i__micro_plan__operandsE : Entry := .tree (evFunc (envX Tryz.prog [(201, i__micro_plan__addE)] [] 31 8) Tryz.f204)
theorem i__micro_plan__operands_ok : EntryOk Tryz.prog 204 i__micro_plan__operandsE := inl_ok (P := Tryz.prog) (n := 31) (k := 8) (l := [(201, i__micro_plan__addE)]) (ol := []) ⟨i__micro_plan__add_ok, trivial⟩ Tryz.func204 rfl (by kernel_rfl) Tryz.call204 trivial
def i__micro_plan__wordsE : Entry := .tree (evFunc (envX Tryz.prog [(201, i__micro_plan__addE)] [] 63 8) Tryz.f208)
theorem i__micro_plan__words_ok : EntryOk Tryz.prog 208 i__micro_plan__wordsE := inl_ok (P := Tryz.prog) (n := 63) (k := 8) (l := [(201, i__micro_plan__addE)]) (ol := []) ⟨i__micro_plan__add_ok, trivial⟩ Tryz.func208 rfl (by kernel_rfl) Tryz.call208 trivial
def i__micro_plan__fillDirectE : Entry := .tree (evFunc (envX Tryz.prog [(201, i__micro_plan__addE), (204, i__micro_plan__operandsE), (208, i__micro_plan__wordsE), (248, qJoinE)] [] 268570631 8) Tryz.f206)
theorem i__micro_plan__fillDirect_ok : EntryOk Tryz.prog 206 i__micro_plan__fillDirectE := inl_ok (P := Tryz.prog) (n := 268570631) (k := 8) (l := [(201, i__micro_plan__addE), (204, i__micro_plan__operandsE), (208, i__micro_plan__wordsE), (248, qJoinE)]) (ol := []) ⟨i__micro_plan__add_ok, i__micro_plan__operands_ok, i__micro_plan__words_ok, qJoin_ok, trivial⟩ Tryz.func206 rfl (by kernel_rfl) Tryz.call206 trivial
def i__micro_plan__jumpE : Entry := .tree (evFunc (envX Tryz.prog [(204, i__micro_plan__operandsE), (250, qTakenE)] [] 15 8) Tryz.f249)
theorem i__micro_plan__jump_ok : EntryOk Tryz.prog 249 i__micro_plan__jumpE := inl_ok (P := Tryz.prog) (n := 15) (k := 8) (l := [(204, i__micro_plan__operandsE), (250, qTakenE)]) (ol := []) ⟨i__micro_plan__operands_ok, qTaken_ok, trivial⟩ Tryz.func249 rfl (by kernel_rfl) Tryz.call249 trivial
def i__micro_plan__popE : Entry := .tree (evFunc (envX Tryz.prog [(201, i__micro_plan__addE)] [] 3 8) Tryz.f251)
theorem i__micro_plan__pop_ok : EntryOk Tryz.prog 251 i__micro_plan__popE := inl_ok (P := Tryz.prog) (n := 3) (k := 8) (l := [(201, i__micro_plan__addE)]) (ol := []) ⟨i__micro_plan__add_ok, trivial⟩ Tryz.func251 rfl (by kernel_rfl) Tryz.call251 trivial
def i__micro_plan__idleE : Entry := .tree (evFunc (envX Tryz.prog [(201, i__micro_plan__addE)] [] 15 8) Tryz.f253)
theorem i__micro_plan__idle_ok : EntryOk Tryz.prog 253 i__micro_plan__idleE := inl_ok (P := Tryz.prog) (n := 15) (k := 8) (l := [(201, i__micro_plan__addE)]) (ol := []) ⟨i__micro_plan__add_ok, trivial⟩ Tryz.func253 rfl (by kernel_rfl) Tryz.call253 trivial
def i__micro_plan__fillControlE : Entry := .tree (evFunc (envX Tryz.prog [(159, i__micro_plan__pushE), (201, i__micro_plan__addE), (202, qPairE), (204, i__micro_plan__operandsE), (216, qBehindE), (249, i__micro_plan__jumpE), (250, qTakenE), (251, i__micro_plan__popE), (252, pPSW1E), (253, i__micro_plan__idleE)] [] 1517844491342638470129438826421819271357141255 8) Tryz.f209)
theorem i__micro_plan__fillControl_ok : EntryOk Tryz.prog 209 i__micro_plan__fillControlE := inl_ok (P := Tryz.prog) (n := 1517844491342638470129438826421819271357141255) (k := 8) (l := [(159, i__micro_plan__pushE), (201, i__micro_plan__addE), (202, qPairE), (204, i__micro_plan__operandsE), (216, qBehindE), (249, i__micro_plan__jumpE), (250, qTakenE), (251, i__micro_plan__popE), (252, pPSW1E), (253, i__micro_plan__idleE)]) (ol := []) ⟨i__micro_plan__push_ok, i__micro_plan__add_ok, qPair_ok, i__micro_plan__operands_ok, qBehind_ok, i__micro_plan__jump_ok, qTaken_ok, i__micro_plan__pop_ok, pPSW1_ok, i__micro_plan__idle_ok, trivial⟩ Tryz.func209 rfl (by kernel_rfl) Tryz.call209 trivial
def i__micro_plan__fillE : Entry := .tree (evFunc (envX Tryz.prog [(200, qAtE), (201, i__micro_plan__addE), (202, qPairE), (203, qRegE), (204, i__micro_plan__operandsE), (205, qCountedE), (206, i__micro_plan__fillDirectE), (207, pJoin1E), (208, i__micro_plan__wordsE), (209, i__micro_plan__fillControlE)] [] 2854495396045824897803138545268610783927869455 8) Tryz.f160)
theorem i__micro_plan__fill_ok : EntryOk Tryz.prog 160 i__micro_plan__fillE := inl_ok (P := Tryz.prog) (n := 2854495396045824897803138545268610783927869455) (k := 8) (l := [(200, qAtE), (201, i__micro_plan__addE), (202, qPairE), (203, qRegE), (204, i__micro_plan__operandsE), (205, qCountedE), (206, i__micro_plan__fillDirectE), (207, pJoin1E), (208, i__micro_plan__wordsE), (209, i__micro_plan__fillControlE)]) (ol := []) ⟨qAt_ok, i__micro_plan__add_ok, qPair_ok, qReg_ok, i__micro_plan__operands_ok, qCounted_ok, i__micro_plan__fillDirect_ok, pJoin1_ok, i__micro_plan__words_ok, i__micro_plan__fillControl_ok, trivial⟩ Tryz.func160 rfl (by kernel_rfl) Tryz.call160 trivial
abbrev pNextTs : List Sh := [Sh.agg rcCPU, Sh.one (R.int IntKind.i64), Sh.one (R.sl (R.int IntKind.u8))]
abbrev pNextRs : Rs := Rs.tup [Sh.agg (RY), Sh.one R.bool]
def pNextL (k : Int) : List (FuncId × Entry) := [(157, imicro_newPlan_pNextE k), (158, pInternalE), (159, i__micro_plan__pushE), (160, i__micro_plan__fillE)]
theorem pNextL_ok (k : Int) : AllOk Tryz.prog (pNextL k) := ⟨(imicro_newPlan_pNext_ok k), pInternal_ok, i__micro_plan__push_ok, i__micro_plan__fill_ok, trivial⟩
end
end Go.Proofs.YtpkijkmagnhciaaGreat
set_option linter.unusedSimpArgs false
open Go Go.S3 Go.Proofs
set_option linter.unusedVariables false
set_option maxRecDepth 100000
namespace Go.Proofs.YtpkijkmagnhciaaGreat
noncomputable section
def pNext_1T (c : TC) (s : Int) (g : List Int) : RT (Option (TY × Bool)) :=
  let x1 : TC × Bool × List Int × TI × List TY := (c, s == 5, g, (0, 0, 0, 0, 0, 0, 0, 0), [])
  let x2 : Bool := qAtC x1 0
  let x3 : Bool := !x2 || (rDecode c.1 (qAt x1 0)).1 == 1
  let x4 : List TY := [] ++ [(12, pcOf c, 0, 6)] ++ [(5, IntKind.u16.wrap ((spOf c) - 1), IntKind.u8.wrap (shrI IntKind.u16 (pcOf c) 8), 3)] ++ [(5, IntKind.u16.wrap ((spOf c) - 2), IntKind.u8.wrap (pcOf c), 3)]
  let x6 : Int × Int × Int := ((pcOf c), 0, 4)
  let x7 : List TY := [] ++ [(bif s == 5 then 8 else 1, x6)]
  let x9 : List TY := [] ++ [(1, x6)]
  .br (!x3 || x2)
  (.br (x3)
   (.br (pInternal s)
    (fin3 g x4)
    (.br (iN (List.length g) == 0)
     (fin3 g x7)
     (fin3 g x9)))
   (.leaf none))
  (.leaf none)
theorem pNext_1_ev (a : HL pNextTs) : evVal (envX Tryz.prog (pNextL 1) [] 1125900980585471 8) Tryz.f93 pNextTs pNextRs a = pNext_1T a.1 a.2.1 a.2.2 := by kernel_rfl
def pNext_5T (c : TC) (s : Int) (g : List Int) : RT (Option (TY × Bool)) :=
  let x1 : TC × Bool × List Int × TI × List TY := (c, s == 5, g, (0, 0, 0, 0, 0, 0, 0, 0), [])
  let x2 : Bool := qAtC x1 0
  let x3 : Int × Int × Int × Int × Int × Int × Int × Int := rDecode c.1 (qAt x1 0)
  let x4 : Bool := !x2 || x3.1 == 5
  let x5 : Int × Int × Int := ((pcOf c), 0, 4)
  let x6 : List TY := [] ++ [(1, x5)]
  let x7 : List TY := [(9, pcOf c, 0, 3)]
  let x8 : List TY := bif s == 5 then x6 ++ x7 else x6 ++ [(2, IntKind.u16.wrap ((pcOf c) + IntKind.u16.wrap 1), 0, 3)]
  let x9 : List TY := bif s == 5 then x8 ++ x7 else x8 ++ [(2, IntKind.u16.wrap ((pcOf c) + IntKind.u16.wrap (IntKind.i64.wrap (1 + 1))), 0, 3)]
  let x10 : TC × Bool × List Int × TI × List TY := (c, s == 5, g, (5, x3.2), x9)
  let x11 : List TY := [] ++ [(12, pcOf c, 0, 6)] ++ [(5, IntKind.u16.wrap ((spOf c) - 1), IntKind.u8.wrap (shrI IntKind.u16 (pcOf c) 8), 3)] ++ [(5, IntKind.u16.wrap ((spOf c) - 2), IntKind.u8.wrap (pcOf c), 3)]
  let x13 : List TY := [] ++ [(bif s == 5 then 8 else 1, x5)]
  let x15 : List TY := x9 ++ [(2, qJoin x10 1, 0, 3)]
  .br (!x4 || x2)
  (.br (x4)
   (.br (pInternal s || (iN (List.length g) == 0 || qJoinC x10 1))
    (.br (pInternal s)
     (fin3 g x11)
     (.br (iN (List.length g) == 0)
      (fin3 g x13)
      (fin3 g x15)))
    (.leaf none))
   (.leaf none))
  (.leaf none)
theorem pNext_5_ev (a : HL pNextTs) : evVal (envX Tryz.prog (pNextL 5) [] 1125900980585471 8) Tryz.f93 pNextTs pNextRs a = pNext_5T a.1 a.2.1 a.2.2 := by kernel_rfl
def pNext_9T (c : TC) (s : Int) (g : List Int) : RT (Option (TY × Bool)) :=
  let x1 : TC × Bool × List Int × TI × List TY := (c, s == 5, g, (0, 0, 0, 0, 0, 0, 0, 0), [])
  let x2 : Bool := qAtC x1 0
  let x3 : Int × Int × Int × Int × Int × Int × Int × Int := rDecode c.1 (qAt x1 0)
  let x4 : Bool := !x2 || x3.1 == 9
  let x5 : List TY := [] ++ [(12, pcOf c, 0, 6)] ++ [(5, IntKind.u16.wrap ((spOf c) - 1), IntKind.u8.wrap (shrI IntKind.u16 (pcOf c) 8), 3)] ++ [(5, IntKind.u16.wrap ((spOf c) - 2), IntKind.u8.wrap (pcOf c), 3)]
  let x7 : Int × Int × Int := ((pcOf c), 0, 4)
  let x8 : List TY := [] ++ [(bif s == 5 then 8 else 1, x7)]
  let x10 : List TY := [] ++ [(1, x7)]
  let x11 : Int × Int × Int × Int × Int × Int × Int := x3.2
  let x12 : List TY := x10 ++ [(2, qPair (c, s == 5, g, (9, x11), x10) x11.2.2.2.1, 0, 3)]
  .br (!x4 || x2)
  (.br (x4)
   (.br (pInternal s)
    (fin3 g x5)
    (.br (iN (List.length g) == 0)
     (fin3 g x8)
     (fin3 g x12)))
   (.leaf none))
  (.leaf none)
theorem pNext_9_ev (a : HL pNextTs) : evVal (envX Tryz.prog (pNextL 9) [] 1125900980585471 8) Tryz.f93 pNextTs pNextRs a = pNext_9T a.1 a.2.1 a.2.2 := by kernel_rfl
def pNext_13T (c : TC) (s : Int) (g : List Int) : RT (Option (TY × Bool)) :=
  let x1 : TC × Bool × List Int × TI × List TY := (c, s == 5, g, (0, 0, 0, 0, 0, 0, 0, 0), [])
  let x2 : Bool := qAtC x1 0
  let x3 : Bool := !x2 || (rDecode c.1 (qAt x1 0)).1 == 13
  let x4 : List TY := [] ++ [(12, pcOf c, 0, 6)] ++ [(5, IntKind.u16.wrap ((spOf c) - 1), IntKind.u8.wrap (shrI IntKind.u16 (pcOf c) 8), 3)] ++ [(5, IntKind.u16.wrap ((spOf c) - 2), IntKind.u8.wrap (pcOf c), 3)]
  let x6 : Int × Int × Int := ((pcOf c), 0, 4)
  let x7 : List TY := [] ++ [(bif s == 5 then 8 else 1, x6)]
  let x9 : List TY := [] ++ [(1, x6)]
  let x10 : List TY := bif s == 5 then x9 ++ [(9, pcOf c, 0, 3)] else x9 ++ [(2, IntKind.u16.wrap ((pcOf c) + IntKind.u16.wrap 1), 0, 3)]
  .br (!x3 || x2)
  (.br (x3)
   (.br (pInternal s)
    (fin3 g x4)
    (.br (iN (List.length g) == 0)
     (fin3 g x7)
     (fin3 g x10)))
   (.leaf none))
  (.leaf none)
theorem pNext_13_ev (a : HL pNextTs) : evVal (envX Tryz.prog (pNextL 13) [] 1125900980585471 8) Tryz.f93 pNextTs pNextRs a = pNext_13T a.1 a.2.1 a.2.2 := by kernel_rfl
def pNext_17T (c : TC) (s : Int) (g : List Int) : RT (Option (TY × Bool)) :=
  let x1 : TC × Bool × List Int × TI × List TY := (c, s == 5, g, (0, 0, 0, 0, 0, 0, 0, 0), [])
  let x2 : Bool := qAtC x1 0
  let x3 : Bool := !x2 || (rDecode c.1 (qAt x1 0)).1 == 17
  let x4 : List TY := [] ++ [(12, pcOf c, 0, 6)] ++ [(5, IntKind.u16.wrap ((spOf c) - 1), IntKind.u8.wrap (shrI IntKind.u16 (pcOf c) 8), 3)] ++ [(5, IntKind.u16.wrap ((spOf c) - 2), IntKind.u8.wrap (pcOf c), 3)]
  let x6 : Int × Int × Int := ((pcOf c), 0, 4)
  let x7 : List TY := [] ++ [(bif s == 5 then 8 else 1, x6)]
  let x9 : List TY := [] ++ [(1, x6)]
  .br (!x3 || x2)
  (.br (x3)
   (.br (pInternal s)
    (fin3 g x4)
    (.br (iN (List.length g) == 0)
     (fin3 g x7)
     (fin3 g x9)))
   (.leaf none))
  (.leaf none)
theorem pNext_17_ev (a : HL pNextTs) : evVal (envX Tryz.prog (pNextL 17) [] 1125900980585471 8) Tryz.f93 pNextTs pNextRs a = pNext_17T a.1 a.2.1 a.2.2 := by kernel_rfl
def pNext_21T (c : TC) (s : Int) (g : List Int) : RT (Option (TY × Bool)) :=
  let x1 : TC × Bool × List Int × TI × List TY := (c, s == 5, g, (0, 0, 0, 0, 0, 0, 0, 0), [])
  let x2 : Bool := qAtC x1 0
  let x3 : Bool := !x2 || (rDecode c.1 (qAt x1 0)).1 == 21
  let x4 : List TY := [] ++ [(12, pcOf c, 0, 6)] ++ [(5, IntKind.u16.wrap ((spOf c) - 1), IntKind.u8.wrap (shrI IntKind.u16 (pcOf c) 8), 3)] ++ [(5, IntKind.u16.wrap ((spOf c) - 2), IntKind.u8.wrap (pcOf c), 3)]
  let x6 : Int × Int × Int := ((pcOf c), 0, 4)
  let x7 : List TY := [] ++ [(bif s == 5 then 8 else 1, x6)]
  let x9 : List TY := [] ++ [(1, x6)]
  .br (!x3 || x2)
  (.br (x3)
   (.br (pInternal s)
    (fin3 g x4)
    (.br (iN (List.length g) == 0)
     (fin3 g x7)
     (fin3 g x9)))
   (.leaf none))
  (.leaf none)
theorem pNext_21_ev (a : HL pNextTs) : evVal (envX Tryz.prog (pNextL 21) [] 1125900980585471 8) Tryz.f93 pNextTs pNextRs a = pNext_21T a.1 a.2.1 a.2.2 := by kernel_rfl
def pNext_25T (c : TC) (s : Int) (g : List Int) : RT (Option (TY × Bool)) :=
  let x1 : TC × Bool × List Int × TI × List TY := (c, s == 5, g, (0, 0, 0, 0, 0, 0, 0, 0), [])
  let x2 : Bool := qAtC x1 0
  let x3 : Int × Int × Int × Int × Int × Int × Int × Int := rDecode c.1 (qAt x1 0)
  let x4 : Bool := !x2 || x3.1 == 25
  let x5 : Int := IntKind.u16.wrap ((spOf c) - 1)
  let x6 : Int := IntKind.u16.wrap ((spOf c) - 2)
  let x7 : List TY := [] ++ [(12, pcOf c, 0, 6)] ++ [(5, x5, IntKind.u8.wrap (shrI IntKind.u16 (pcOf c) 8), 3)] ++ [(5, x6, IntKind.u8.wrap (pcOf c), 3)]
  let x9 : Int × Int × Int := ((pcOf c), 0, 4)
  let x10 : List TY := [] ++ [(bif s == 5 then 8 else 1, x9)]
  let x12 : Int × Int × Int × Int × Int × Int × Int × Int := (25, x3.2)
  let x13 : List TY := [] ++ [(1, x9)]
  let x14 : Bool := qTaken (c, s == 5, g, x12, x13)
  let x15 : List TY := [(9, pcOf c, 0, 3)]
  let x16 : List TY := bif s == 5 then x13 ++ x15 else x13 ++ [(2, IntKind.u16.wrap ((pcOf c) + IntKind.u16.wrap 1), 0, 3)]
  let x17 : List TY := bif !x14 && c.1 == 2 then x16 else bif s == 5 then x16 ++ x15 else x16 ++ [(2, IntKind.u16.wrap ((pcOf c) + IntKind.u16.wrap (IntKind.i64.wrap (1 + 1))), 0, 3)]
  let x18 : Int := qBehind (c, s == 5, g, x12, x17)
  let x19 : List TY := bif x14 then x17 ++ [(5, x5, IntKind.u8.wrap (shrI IntKind.u16 x18 8), 3)] ++ [(5, x6, IntKind.u8.wrap x18, 3)] else x17
  .br (!x4 || x2)
  (.br (x4)
   (.br (pInternal s)
    (fin3 g x7)
    (.br (iN (List.length g) == 0)
     (fin3 g x10)
     (fin3 g x19)))
   (.leaf none))
  (.leaf none)
theorem pNext_25_ev (a : HL pNextTs) : evVal (envX Tryz.prog (pNextL 25) [] 1125900980585471 8) Tryz.f93 pNextTs pNextRs a = pNext_25T a.1 a.2.1 a.2.2 := by kernel_rfl
def pNext_29T (c : TC) (s : Int) (g : List Int) : RT (Option (TY × Bool)) :=
  let x1 : TC × Bool × List Int × TI × List TY := (c, s == 5, g, (0, 0, 0, 0, 0, 0, 0, 0), [])
  let x2 : Bool := qAtC x1 0
  let x3 : Bool := !x2 || (rDecode c.1 (qAt x1 0)).1 == 29
  let x4 : List TY := [] ++ [(12, pcOf c, 0, 6)] ++ [(5, IntKind.u16.wrap ((spOf c) - 1), IntKind.u8.wrap (shrI IntKind.u16 (pcOf c) 8), 3)] ++ [(5, IntKind.u16.wrap ((spOf c) - 2), IntKind.u8.wrap (pcOf c), 3)]
  let x6 : Int × Int × Int := ((pcOf c), 0, 4)
  let x7 : List TY := [] ++ [(bif s == 5 then 8 else 1, x6)]
  let x9 : List TY := [] ++ [(1, x6)]
  .br (!x3 || x2)
  (.br (x3)
   (.br (pInternal s)
    (fin3 g x4)
    (.br (iN (List.length g) == 0)
     (fin3 g x7)
     (fin3 g x9)))
   (.leaf none))
  (.leaf none)
theorem pNext_29_ev (a : HL pNextTs) : evVal (envX Tryz.prog (pNextL 29) [] 1125900980585471 8) Tryz.f93 pNextTs pNextRs a = pNext_29T a.1 a.2.1 a.2.2 := by kernel_rfl
def pNext_33T (c : TC) (s : Int) (g : List Int) : RT (Option (TY × Bool)) :=
  let x1 : TC × Bool × List Int × TI × List TY := (c, s == 5, g, (0, 0, 0, 0, 0, 0, 0, 0), [])
  let x2 : Bool := qAtC x1 0
  let x3 : Int × Int × Int × Int × Int × Int × Int × Int := rDecode c.1 (qAt x1 0)
  let x4 : Bool := !x2 || x3.1 == 33
  let x5 : Int × Int × Int := ((pcOf c), 0, 4)
  let x6 : List TY := [] ++ [(1, x5)]
  let x7 : List TY := bif s == 5 then x6 ++ [(9, pcOf c, 0, 3)] else x6 ++ [(2, IntKind.u16.wrap ((pcOf c) + IntKind.u16.wrap 1), 0, 3)]
  let x8 : TC × Bool × List Int × TI × List TY := (c, s == 5, g, (33, x3.2), x7)
  let x9 : Bool := qAtC x8 1
  let x10 : Bool := !x9 || x9
  let x11 : Bool := !x10 || x9
  let x12 : Bool := pInternal s || (iN (List.length g) == 0 || (!x11 || x10))
  let x13 : List TY := [] ++ [(12, pcOf c, 0, 6)] ++ [(5, IntKind.u16.wrap ((spOf c) - 1), IntKind.u8.wrap (shrI IntKind.u16 (pcOf c) 8), 3)] ++ [(5, IntKind.u16.wrap ((spOf c) - 2), IntKind.u8.wrap (pcOf c), 3)]
  let x15 : List TY := [] ++ [(bif s == 5 then 8 else 1, x5)]
  let x17 : Int := qAt x8 1
  let x18 : List TY := x7 ++ [(6, rJoin x17 x17, 0, 3)]
  .br (!x4 || x2)
  (.br (x4)
   (.br (!x12 || (pInternal s || (iN (List.length g) == 0 || x11)))
    (.br (x12)
     (.br (pInternal s)
      (fin3 g x13)
      (.br (iN (List.length g) == 0)
       (fin3 g x15)
       (fin3 g x18)))
     (.leaf none))
    (.leaf none))
   (.leaf none))
  (.leaf none)
theorem pNext_33_ev (a : HL pNextTs) : evVal (envX Tryz.prog (pNextL 33) [] 1125900980585471 8) Tryz.f93 pNextTs pNextRs a = pNext_33T a.1 a.2.1 a.2.2 := by kernel_rfl
def pNext_37T (c : TC) (s : Int) (g : List Int) : RT (Option (TY × Bool)) :=
  let x1 : TC × Bool × List Int × TI × List TY := (c, s == 5, g, (0, 0, 0, 0, 0, 0, 0, 0), [])
  let x2 : Bool := qAtC x1 0
  let x3 : Bool := !x2 || (rDecode c.1 (qAt x1 0)).1 == 37
  let x4 : List TY := [] ++ [(12, pcOf c, 0, 6)] ++ [(5, IntKind.u16.wrap ((spOf c) - 1), IntKind.u8.wrap (shrI IntKind.u16 (pcOf c) 8), 3)] ++ [(5, IntKind.u16.wrap ((spOf c) - 2), IntKind.u8.wrap (pcOf c), 3)]
  let x6 : Int × Int × Int := ((pcOf c), 0, 4)
  let x7 : List TY := [] ++ [(bif s == 5 then 8 else 1, x6)]
  let x9 : List TY := [] ++ [(1, x6)]
  let x10 : List TY := bif c.1 != 2 then x9 ++ [(10, pcOf c, 0, 3)] else x9
  .br (!x3 || x2)
  (.br (x3)
   (.br (pInternal s)
    (fin3 g x4)
    (.br (iN (List.length g) == 0)
     (fin3 g x7)
     (fin3 g x10)))
   (.leaf none))
  (.leaf none)
theorem pNext_37_ev (a : HL pNextTs) : evVal (envX Tryz.prog (pNextL 37) [] 1125900980585471 8) Tryz.f93 pNextTs pNextRs a = pNext_37T a.1 a.2.1 a.2.2 := by kernel_rfl
def pNext_41T (c : TC) (s : Int) (g : List Int) : RT (Option (TY × Bool)) :=
  let x1 : TC × Bool × List Int × TI × List TY := (c, s == 5, g, (0, 0, 0, 0, 0, 0, 0, 0), [])
  let x2 : Bool := qAtC x1 0
  let x3 : Bool := !x2 || (rDecode c.1 (qAt x1 0)).1 == 41
  let x4 : List TY := [] ++ [(12, pcOf c, 0, 6)] ++ [(5, IntKind.u16.wrap ((spOf c) - 1), IntKind.u8.wrap (shrI IntKind.u16 (pcOf c) 8), 3)] ++ [(5, IntKind.u16.wrap ((spOf c) - 2), IntKind.u8.wrap (pcOf c), 3)]
  let x6 : Int × Int × Int := ((pcOf c), 0, 4)
  let x7 : List TY := [] ++ [(bif s == 5 then 8 else 1, x6)]
  let x9 : List TY := [] ++ [(1, x6)] ++ [(11, pcOf c, 0, 3)]
  .br (!x3 || x2)
  (.br (x3)
   (.br (pInternal s)
    (fin3 g x4)
    (.br (iN (List.length g) == 0)
     (fin3 g x7)
     (fin3 g x9)))
   (.leaf none))
  (.leaf none)
theorem pNext_41_ev (a : HL pNextTs) : evVal (envX Tryz.prog (pNextL 41) [] 1125900980585471 8) Tryz.f93 pNextTs pNextRs a = pNext_41T a.1 a.2.1 a.2.2 := by kernel_rfl
def pNext_45T (c : TC) (s : Int) (g : List Int) : RT (Option (TY × Bool)) :=
  let x1 : TC × Bool × List Int × TI × List TY := (c, s == 5, g, (0, 0, 0, 0, 0, 0, 0, 0), [])
  let x2 : Bool := qAtC x1 0
  let x3 : Int × Int × Int × Int × Int × Int × Int × Int := rDecode c.1 (qAt x1 0)
  let x4 : Bool := !x2 || x3.1 == 45
  let x5 : Int := IntKind.u16.wrap ((spOf c) - 1)
  let x6 : Int := IntKind.u16.wrap ((spOf c) - 2)
  let x7 : List TY := [] ++ [(12, pcOf c, 0, 6)] ++ [(5, x5, IntKind.u8.wrap (shrI IntKind.u16 (pcOf c) 8), 3)] ++ [(5, x6, IntKind.u8.wrap (pcOf c), 3)]
  let x9 : Int × Int × Int := ((pcOf c), 0, 4)
  let x10 : List TY := [] ++ [(bif s == 5 then 8 else 1, x9)]
  let x12 : List TY := [] ++ [(1, x9)]
  let x13 : TC × Bool × List Int × TI × List TY := (c, s == 5, g, (45, x3.2), x12)
  let x14 : Int := qBehind x13
  let x15 : List TY := bif qTaken x13 then x12 ++ [(5, x5, IntKind.u8.wrap (shrI IntKind.u16 x14 8), 3)] ++ [(5, x6, IntKind.u8.wrap x14, 3)] else x12
  .br (!x4 || x2)
  (.br (x4)
   (.br (pInternal s)
    (fin3 g x7)
    (.br (iN (List.length g) == 0)
     (fin3 g x10)
     (fin3 g x15)))
   (.leaf none))
  (.leaf none)
theorem pNext_45_ev (a : HL pNextTs) : evVal (envX Tryz.prog (pNextL 45) [] 1125900980585471 8) Tryz.f93 pNextTs pNextRs a = pNext_45T a.1 a.2.1 a.2.2 := by kernel_rfl
end
end Go.Proofs.YtpkijkmagnhciaaGreat
set_option linter.unusedSimpArgs false
open Go Go.S3 Go.Proofs
set_option linter.unusedVariables false
set_option maxRecDepth 100000
namespace Go.Proofs.YtpkijkmagnhciaaGreat
noncomputable section
def pNext_2T (c : TC) (s : Int) (g : List Int) : RT (Option (TY × Bool)) :=
  let x1 : TC × Bool × List Int × TI × List TY := (c, s == 5, g, (0, 0, 0, 0, 0, 0, 0, 0), [])
  let x2 : Bool := qAtC x1 0
  let x3 : Int × Int × Int × Int × Int × Int × Int × Int := rDecode c.1 (qAt x1 0)
  let x4 : Bool := !x2 || x3.1 == 2
  let x5 : List TY := [] ++ [(12, pcOf c, 0, 6)] ++ [(5, IntKind.u16.wrap ((spOf c) - 1), IntKind.u8.wrap (shrI IntKind.u16 (pcOf c) 8), 3)] ++ [(5, IntKind.u16.wrap ((spOf c) - 2), IntKind.u8.wrap (pcOf c), 3)]
  let x7 : Int × Int × Int := ((pcOf c), 0, 4)
  let x8 : List TY := [] ++ [(bif s == 5 then 8 else 1, x7)]
  let x10 : Int × Int × Int × Int × Int × Int × Int := x3.2
  let x11 : Int × Int × Int × Int × Int × Int := x10.2
  let x12 : Int := x11.2.1
  let x13 : List TY := [] ++ [(1, x7)]
  let x14 : TC × Bool × List Int × TI × List TY := (c, s == 5, g, (2, x10), x13)
  let x15 : Int := qPair x14 2
  let x16 : List TY := bif x12 == 6 then x13 ++ [(2, x15, 0, 3)] else bif x11.1 == 6 then x13 ++ [(3, x15, qReg x14 x12, 3)] else x13
  .br (!x4 || x2)
  (.br (x4)
   (.br (pInternal s)
    (fin3 g x5)
    (.br (iN (List.length g) == 0)
     (fin3 g x8)
     (fin3 g x16)))
   (.leaf none))
  (.leaf none)
theorem pNext_2_ev (a : HL pNextTs) : evVal (envX Tryz.prog (pNextL 2) [] 1125900980585471 8) Tryz.f93 pNextTs pNextRs a = pNext_2T a.1 a.2.1 a.2.2 := by kernel_rfl
def pNext_6T (c : TC) (s : Int) (g : List Int) : RT (Option (TY × Bool)) :=
  let x1 : TC × Bool × List Int × TI × List TY := (c, s == 5, g, (0, 0, 0, 0, 0, 0, 0, 0), [])
  let x2 : Bool := qAtC x1 0
  let x3 : Int × Int × Int × Int × Int × Int × Int × Int := rDecode c.1 (qAt x1 0)
  let x4 : Bool := !x2 || x3.1 == 6
  let x5 : Int × Int × Int := ((pcOf c), 0, 4)
  let x6 : List TY := [] ++ [(1, x5)]
  let x7 : List TY := [(9, pcOf c, 0, 3)]
  let x8 : List TY := bif s == 5 then x6 ++ x7 else x6 ++ [(2, IntKind.u16.wrap ((pcOf c) + IntKind.u16.wrap 1), 0, 3)]
  let x9 : List TY := bif s == 5 then x8 ++ x7 else x8 ++ [(2, IntKind.u16.wrap ((pcOf c) + IntKind.u16.wrap (IntKind.i64.wrap (1 + 1))), 0, 3)]
  let x10 : TC × Bool × List Int × TI × List TY := (c, s == 5, g, (6, x3.2), x9)
  let x11 : List TY := [] ++ [(12, pcOf c, 0, 6)] ++ [(5, IntKind.u16.wrap ((spOf c) - 1), IntKind.u8.wrap (shrI IntKind.u16 (pcOf c) 8), 3)] ++ [(5, IntKind.u16.wrap ((spOf c) - 2), IntKind.u8.wrap (pcOf c), 3)]
  let x13 : List TY := [] ++ [(bif s == 5 then 8 else 1, x5)]
  let x15 : List TY := x9 ++ [(3, qJoin x10 1, c.2.1.1, 3)]
  .br (!x4 || x2)
  (.br (x4)
   (.br (pInternal s || (iN (List.length g) == 0 || qJoinC x10 1))
    (.br (pInternal s)
     (fin3 g x11)
     (.br (iN (List.length g) == 0)
      (fin3 g x13)
      (fin3 g x15)))
    (.leaf none))
   (.leaf none))
  (.leaf none)
theorem pNext_6_ev (a : HL pNextTs) : evVal (envX Tryz.prog (pNextL 6) [] 1125900980585471 8) Tryz.f93 pNextTs pNextRs a = pNext_6T a.1 a.2.1 a.2.2 := by kernel_rfl
def pNext_10T (c : TC) (s : Int) (g : List Int) : RT (Option (TY × Bool)) :=
  let x1 : TC × Bool × List Int × TI × List TY := (c, s == 5, g, (0, 0, 0, 0, 0, 0, 0, 0), [])
  let x2 : Bool := qAtC x1 0
  let x3 : Int × Int × Int × Int × Int × Int × Int × Int := rDecode c.1 (qAt x1 0)
  let x4 : Bool := !x2 || x3.1 == 10
  let x5 : List TY := [] ++ [(12, pcOf c, 0, 6)] ++ [(5, IntKind.u16.wrap ((spOf c) - 1), IntKind.u8.wrap (shrI IntKind.u16 (pcOf c) 8), 3)] ++ [(5, IntKind.u16.wrap ((spOf c) - 2), IntKind.u8.wrap (pcOf c), 3)]
  let x7 : Int × Int × Int := ((pcOf c), 0, 4)
  let x8 : List TY := [] ++ [(bif s == 5 then 8 else 1, x7)]
  let x10 : List TY := [] ++ [(1, x7)]
  let x11 : Int × Int × Int × Int × Int × Int × Int := x3.2
  let x12 : List TY := x10 ++ [(3, qPair (c, s == 5, g, (10, x11), x10) x11.2.2.2.1, c.2.1.1, 3)]
  .br (!x4 || x2)
  (.br (x4)
   (.br (pInternal s)
    (fin3 g x5)
    (.br (iN (List.length g) == 0)
     (fin3 g x8)
     (fin3 g x12)))
   (.leaf none))
  (.leaf none)
theorem pNext_10_ev (a : HL pNextTs) : evVal (envX Tryz.prog (pNextL 10) [] 1125900980585471 8) Tryz.f93 pNextTs pNextRs a = pNext_10T a.1 a.2.1 a.2.2 := by kernel_rfl
def pNext_14T (c : TC) (s : Int) (g : List Int) : RT (Option (TY × Bool)) :=
  let x1 : TC × Bool × List Int × TI × List TY := (c, s == 5, g, (0, 0, 0, 0, 0, 0, 0, 0), [])
  let x2 : Bool := qAtC x1 0
  let x3 : Int × Int × Int × Int × Int × Int × Int × Int := rDecode c.1 (qAt x1 0)
  let x4 : Bool := !x2 || x3.1 == 14
  let x5 : Int × Int × Int × Int × Int × Int × Int := x3.2
  let x6 : Bool := x5.2.1 == 6
  let x7 : Int × Int × Int × Int × Int × Int × Int × Int := (14, x5)
  let x8 : Int × Int × Int := ((pcOf c), 0, 4)
  let x9 : List TY := [] ++ [(1, x8)]
  let x10 : Int := qPair (c, s == 5, g, x7, x9) 2
  let x11 : List TY := x9 ++ [(2, x10, 0, 3)]
  let x12 : TC × Bool × List Int × TI × List TY := (c, s == 5, g, x7, x11)
  let x13 : List TY := [] ++ [(12, pcOf c, 0, 6)] ++ [(5, IntKind.u16.wrap ((spOf c) - 1), IntKind.u8.wrap (shrI IntKind.u16 (pcOf c) 8), 3)] ++ [(5, IntKind.u16.wrap ((spOf c) - 2), IntKind.u8.wrap (pcOf c), 3)]
  let x15 : List TY := [] ++ [(bif s == 5 then 8 else 1, x8)]
  let x17 : List TY := bif x6 then x11 ++ [(3, x10, qCounted x12, 3)] else x9
  .br (!x4 || x2)
  (.br (x4)
   (.br (pInternal s || (iN (List.length g) == 0 || (!x6 || qCountedC x12)))
    (.br (pInternal s)
     (fin3 g x13)
     (.br (iN (List.length g) == 0)
      (fin3 g x15)
      (fin3 g x17)))
    (.leaf none))
   (.leaf none))
  (.leaf none)
theorem pNext_14_ev (a : HL pNextTs) : evVal (envX Tryz.prog (pNextL 14) [] 1125900980585471 8) Tryz.f93 pNextTs pNextRs a = pNext_14T a.1 a.2.1 a.2.2 := by kernel_rfl
def pNext_18T (c : TC) (s : Int) (g : List Int) : RT (Option (TY × Bool)) :=
  let x1 : TC × Bool × List Int × TI × List TY := (c, s == 5, g, (0, 0, 0, 0, 0, 0, 0, 0), [])
  let x2 : Bool := qAtC x1 0
  let x3 : Bool := !x2 || (rDecode c.1 (qAt x1 0)).1 == 18
  let x4 : List TY := [] ++ [(12, pcOf c, 0, 6)] ++ [(5, IntKind.u16.wrap ((spOf c) - 1), IntKind.u8.wrap (shrI IntKind.u16 (pcOf c) 8), 3)] ++ [(5, IntKind.u16.wrap ((spOf c) - 2), IntKind.u8.wrap (pcOf c), 3)]
  let x6 : Int × Int × Int := ((pcOf c), 0, 4)
  let x7 : List TY := [] ++ [(bif s == 5 then 8 else 1, x6)]
  let x9 : List TY := [(11, pcOf c, 0, 3)]
  let x10 : List TY := [] ++ [(1, x6)] ++ x9 ++ x9
  .br (!x3 || x2)
  (.br (x3)
   (.br (pInternal s)
    (fin3 g x4)
    (.br (iN (List.length g) == 0)
     (fin3 g x7)
     (fin3 g x10)))
   (.leaf none))
  (.leaf none)
theorem pNext_18_ev (a : HL pNextTs) : evVal (envX Tryz.prog (pNextL 18) [] 1125900980585471 8) Tryz.f93 pNextTs pNextRs a = pNext_18T a.1 a.2.1 a.2.2 := by kernel_rfl
def pNext_22T (c : TC) (s : Int) (g : List Int) : RT (Option (TY × Bool)) :=
  let x1 : TC × Bool × List Int × TI × List TY := (c, s == 5, g, (0, 0, 0, 0, 0, 0, 0, 0), [])
  let x2 : Bool := qAtC x1 0
  let x3 : Bool := !x2 || (rDecode c.1 (qAt x1 0)).1 == 22
  let x4 : List TY := [] ++ [(12, pcOf c, 0, 6)] ++ [(5, IntKind.u16.wrap ((spOf c) - 1), IntKind.u8.wrap (shrI IntKind.u16 (pcOf c) 8), 3)] ++ [(5, IntKind.u16.wrap ((spOf c) - 2), IntKind.u8.wrap (pcOf c), 3)]
  let x6 : Int × Int × Int := ((pcOf c), 0, 4)
  let x7 : List TY := [] ++ [(bif s == 5 then 8 else 1, x6)]
  let x9 : List TY := [] ++ [(1, x6)]
  .br (!x3 || x2)
  (.br (x3)
   (.br (pInternal s)
    (fin3 g x4)
    (.br (iN (List.length g) == 0)
     (fin3 g x7)
     (fin3 g x9)))
   (.leaf none))
  (.leaf none)
theorem pNext_22_ev (a : HL pNextTs) : evVal (envX Tryz.prog (pNextL 22) [] 1125900980585471 8) Tryz.f93 pNextTs pNextRs a = pNext_22T a.1 a.2.1 a.2.2 := by kernel_rfl
def pNext_26T (c : TC) (s : Int) (g : List Int) : RT (Option (TY × Bool)) :=
  let x1 : TC × Bool × List Int × TI × List TY := (c, s == 5, g, (0, 0, 0, 0, 0, 0, 0, 0), [])
  let x2 : Bool := qAtC x1 0
  let x3 : Int × Int × Int × Int × Int × Int × Int × Int := rDecode c.1 (qAt x1 0)
  let x4 : Bool := !x2 || x3.1 == 26
  let x5 : List TY := [] ++ [(12, pcOf c, 0, 6)] ++ [(5, IntKind.u16.wrap ((spOf c) - 1), IntKind.u8.wrap (shrI IntKind.u16 (pcOf c) 8), 3)] ++ [(5, IntKind.u16.wrap ((spOf c) - 2), IntKind.u8.wrap (pcOf c), 3)]
  let x7 : Int × Int × Int := ((pcOf c), 0, 4)
  let x8 : List TY := [] ++ [(bif s == 5 then 8 else 1, x7)]
  let x10 : List TY := [] ++ [(1, x7)]
  let x11 : List TY := bif qTaken (c, s == 5, g, (26, x3.2), x10) then x10 ++ [(4, spOf c, 0, 3)] ++ [(4, IntKind.u16.wrap ((spOf c) + 1), 0, 3)] else x10
  .br (!x4 || x2)
  (.br (x4)
   (.br (pInternal s)
    (fin3 g x5)
    (.br (iN (List.length g) == 0)
     (fin3 g x8)
     (fin3 g x11)))
   (.leaf none))
  (.leaf none)
theorem pNext_26_ev (a : HL pNextTs) : evVal (envX Tryz.prog (pNextL 26) [] 1125900980585471 8) Tryz.f93 pNextTs pNextRs a = pNext_26T a.1 a.2.1 a.2.2 := by kernel_rfl
def pNext_30T (c : TC) (s : Int) (g : List Int) : RT (Option (TY × Bool)) :=
  let x1 : TC × Bool × List Int × TI × List TY := (c, s == 5, g, (0, 0, 0, 0, 0, 0, 0, 0), [])
  let x2 : Bool := qAtC x1 0
  let x3 : Int × Int × Int × Int × Int × Int × Int × Int := rDecode c.1 (qAt x1 0)
  let x4 : Bool := !x2 || x3.1 == 30
  let x5 : Int := IntKind.u16.wrap ((spOf c) - 1)
  let x6 : Int := IntKind.u16.wrap ((spOf c) - 2)
  let x7 : List TY := [] ++ [(12, pcOf c, 0, 6)] ++ [(5, x5, IntKind.u8.wrap (shrI IntKind.u16 (pcOf c) 8), 3)] ++ [(5, x6, IntKind.u8.wrap (pcOf c), 3)]
  let x9 : Int × Int × Int := ((pcOf c), 0, 4)
  let x10 : List TY := [] ++ [(bif s == 5 then 8 else 1, x9)]
  let x12 : List TY := [] ++ [(1, x9)]
  let x13 : Int × Int × Int × Int × Int × Int × Int := x3.2
  let x14 : Int := x13.2.2.2.1
  let x15 : Int := bif x14 == 3 then rPSW c.1 c.2.1 else qPair (c, s == 5, g, (30, x13), x12) x14
  let x16 : List TY := x12 ++ [(5, x5, IntKind.u8.wrap (shrI IntKind.u16 x15 8), 3)] ++ [(5, x6, IntKind.u8.wrap x15, 3)]
  .br (!x4 || x2)
  (.br (x4)
   (.br (pInternal s)
    (fin3 g x7)
    (.br (iN (List.length g) == 0)
     (fin3 g x10)
     (fin3 g x16)))
   (.leaf none))
  (.leaf none)
theorem pNext_30_ev (a : HL pNextTs) : evVal (envX Tryz.prog (pNextL 30) [] 1125900980585471 8) Tryz.f93 pNextTs pNextRs a = pNext_30T a.1 a.2.1 a.2.2 := by kernel_rfl
def pNext_34T (c : TC) (s : Int) (g : List Int) : RT (Option (TY × Bool)) :=
  let x1 : TC × Bool × List Int × TI × List TY := (c, s == 5, g, (0, 0, 0, 0, 0, 0, 0, 0), [])
  let x2 : Bool := qAtC x1 0
  let x3 : Int × Int × Int × Int × Int × Int × Int × Int := rDecode c.1 (qAt x1 0)
  let x4 : Bool := !x2 || x3.1 == 34
  let x5 : Int × Int × Int := ((pcOf c), 0, 4)
  let x6 : List TY := [] ++ [(1, x5)]
  let x7 : List TY := bif s == 5 then x6 ++ [(9, pcOf c, 0, 3)] else x6 ++ [(2, IntKind.u16.wrap ((pcOf c) + IntKind.u16.wrap 1), 0, 3)]
  let x8 : TC × Bool × List Int × TI × List TY := (c, s == 5, g, (34, x3.2), x7)
  let x9 : Bool := qAtC x8 1
  let x10 : Bool := !x9 || x9
  let x11 : Bool := !x10 || x9
  let x12 : Bool := pInternal s || (iN (List.length g) == 0 || (!x11 || x10))
  let x13 : List TY := [] ++ [(12, pcOf c, 0, 6)] ++ [(5, IntKind.u16.wrap ((spOf c) - 1), IntKind.u8.wrap (shrI IntKind.u16 (pcOf c) 8), 3)] ++ [(5, IntKind.u16.wrap ((spOf c) - 2), IntKind.u8.wrap (pcOf c), 3)]
  let x15 : List TY := [] ++ [(bif s == 5 then 8 else 1, x5)]
  let x17 : Int := qAt x8 1
  let x18 : List TY := x7 ++ [(7, rJoin x17 x17, c.2.1.1, 3)]
  .br (!x4 || x2)
  (.br (x4)
   (.br (!x12 || (pInternal s || (iN (List.length g) == 0 || x11)))
    (.br (x12)
     (.br (pInternal s)
      (fin3 g x13)
      (.br (iN (List.length g) == 0)
       (fin3 g x15)
       (fin3 g x18)))
     (.leaf none))
    (.leaf none))
   (.leaf none))
  (.leaf none)
theorem pNext_34_ev (a : HL pNextTs) : evVal (envX Tryz.prog (pNextL 34) [] 1125900980585471 8) Tryz.f93 pNextTs pNextRs a = pNext_34T a.1 a.2.1 a.2.2 := by kernel_rfl
def pNext_38T (c : TC) (s : Int) (g : List Int) : RT (Option (TY × Bool)) :=
  let x1 : TC × Bool × List Int × TI × List TY := (c, s == 5, g, (0, 0, 0, 0, 0, 0, 0, 0), [])
  let x2 : Bool := qAtC x1 0
  let x3 : Bool := !x2 || (rDecode c.1 (qAt x1 0)).1 == 38
  let x4 : List TY := [] ++ [(12, pcOf c, 0, 6)] ++ [(5, IntKind.u16.wrap ((spOf c) - 1), IntKind.u8.wrap (shrI IntKind.u16 (pcOf c) 8), 3)] ++ [(5, IntKind.u16.wrap ((spOf c) - 2), IntKind.u8.wrap (pcOf c), 3)]
  let x6 : Int × Int × Int := ((pcOf c), 0, 4)
  let x7 : List TY := [] ++ [(bif s == 5 then 8 else 1, x6)]
  let x9 : List TY := [] ++ [(1, x6)]
  .br (!x3 || x2)
  (.br (x3)
   (.br (pInternal s)
    (fin3 g x4)
    (.br (iN (List.length g) == 0)
     (fin3 g x7)
     (fin3 g x9)))
   (.leaf none))
  (.leaf none)
theorem pNext_38_ev (a : HL pNextTs) : evVal (envX Tryz.prog (pNextL 38) [] 1125900980585471 8) Tryz.f93 pNextTs pNextRs a = pNext_38T a.1 a.2.1 a.2.2 := by kernel_rfl
def pNext_42T (c : TC) (s : Int) (g : List Int) : RT (Option (TY × Bool)) :=
  let x1 : TC × Bool × List Int × TI × List TY := (c, s == 5, g, (0, 0, 0, 0, 0, 0, 0, 0), [])
  let x2 : Bool := qAtC x1 0
  let x3 : Bool := !x2 || (rDecode c.1 (qAt x1 0)).1 == 42
  let x4 : List TY := [] ++ [(12, pcOf c, 0, 6)] ++ [(5, IntKind.u16.wrap ((spOf c) - 1), IntKind.u8.wrap (shrI IntKind.u16 (pcOf c) 8), 3)] ++ [(5, IntKind.u16.wrap ((spOf c) - 2), IntKind.u8.wrap (pcOf c), 3)]
  let x6 : Int × Int × Int := ((pcOf c), 0, 4)
  let x7 : List TY := [] ++ [(bif s == 5 then 8 else 1, x6)]
  let x9 : List TY := [(11, pcOf c, 0, 3)]
  let x10 : List TY := [] ++ [(1, x6)] ++ x9 ++ x9
  .br (!x3 || x2)
  (.br (x3)
   (.br (pInternal s)
    (fin3 g x4)
    (.br (iN (List.length g) == 0)
     (fin3 g x7)
     (fin3 g x10)))
   (.leaf none))
  (.leaf none)
theorem pNext_42_ev (a : HL pNextTs) : evVal (envX Tryz.prog (pNextL 42) [] 1125900980585471 8) Tryz.f93 pNextTs pNextRs a = pNext_42T a.1 a.2.1 a.2.2 := by kernel_rfl
def pNext_46T (c : TC) (s : Int) (g : List Int) : RT (Option (TY × Bool)) :=
  let x1 : TC × Bool × List Int × TI × List TY := (c, s == 5, g, (0, 0, 0, 0, 0, 0, 0, 0), [])
  let x2 : Bool := qAtC x1 0
  let x3 : Int × Int × Int × Int × Int × Int × Int × Int := rDecode c.1 (qAt x1 0)
  let x4 : Bool := !x2 || x3.1 == 46
  let x5 : List TY := [] ++ [(12, pcOf c, 0, 6)] ++ [(5, IntKind.u16.wrap ((spOf c) - 1), IntKind.u8.wrap (shrI IntKind.u16 (pcOf c) 8), 3)] ++ [(5, IntKind.u16.wrap ((spOf c) - 2), IntKind.u8.wrap (pcOf c), 3)]
  let x7 : Int × Int × Int := ((pcOf c), 0, 4)
  let x8 : List TY := [] ++ [(bif s == 5 then 8 else 1, x7)]
  let x10 : List TY := [] ++ [(1, x7)]
  let x11 : Int := qPair (c, s == 5, g, (46, x3.2), x10) 1
  let x12 : List TY := x10 ++ [(3, x11, c.2.1.2.2.2.2.2.2.1, 3)] ++ [(3, IntKind.u16.wrap (x11 + 1), c.2.1.2.2.2.2.2.1, 3)]
  .br (!x4 || x2)
  (.br (x4)
   (.br (pInternal s)
    (fin3 g x5)
    (.br (iN (List.length g) == 0)
     (fin3 g x8)
     (fin3 g x12)))
   (.leaf none))
  (.leaf none)
theorem pNext_46_ev (a : HL pNextTs) : evVal (envX Tryz.prog (pNextL 46) [] 1125900980585471 8) Tryz.f93 pNextTs pNextRs a = pNext_46T a.1 a.2.1 a.2.2 := by kernel_rfl
end
end Go.Proofs.YtpkijkmagnhciaaGreat
set_option linter.unusedSimpArgs false
open Go Go.S3 Go.Proofs
set_option linter.unusedVariables false
set_option maxRecDepth 100000
namespace Go.Proofs.YtpkijkmagnhciaaGreat
noncomputable section
def pNext_3T (c : TC) (s : Int) (g : List Int) : RT (Option (TY × Bool)) :=
  let x1 : TC × Bool × List Int × TI × List TY := (c, s == 5, g, (0, 0, 0, 0, 0, 0, 0, 0), [])
  let x2 : Bool := qAtC x1 0
  let x3 : Int × Int × Int × Int × Int × Int × Int × Int := rDecode c.1 (qAt x1 0)
  let x4 : Bool := !x2 || x3.1 == 3
  let x5 : Int × Int × Int × Int × Int × Int × Int := x3.2
  let x6 : Bool := x5.2.1 == 6
  let x7 : Int × Int × Int × Int × Int × Int × Int × Int := (3, x5)
  let x8 : Int × Int × Int := ((pcOf c), 0, 4)
  let x9 : List TY := [] ++ [(1, x8)]
  let x10 : List TY := bif s == 5 then x9 ++ [(9, pcOf c, 0, 3)] else x9 ++ [(2, IntKind.u16.wrap ((pcOf c) + IntKind.u16.wrap 1), 0, 3)]
  let x11 : TC × Bool × List Int × TI × List TY := (c, s == 5, g, x7, x10)
  let x12 : List TY := [] ++ [(12, pcOf c, 0, 6)] ++ [(5, IntKind.u16.wrap ((spOf c) - 1), IntKind.u8.wrap (shrI IntKind.u16 (pcOf c) 8), 3)] ++ [(5, IntKind.u16.wrap ((spOf c) - 2), IntKind.u8.wrap (pcOf c), 3)]
  let x14 : List TY := [] ++ [(bif s == 5 then 8 else 1, x8)]
  let x16 : List TY := bif x6 then x10 ++ [(3, qPair (c, s == 5, g, x7, x9) 2, qAt x11 1, 3)] else x10
  .br (!x4 || x2)
  (.br (x4)
   (.br (pInternal s || (iN (List.length g) == 0 || (!x6 || qAtC x11 1)))
    (.br (pInternal s)
     (fin3 g x12)
     (.br (iN (List.length g) == 0)
      (fin3 g x14)
      (fin3 g x16)))
    (.leaf none))
   (.leaf none))
  (.leaf none)
theorem pNext_3_ev (a : HL pNextTs) : evVal (envX Tryz.prog (pNextL 3) [] 1125900980585471 8) Tryz.f93 pNextTs pNextRs a = pNext_3T a.1 a.2.1 a.2.2 := by kernel_rfl
def pNext_7T (c : TC) (s : Int) (g : List Int) : RT (Option (TY × Bool)) :=
  let x1 : TC × Bool × List Int × TI × List TY := (c, s == 5, g, (0, 0, 0, 0, 0, 0, 0, 0), [])
  let x2 : Bool := qAtC x1 0
  let x3 : Int × Int × Int × Int × Int × Int × Int × Int := rDecode c.1 (qAt x1 0)
  let x4 : Bool := !x2 || x3.1 == 7
  let x5 : Int × Int × Int := ((pcOf c), 0, 4)
  let x6 : List TY := [] ++ [(1, x5)]
  let x7 : List TY := [(9, pcOf c, 0, 3)]
  let x8 : List TY := bif s == 5 then x6 ++ x7 else x6 ++ [(2, IntKind.u16.wrap ((pcOf c) + IntKind.u16.wrap 1), 0, 3)]
  let x9 : List TY := bif s == 5 then x8 ++ x7 else x8 ++ [(2, IntKind.u16.wrap ((pcOf c) + IntKind.u16.wrap (IntKind.i64.wrap (1 + 1))), 0, 3)]
  let x10 : TC × Bool × List Int × TI × List TY := (c, s == 5, g, (7, x3.2), x9)
  let x11 : List TY := [] ++ [(12, pcOf c, 0, 6)] ++ [(5, IntKind.u16.wrap ((spOf c) - 1), IntKind.u8.wrap (shrI IntKind.u16 (pcOf c) 8), 3)] ++ [(5, IntKind.u16.wrap ((spOf c) - 2), IntKind.u8.wrap (pcOf c), 3)]
  let x13 : List TY := [] ++ [(bif s == 5 then 8 else 1, x5)]
  let x15 : Int := qJoin x10 1
  let x16 : List TY := x9 ++ [(2, x15, 0, 3)] ++ [(2, IntKind.u16.wrap (x15 + 1), 0, 3)]
  .br (!x4 || x2)
  (.br (x4)
   (.br (pInternal s || (iN (List.length g) == 0 || qJoinC x10 1))
    (.br (pInternal s)
     (fin3 g x11)
     (.br (iN (List.length g) == 0)
      (fin3 g x13)
      (fin3 g x16)))
    (.leaf none))
   (.leaf none))
  (.leaf none)
theorem pNext_7_ev (a : HL pNextTs) : evVal (envX Tryz.prog (pNextL 7) [] 1125900980585471 8) Tryz.f93 pNextTs pNextRs a = pNext_7T a.1 a.2.1 a.2.2 := by kernel_rfl
def pNext_11T (c : TC) (s : Int) (g : List Int) : RT (Option (TY × Bool)) :=
  let x1 : TC × Bool × List Int × TI × List TY := (c, s == 5, g, (0, 0, 0, 0, 0, 0, 0, 0), [])
  let x2 : Bool := qAtC x1 0
  let x3 : Bool := !x2 || (rDecode c.1 (qAt x1 0)).1 == 11
  let x4 : List TY := [] ++ [(12, pcOf c, 0, 6)] ++ [(5, IntKind.u16.wrap ((spOf c) - 1), IntKind.u8.wrap (shrI IntKind.u16 (pcOf c) 8), 3)] ++ [(5, IntKind.u16.wrap ((spOf c) - 2), IntKind.u8.wrap (pcOf c), 3)]
  let x6 : Int × Int × Int := ((pcOf c), 0, 4)
  let x7 : List TY := [] ++ [(bif s == 5 then 8 else 1, x6)]
  let x9 : List TY := [] ++ [(1, x6)]
  .br (!x3 || x2)
  (.br (x3)
   (.br (pInternal s)
    (fin3 g x4)
    (.br (iN (List.length g) == 0)
     (fin3 g x7)
     (fin3 g x9)))
   (.leaf none))
  (.leaf none)
theorem pNext_11_ev (a : HL pNextTs) : evVal (envX Tryz.prog (pNextL 11) [] 1125900980585471 8) Tryz.f93 pNextTs pNextRs a = pNext_11T a.1 a.2.1 a.2.2 := by kernel_rfl
def pNext_15T (c : TC) (s : Int) (g : List Int) : RT (Option (TY × Bool)) :=
  let x1 : TC × Bool × List Int × TI × List TY := (c, s == 5, g, (0, 0, 0, 0, 0, 0, 0, 0), [])
  let x2 : Bool := qAtC x1 0
  let x3 : Int × Int × Int × Int × Int × Int × Int × Int := rDecode c.1 (qAt x1 0)
  let x4 : Bool := !x2 || x3.1 == 15
  let x5 : Int × Int × Int × Int × Int × Int × Int := x3.2
  let x6 : Bool := x5.2.1 == 6
  let x7 : Int × Int × Int × Int × Int × Int × Int × Int := (15, x5)
  let x8 : Int × Int × Int := ((pcOf c), 0, 4)
  let x9 : List TY := [] ++ [(1, x8)]
  let x10 : Int := qPair (c, s == 5, g, x7, x9) 2
  let x11 : List TY := x9 ++ [(2, x10, 0, 3)]
  let x12 : TC × Bool × List Int × TI × List TY := (c, s == 5, g, x7, x11)
  let x13 : List TY := [] ++ [(12, pcOf c, 0, 6)] ++ [(5, IntKind.u16.wrap ((spOf c) - 1), IntKind.u8.wrap (shrI IntKind.u16 (pcOf c) 8), 3)] ++ [(5, IntKind.u16.wrap ((spOf c) - 2), IntKind.u8.wrap (pcOf c), 3)]
  let x15 : List TY := [] ++ [(bif s == 5 then 8 else 1, x8)]
  let x17 : List TY := bif x6 then x11 ++ [(3, x10, qCounted x12, 3)] else x9
  .br (!x4 || x2)
  (.br (x4)
   (.br (pInternal s || (iN (List.length g) == 0 || (!x6 || qCountedC x12)))
    (.br (pInternal s)
     (fin3 g x13)
     (.br (iN (List.length g) == 0)
      (fin3 g x15)
      (fin3 g x17)))
    (.leaf none))
   (.leaf none))
  (.leaf none)
theorem pNext_15_ev (a : HL pNextTs) : evVal (envX Tryz.prog (pNextL 15) [] 1125900980585471 8) Tryz.f93 pNextTs pNextRs a = pNext_15T a.1 a.2.1 a.2.2 := by kernel_rfl
def pNext_19T (c : TC) (s : Int) (g : List Int) : RT (Option (TY × Bool)) :=
  let x1 : TC × Bool × List Int × TI × List TY := (c, s == 5, g, (0, 0, 0, 0, 0, 0, 0, 0), [])
  let x2 : Bool := qAtC x1 0
  let x3 : Bool := !x2 || (rDecode c.1 (qAt x1 0)).1 == 19
  let x4 : List TY := [] ++ [(12, pcOf c, 0, 6)] ++ [(5, IntKind.u16.wrap ((spOf c) - 1), IntKind.u8.wrap (shrI IntKind.u16 (pcOf c) 8), 3)] ++ [(5, IntKind.u16.wrap ((spOf c) - 2), IntKind.u8.wrap (pcOf c), 3)]
  let x6 : Int × Int × Int := ((pcOf c), 0, 4)
  let x7 : List TY := [] ++ [(bif s == 5 then 8 else 1, x6)]
  let x9 : List TY := [] ++ [(1, x6)]
  .br (!x3 || x2)
  (.br (x3)
   (.br (pInternal s)
    (fin3 g x4)
    (.br (iN (List.length g) == 0)
     (fin3 g x7)
     (fin3 g x9)))
   (.leaf none))
  (.leaf none)
theorem pNext_19_ev (a : HL pNextTs) : evVal (envX Tryz.prog (pNextL 19) [] 1125900980585471 8) Tryz.f93 pNextTs pNextRs a = pNext_19T a.1 a.2.1 a.2.2 := by kernel_rfl
def pNext_23T (c : TC) (s : Int) (g : List Int) : RT (Option (TY × Bool)) :=
  let x1 : TC × Bool × List Int × TI × List TY := (c, s == 5, g, (0, 0, 0, 0, 0, 0, 0, 0), [])
  let x2 : Bool := qAtC x1 0
  let x3 : Bool := !x2 || (rDecode c.1 (qAt x1 0)).1 == 23
  let x4 : List TY := [] ++ [(12, pcOf c, 0, 6)] ++ [(5, IntKind.u16.wrap ((spOf c) - 1), IntKind.u8.wrap (shrI IntKind.u16 (pcOf c) 8), 3)] ++ [(5, IntKind.u16.wrap ((spOf c) - 2), IntKind.u8.wrap (pcOf c), 3)]
  let x6 : Int × Int × Int := ((pcOf c), 0, 4)
  let x7 : List TY := [] ++ [(bif s == 5 then 8 else 1, x6)]
  let x9 : List TY := [] ++ [(1, x6)]
  .br (!x3 || x2)
  (.br (x3)
   (.br (pInternal s)
    (fin3 g x4)
    (.br (iN (List.length g) == 0)
     (fin3 g x7)
     (fin3 g x9)))
   (.leaf none))
  (.leaf none)
theorem pNext_23_ev (a : HL pNextTs) : evVal (envX Tryz.prog (pNextL 23) [] 1125900980585471 8) Tryz.f93 pNextTs pNextRs a = pNext_23T a.1 a.2.1 a.2.2 := by kernel_rfl
def pNext_27T (c : TC) (s : Int) (g : List Int) : RT (Option (TY × Bool)) :=
  let x1 : TC × Bool × List Int × TI × List TY := (c, s == 5, g, (0, 0, 0, 0, 0, 0, 0, 0), [])
  let x2 : Bool := qAtC x1 0
  let x3 : Int × Int × Int × Int × Int × Int × Int × Int := rDecode c.1 (qAt x1 0)
  let x4 : Bool := !x2 || x3.1 == 27
  let x5 : Int := IntKind.u16.wrap ((spOf c) - 1)
  let x6 : Int := IntKind.u16.wrap ((spOf c) - 2)
  let x7 : List TY := [] ++ [(12, pcOf c, 0, 6)] ++ [(5, x5, IntKind.u8.wrap (shrI IntKind.u16 (pcOf c) 8), 3)] ++ [(5, x6, IntKind.u8.wrap (pcOf c), 3)]
  let x9 : Int × Int × Int := ((pcOf c), 0, 4)
  let x10 : List TY := [] ++ [(bif s == 5 then 8 else 1, x9)]
  let x12 : List TY := [] ++ [(1, x9)]
  let x13 : Int := qBehind (c, s == 5, g, (27, x3.2), x12)
  let x14 : List TY := x12 ++ [(5, x5, IntKind.u8.wrap (shrI IntKind.u16 x13 8), 3)] ++ [(5, x6, IntKind.u8.wrap x13, 3)]
  .br (!x4 || x2)
  (.br (x4)
   (.br (pInternal s)
    (fin3 g x7)
    (.br (iN (List.length g) == 0)
     (fin3 g x10)
     (fin3 g x14)))
   (.leaf none))
  (.leaf none)
theorem pNext_27_ev (a : HL pNextTs) : evVal (envX Tryz.prog (pNextL 27) [] 1125900980585471 8) Tryz.f93 pNextTs pNextRs a = pNext_27T a.1 a.2.1 a.2.2 := by kernel_rfl
def pNext_31T (c : TC) (s : Int) (g : List Int) : RT (Option (TY × Bool)) :=
  let x1 : TC × Bool × List Int × TI × List TY := (c, s == 5, g, (0, 0, 0, 0, 0, 0, 0, 0), [])
  let x2 : Bool := qAtC x1 0
  let x3 : Bool := !x2 || (rDecode c.1 (qAt x1 0)).1 == 31
  let x4 : List TY := [] ++ [(12, pcOf c, 0, 6)] ++ [(5, IntKind.u16.wrap ((spOf c) - 1), IntKind.u8.wrap (shrI IntKind.u16 (pcOf c) 8), 3)] ++ [(5, IntKind.u16.wrap ((spOf c) - 2), IntKind.u8.wrap (pcOf c), 3)]
  let x6 : Int × Int × Int := ((pcOf c), 0, 4)
  let x7 : List TY := [] ++ [(bif s == 5 then 8 else 1, x6)]
  let x9 : List TY := [] ++ [(1, x6)] ++ [(4, spOf c, 0, 3)] ++ [(4, IntKind.u16.wrap ((spOf c) + 1), 0, 3)]
  .br (!x3 || x2)
  (.br (x3)
   (.br (pInternal s)
    (fin3 g x4)
    (.br (iN (List.length g) == 0)
     (fin3 g x7)
     (fin3 g x9)))
   (.leaf none))
  (.leaf none)
theorem pNext_31_ev (a : HL pNextTs) : evVal (envX Tryz.prog (pNextL 31) [] 1125900980585471 8) Tryz.f93 pNextTs pNextRs a = pNext_31T a.1 a.2.1 a.2.2 := by kernel_rfl
def pNext_35T (c : TC) (s : Int) (g : List Int) : RT (Option (TY × Bool)) :=
  let x1 : TC × Bool × List Int × TI × List TY := (c, s == 5, g, (0, 0, 0, 0, 0, 0, 0, 0), [])
  let x2 : Bool := qAtC x1 0
  let x3 : Bool := !x2 || (rDecode c.1 (qAt x1 0)).1 == 35
  let x4 : List TY := [] ++ [(12, pcOf c, 0, 6)] ++ [(5, IntKind.u16.wrap ((spOf c) - 1), IntKind.u8.wrap (shrI IntKind.u16 (pcOf c) 8), 3)] ++ [(5, IntKind.u16.wrap ((spOf c) - 2), IntKind.u8.wrap (pcOf c), 3)]
  let x6 : Int × Int × Int := ((pcOf c), 0, 4)
  let x7 : List TY := [] ++ [(bif s == 5 then 8 else 1, x6)]
  let x9 : List TY := [] ++ [(1, x6)]
  .br (!x3 || x2)
  (.br (x3)
   (.br (pInternal s)
    (fin3 g x4)
    (.br (iN (List.length g) == 0)
     (fin3 g x7)
     (fin3 g x9)))
   (.leaf none))
  (.leaf none)
theorem pNext_35_ev (a : HL pNextTs) : evVal (envX Tryz.prog (pNextL 35) [] 1125900980585471 8) Tryz.f93 pNextTs pNextRs a = pNext_35T a.1 a.2.1 a.2.2 := by kernel_rfl
def pNext_39T (c : TC) (s : Int) (g : List Int) : RT (Option (TY × Bool)) :=
  let x1 : TC × Bool × List Int × TI × List TY := (c, s == 5, g, (0, 0, 0, 0, 0, 0, 0, 0), [])
  let x2 : Bool := qAtC x1 0
  let x3 : Bool := !x2 || (rDecode c.1 (qAt x1 0)).1 == 39
  let x4 : List TY := [] ++ [(12, pcOf c, 0, 6)] ++ [(5, IntKind.u16.wrap ((spOf c) - 1), IntKind.u8.wrap (shrI IntKind.u16 (pcOf c) 8), 3)] ++ [(5, IntKind.u16.wrap ((spOf c) - 2), IntKind.u8.wrap (pcOf c), 3)]
  let x6 : Int × Int × Int := ((pcOf c), 0, 4)
  let x7 : List TY := [] ++ [(bif s == 5 then 8 else 1, x6)]
  let x9 : List TY := [] ++ [(1, x6)]
  .br (!x3 || x2)
  (.br (x3)
   (.br (pInternal s)
    (fin3 g x4)
    (.br (iN (List.length g) == 0)
     (fin3 g x7)
     (fin3 g x9)))
   (.leaf none))
  (.leaf none)
theorem pNext_39_ev (a : HL pNextTs) : evVal (envX Tryz.prog (pNextL 39) [] 1125900980585471 8) Tryz.f93 pNextTs pNextRs a = pNext_39T a.1 a.2.1 a.2.2 := by kernel_rfl
def pNext_43T (c : TC) (s : Int) (g : List Int) : RT (Option (TY × Bool)) :=
  let x1 : TC × Bool × List Int × TI × List TY := (c, s == 5, g, (0, 0, 0, 0, 0, 0, 0, 0), [])
  let x2 : Bool := qAtC x1 0
  let x3 : Bool := !x2 || (rDecode c.1 (qAt x1 0)).1 == 43
  let x4 : List TY := [] ++ [(12, pcOf c, 0, 6)] ++ [(5, IntKind.u16.wrap ((spOf c) - 1), IntKind.u8.wrap (shrI IntKind.u16 (pcOf c) 8), 3)] ++ [(5, IntKind.u16.wrap ((spOf c) - 2), IntKind.u8.wrap (pcOf c), 3)]
  let x6 : Int × Int × Int := ((pcOf c), 0, 4)
  let x7 : List TY := [] ++ [(bif s == 5 then 8 else 1, x6)]
  let x9 : List TY := [] ++ [(1, x6)]
  let x10 : Int × Int × Int := ((pcOf c), 0, 3)
  let x11 : List TY := (bif s == 5 then x9 ++ [(9, x10)] else x9 ++ [(2, IntKind.u16.wrap ((pcOf c) + IntKind.u16.wrap 1), 0, 3)]) ++ [(11, x10)]
  .br (!x3 || x2)
  (.br (x3)
   (.br (pInternal s)
    (fin3 g x4)
    (.br (iN (List.length g) == 0)
     (fin3 g x7)
     (fin3 g x11)))
   (.leaf none))
  (.leaf none)
theorem pNext_43_ev (a : HL pNextTs) : evVal (envX Tryz.prog (pNextL 43) [] 1125900980585471 8) Tryz.f93 pNextTs pNextRs a = pNext_43T a.1 a.2.1 a.2.2 := by kernel_rfl
def pNext_47T (c : TC) (s : Int) (g : List Int) : RT (Option (TY × Bool)) :=
  let x1 : TC × Bool × List Int × TI × List TY := (c, s == 5, g, (0, 0, 0, 0, 0, 0, 0, 0), [])
  let x2 : Bool := qAtC x1 0
  let x3 : Int × Int × Int × Int × Int × Int × Int × Int := rDecode c.1 (qAt x1 0)
  let x4 : Bool := !x2 || x3.1 == 47
  let x5 : List TY := [] ++ [(12, pcOf c, 0, 6)] ++ [(5, IntKind.u16.wrap ((spOf c) - 1), IntKind.u8.wrap (shrI IntKind.u16 (pcOf c) 8), 3)] ++ [(5, IntKind.u16.wrap ((spOf c) - 2), IntKind.u8.wrap (pcOf c), 3)]
  let x7 : Int × Int × Int := ((pcOf c), 0, 4)
  let x8 : List TY := [] ++ [(bif s == 5 then 8 else 1, x7)]
  let x10 : List TY := [] ++ [(1, x7)]
  let x11 : Int := qPair (c, s == 5, g, (47, x3.2), x10) 1
  let x12 : List TY := x10 ++ [(2, x11, 0, 3)] ++ [(2, IntKind.u16.wrap (x11 + 1), 0, 3)]
  .br (!x4 || x2)
  (.br (x4)
   (.br (pInternal s)
    (fin3 g x5)
    (.br (iN (List.length g) == 0)
     (fin3 g x8)
     (fin3 g x12)))
   (.leaf none))
  (.leaf none)
theorem pNext_47_ev (a : HL pNextTs) : evVal (envX Tryz.prog (pNextL 47) [] 1125900980585471 8) Tryz.f93 pNextTs pNextRs a = pNext_47T a.1 a.2.1 a.2.2 := by kernel_rfl
end
end Go.Proofs.YtpkijkmagnhciaaGreat
set_option linter.unusedSimpArgs false
open Go Go.S3 Go.Proofs
set_option linter.unusedVariables false
set_option maxRecDepth 100000
namespace Go.Proofs.YtpkijkmagnhciaaGreat
noncomputable section
def pNext_4T (c : TC) (s : Int) (g : List Int) : RT (Option (TY × Bool)) :=
  let x1 : TC × Bool × List Int × TI × List TY := (c, s == 5, g, (0, 0, 0, 0, 0, 0, 0, 0), [])
  let x2 : Bool := qAtC x1 0
  let x3 : Int × Int × Int × Int × Int × Int × Int × Int := rDecode c.1 (qAt x1 0)
  let x4 : Bool := !x2 || x3.1 == 4
  let x5 : Int × Int × Int := ((pcOf c), 0, 4)
  let x6 : List TY := [] ++ [(1, x5)]
  let x7 : List TY := [(9, pcOf c, 0, 3)]
  let x8 : List TY := bif s == 5 then x6 ++ x7 else x6 ++ [(2, IntKind.u16.wrap ((pcOf c) + IntKind.u16.wrap 1), 0, 3)]
  let x9 : List TY := bif s == 5 then x8 ++ x7 else x8 ++ [(2, IntKind.u16.wrap ((pcOf c) + IntKind.u16.wrap (IntKind.i64.wrap (1 + 1))), 0, 3)]
  let x10 : List TY := [] ++ [(12, pcOf c, 0, 6)] ++ [(5, IntKind.u16.wrap ((spOf c) - 1), IntKind.u8.wrap (shrI IntKind.u16 (pcOf c) 8), 3)] ++ [(5, IntKind.u16.wrap ((spOf c) - 2), IntKind.u8.wrap (pcOf c), 3)]
  let x12 : List TY := [] ++ [(bif s == 5 then 8 else 1, x5)]
  .br (!x4 || x2)
  (.br (x4)
   (.br (pInternal s || (iN (List.length g) == 0 || qJoinC (c, s == 5, g, (4, x3.2), x9) 1))
    (.br (pInternal s)
     (fin3 g x10)
     (.br (iN (List.length g) == 0)
      (fin3 g x12)
      (fin3 g x9)))
    (.leaf none))
   (.leaf none))
  (.leaf none)
theorem pNext_4_ev (a : HL pNextTs) : evVal (envX Tryz.prog (pNextL 4) [] 1125900980585471 8) Tryz.f93 pNextTs pNextRs a = pNext_4T a.1 a.2.1 a.2.2 := by kernel_rfl
def pNext_8T (c : TC) (s : Int) (g : List Int) : RT (Option (TY × Bool)) :=
  let x1 : TC × Bool × List Int × TI × List TY := (c, s == 5, g, (0, 0, 0, 0, 0, 0, 0, 0), [])
  let x2 : Bool := qAtC x1 0
  let x3 : Int × Int × Int × Int × Int × Int × Int × Int := rDecode c.1 (qAt x1 0)
  let x4 : Bool := !x2 || x3.1 == 8
  let x5 : Int × Int × Int := ((pcOf c), 0, 4)
  let x6 : List TY := [] ++ [(1, x5)]
  let x7 : List TY := [(9, pcOf c, 0, 3)]
  let x8 : List TY := bif s == 5 then x6 ++ x7 else x6 ++ [(2, IntKind.u16.wrap ((pcOf c) + IntKind.u16.wrap 1), 0, 3)]
  let x9 : List TY := bif s == 5 then x8 ++ x7 else x8 ++ [(2, IntKind.u16.wrap ((pcOf c) + IntKind.u16.wrap (IntKind.i64.wrap (1 + 1))), 0, 3)]
  let x10 : TC × Bool × List Int × TI × List TY := (c, s == 5, g, (8, x3.2), x9)
  let x11 : List TY := [] ++ [(12, pcOf c, 0, 6)] ++ [(5, IntKind.u16.wrap ((spOf c) - 1), IntKind.u8.wrap (shrI IntKind.u16 (pcOf c) 8), 3)] ++ [(5, IntKind.u16.wrap ((spOf c) - 2), IntKind.u8.wrap (pcOf c), 3)]
  let x13 : List TY := [] ++ [(bif s == 5 then 8 else 1, x5)]
  let x15 : Int := qJoin x10 1
  let x16 : List TY := x9 ++ [(3, x15, c.2.1.2.2.2.2.2.2.1, 3)] ++ [(3, IntKind.u16.wrap (x15 + 1), c.2.1.2.2.2.2.2.1, 3)]
  .br (!x4 || x2)
  (.br (x4)
   (.br (pInternal s || (iN (List.length g) == 0 || qJoinC x10 1))
    (.br (pInternal s)
     (fin3 g x11)
     (.br (iN (List.length g) == 0)
      (fin3 g x13)
      (fin3 g x16)))
    (.leaf none))
   (.leaf none))
  (.leaf none)
theorem pNext_8_ev (a : HL pNextTs) : evVal (envX Tryz.prog (pNextL 8) [] 1125900980585471 8) Tryz.f93 pNextTs pNextRs a = pNext_8T a.1 a.2.1 a.2.2 := by kernel_rfl
def pNext_12T (c : TC) (s : Int) (g : List Int) : RT (Option (TY × Bool)) :=
  let x1 : TC × Bool × List Int × TI × List TY := (c, s == 5, g, (0, 0, 0, 0, 0, 0, 0, 0), [])
  let x2 : Bool := qAtC x1 0
  let x3 : Int × Int × Int × Int × Int × Int × Int × Int := rDecode c.1 (qAt x1 0)
  let x4 : Bool := !x2 || x3.1 == 12
  let x5 : List TY := [] ++ [(12, pcOf c, 0, 6)] ++ [(5, IntKind.u16.wrap ((spOf c) - 1), IntKind.u8.wrap (shrI IntKind.u16 (pcOf c) 8), 3)] ++ [(5, IntKind.u16.wrap ((spOf c) - 2), IntKind.u8.wrap (pcOf c), 3)]
  let x7 : Int × Int × Int := ((pcOf c), 0, 4)
  let x8 : List TY := [] ++ [(bif s == 5 then 8 else 1, x7)]
  let x10 : Int × Int × Int × Int × Int × Int × Int := x3.2
  let x11 : List TY := [] ++ [(1, x7)]
  let x12 : List TY := bif x10.2.2.1 == 6 then x11 ++ [(2, qPair (c, s == 5, g, (12, x10), x11) 2, 0, 3)] else x11
  .br (!x4 || x2)
  (.br (x4)
   (.br (pInternal s)
    (fin3 g x5)
    (.br (iN (List.length g) == 0)
     (fin3 g x8)
     (fin3 g x12)))
   (.leaf none))
  (.leaf none)
theorem pNext_12_ev (a : HL pNextTs) : evVal (envX Tryz.prog (pNextL 12) [] 1125900980585471 8) Tryz.f93 pNextTs pNextRs a = pNext_12T a.1 a.2.1 a.2.2 := by kernel_rfl
def pNext_16T (c : TC) (s : Int) (g : List Int) : RT (Option (TY × Bool)) :=
  let x1 : TC × Bool × List Int × TI × List TY := (c, s == 5, g, (0, 0, 0, 0, 0, 0, 0, 0), [])
  let x2 : Bool := qAtC x1 0
  let x3 : Bool := !x2 || (rDecode c.1 (qAt x1 0)).1 == 16
  let x4 : List TY := [] ++ [(12, pcOf c, 0, 6)] ++ [(5, IntKind.u16.wrap ((spOf c) - 1), IntKind.u8.wrap (shrI IntKind.u16 (pcOf c) 8), 3)] ++ [(5, IntKind.u16.wrap ((spOf c) - 2), IntKind.u8.wrap (pcOf c), 3)]
  let x6 : Int × Int × Int := ((pcOf c), 0, 4)
  let x7 : List TY := [] ++ [(bif s == 5 then 8 else 1, x6)]
  let x9 : List TY := [] ++ [(1, x6)]
  .br (!x3 || x2)
  (.br (x3)
   (.br (pInternal s)
    (fin3 g x4)
    (.br (iN (List.length g) == 0)
     (fin3 g x7)
     (fin3 g x9)))
   (.leaf none))
  (.leaf none)
theorem pNext_16_ev (a : HL pNextTs) : evVal (envX Tryz.prog (pNextL 16) [] 1125900980585471 8) Tryz.f93 pNextTs pNextRs a = pNext_16T a.1 a.2.1 a.2.2 := by kernel_rfl
def pNext_20T (c : TC) (s : Int) (g : List Int) : RT (Option (TY × Bool)) :=
  let x1 : TC × Bool × List Int × TI × List TY := (c, s == 5, g, (0, 0, 0, 0, 0, 0, 0, 0), [])
  let x2 : Bool := qAtC x1 0
  let x3 : Bool := !x2 || (rDecode c.1 (qAt x1 0)).1 == 20
  let x4 : List TY := [] ++ [(12, pcOf c, 0, 6)] ++ [(5, IntKind.u16.wrap ((spOf c) - 1), IntKind.u8.wrap (shrI IntKind.u16 (pcOf c) 8), 3)] ++ [(5, IntKind.u16.wrap ((spOf c) - 2), IntKind.u8.wrap (pcOf c), 3)]
  let x6 : Int × Int × Int := ((pcOf c), 0, 4)
  let x7 : List TY := [] ++ [(bif s == 5 then 8 else 1, x6)]
  let x9 : List TY := [] ++ [(1, x6)]
  .br (!x3 || x2)
  (.br (x3)
   (.br (pInternal s)
    (fin3 g x4)
    (.br (iN (List.length g) == 0)
     (fin3 g x7)
     (fin3 g x9)))
   (.leaf none))
  (.leaf none)
theorem pNext_20_ev (a : HL pNextTs) : evVal (envX Tryz.prog (pNextL 20) [] 1125900980585471 8) Tryz.f93 pNextTs pNextRs a = pNext_20T a.1 a.2.1 a.2.2 := by kernel_rfl
def pNext_24T (c : TC) (s : Int) (g : List Int) : RT (Option (TY × Bool)) :=
  let x1 : TC × Bool × List Int × TI × List TY := (c, s == 5, g, (0, 0, 0, 0, 0, 0, 0, 0), [])
  let x2 : Bool := qAtC x1 0
  let x3 : Int × Int × Int × Int × Int × Int × Int × Int := rDecode c.1 (qAt x1 0)
  let x4 : Bool := !x2 || x3.1 == 24
  let x5 : List TY := [] ++ [(12, pcOf c, 0, 6)] ++ [(5, IntKind.u16.wrap ((spOf c) - 1), IntKind.u8.wrap (shrI IntKind.u16 (pcOf c) 8), 3)] ++ [(5, IntKind.u16.wrap ((spOf c) - 2), IntKind.u8.wrap (pcOf c), 3)]
  let x7 : Int × Int × Int := ((pcOf c), 0, 4)
  let x8 : List TY := [] ++ [(bif s == 5 then 8 else 1, x7)]
  let x10 : List TY := [] ++ [(1, x7)]
  let x11 : List TY := [(9, pcOf c, 0, 3)]
  let x12 : List TY := bif s == 5 then x10 ++ x11 else x10 ++ [(2, IntKind.u16.wrap ((pcOf c) + IntKind.u16.wrap 1), 0, 3)]
  let x13 : List TY := bif !qTaken (c, s == 5, g, (24, x3.2), x10) && c.1 == 2 then x12 else bif s == 5 then x12 ++ x11 else x12 ++ [(2, IntKind.u16.wrap ((pcOf c) + IntKind.u16.wrap (IntKind.i64.wrap (1 + 1))), 0, 3)]
  .br (!x4 || x2)
  (.br (x4)
   (.br (pInternal s)
    (fin3 g x5)
    (.br (iN (List.length g) == 0)
     (fin3 g x8)
     (fin3 g x13)))
   (.leaf none))
  (.leaf none)
theorem pNext_24_ev (a : HL pNextTs) : evVal (envX Tryz.prog (pNextL 24) [] 1125900980585471 8) Tryz.f93 pNextTs pNextRs a = pNext_24T a.1 a.2.1 a.2.2 := by kernel_rfl
def pNext_28T (c : TC) (s : Int) (g : List Int) : RT (Option (TY × Bool)) :=
  let x1 : TC × Bool × List Int × TI × List TY := (c, s == 5, g, (0, 0, 0, 0, 0, 0, 0, 0), [])
  let x2 : Bool := qAtC x1 0
  let x3 : Bool := !x2 || (rDecode c.1 (qAt x1 0)).1 == 28
  let x4 : List TY := [] ++ [(12, pcOf c, 0, 6)] ++ [(5, IntKind.u16.wrap ((spOf c) - 1), IntKind.u8.wrap (shrI IntKind.u16 (pcOf c) 8), 3)] ++ [(5, IntKind.u16.wrap ((spOf c) - 2), IntKind.u8.wrap (pcOf c), 3)]
  let x6 : Int × Int × Int := ((pcOf c), 0, 4)
  let x7 : List TY := [] ++ [(bif s == 5 then 8 else 1, x6)]
  let x9 : List TY := [] ++ [(1, x6)]
  .br (!x3 || x2)
  (.br (x3)
   (.br (pInternal s)
    (fin3 g x4)
    (.br (iN (List.length g) == 0)
     (fin3 g x7)
     (fin3 g x9)))
   (.leaf none))
  (.leaf none)
theorem pNext_28_ev (a : HL pNextTs) : evVal (envX Tryz.prog (pNextL 28) [] 1125900980585471 8) Tryz.f93 pNextTs pNextRs a = pNext_28T a.1 a.2.1 a.2.2 := by kernel_rfl
def pNext_32T (c : TC) (s : Int) (g : List Int) : RT (Option (TY × Bool)) :=
  let x1 : TC × Bool × List Int × TI × List TY := (c, s == 5, g, (0, 0, 0, 0, 0, 0, 0, 0), [])
  let x2 : Bool := qAtC x1 0
  let x3 : Bool := !x2 || (rDecode c.1 (qAt x1 0)).1 == 32
  let x4 : List TY := [] ++ [(12, pcOf c, 0, 6)] ++ [(5, IntKind.u16.wrap ((spOf c) - 1), IntKind.u8.wrap (shrI IntKind.u16 (pcOf c) 8), 3)] ++ [(5, IntKind.u16.wrap ((spOf c) - 2), IntKind.u8.wrap (pcOf c), 3)]
  let x6 : Int × Int × Int := ((pcOf c), 0, 4)
  let x7 : List TY := [] ++ [(bif s == 5 then 8 else 1, x6)]
  let x9 : Int := IntKind.u16.wrap ((spOf c) + 1)
  let x10 : List TY := [] ++ [(1, x6)] ++ [(4, spOf c, 0, 3)] ++ [(4, x9, 0, 3)] ++ [(5, x9, c.2.1.2.2.2.2.2.1, 3)] ++ [(5, spOf c, c.2.1.2.2.2.2.2.2.1, 3)]
  let x11 : Int := IntKind.i64.wrap (iN (List.length x10) - 1)
  let x12 : Int × Int × Int × Int := R.get (RY) x10 x11
  let x13 : Int × Int × Int := x12.2
  let x14 : List TY := bif c.1 != 2 then setI x10 x11 (x12.1, x13.1, x13.2.1, 5) else x10
  .br (!x3 || x2)
  (.br (x3)
   (.br (pInternal s)
    (fin3 g x4)
    (.br (iN (List.length g) == 0)
     (fin3 g x7)
     (fin3 g x14)))
   (.leaf none))
  (.leaf none)
theorem pNext_32_ev (a : HL pNextTs) : evVal (envX Tryz.prog (pNextL 32) [] 1125900980585471 8) Tryz.f93 pNextTs pNextRs a = pNext_32T a.1 a.2.1 a.2.2 := by kernel_rfl
def pNext_36T (c : TC) (s : Int) (g : List Int) : RT (Option (TY × Bool)) :=
  let x1 : TC × Bool × List Int × TI × List TY := (c, s == 5, g, (0, 0, 0, 0, 0, 0, 0, 0), [])
  let x2 : Bool := qAtC x1 0
  let x3 : Bool := !x2 || (rDecode c.1 (qAt x1 0)).1 == 36
  let x4 : List TY := [] ++ [(12, pcOf c, 0, 6)] ++ [(5, IntKind.u16.wrap ((spOf c) - 1), IntKind.u8.wrap (shrI IntKind.u16 (pcOf c) 8), 3)] ++ [(5, IntKind.u16.wrap ((spOf c) - 2), IntKind.u8.wrap (pcOf c), 3)]
  let x6 : Int × Int × Int := ((pcOf c), 0, 4)
  let x7 : List TY := [] ++ [(bif s == 5 then 8 else 1, x6)]
  let x9 : List TY := [] ++ [(1, x6)]
  .br (!x3 || x2)
  (.br (x3)
   (.br (pInternal s)
    (fin3 g x4)
    (.br (iN (List.length g) == 0)
     (fin3 g x7)
     (fin3 g x9)))
   (.leaf none))
  (.leaf none)
theorem pNext_36_ev (a : HL pNextTs) : evVal (envX Tryz.prog (pNextL 36) [] 1125900980585471 8) Tryz.f93 pNextTs pNextRs a = pNext_36T a.1 a.2.1 a.2.2 := by kernel_rfl
def pNext_40T (c : TC) (s : Int) (g : List Int) : RT (Option (TY × Bool)) :=
  let x1 : TC × Bool × List Int × TI × List TY := (c, s == 5, g, (0, 0, 0, 0, 0, 0, 0, 0), [])
  let x2 : Bool := qAtC x1 0
  let x3 : Bool := !x2 || (rDecode c.1 (qAt x1 0)).1 == 40
  let x4 : List TY := [] ++ [(12, pcOf c, 0, 6)] ++ [(5, IntKind.u16.wrap ((spOf c) - 1), IntKind.u8.wrap (shrI IntKind.u16 (pcOf c) 8), 3)] ++ [(5, IntKind.u16.wrap ((spOf c) - 2), IntKind.u8.wrap (pcOf c), 3)]
  let x6 : Int × Int × Int := ((pcOf c), 0, 4)
  let x7 : List TY := [] ++ [(bif s == 5 then 8 else 1, x6)]
  let x9 : List TY := [(11, pcOf c, 0, 3)]
  let x10 : List TY := [] ++ [(1, x6)] ++ x9 ++ x9
  .br (!x3 || x2)
  (.br (x3)
   (.br (pInternal s)
    (fin3 g x4)
    (.br (iN (List.length g) == 0)
     (fin3 g x7)
     (fin3 g x10)))
   (.leaf none))
  (.leaf none)
theorem pNext_40_ev (a : HL pNextTs) : evVal (envX Tryz.prog (pNextL 40) [] 1125900980585471 8) Tryz.f93 pNextTs pNextRs a = pNext_40T a.1 a.2.1 a.2.2 := by kernel_rfl
def pNext_44T (c : TC) (s : Int) (g : List Int) : RT (Option (TY × Bool)) :=
  let x1 : TC × Bool × List Int × TI × List TY := (c, s == 5, g, (0, 0, 0, 0, 0, 0, 0, 0), [])
  let x2 : Bool := qAtC x1 0
  let x3 : Bool := !x2 || (rDecode c.1 (qAt x1 0)).1 == 44
  let x4 : List TY := [] ++ [(12, pcOf c, 0, 6)] ++ [(5, IntKind.u16.wrap ((spOf c) - 1), IntKind.u8.wrap (shrI IntKind.u16 (pcOf c) 8), 3)] ++ [(5, IntKind.u16.wrap ((spOf c) - 2), IntKind.u8.wrap (pcOf c), 3)]
  let x6 : Int × Int × Int := ((pcOf c), 0, 4)
  let x7 : List TY := [] ++ [(bif s == 5 then 8 else 1, x6)]
  let x9 : List TY := [] ++ [(1, x6)]
  let x10 : Int × Int × Int := ((pcOf c), 0, 3)
  let x11 : List TY := (bif s == 5 then x9 ++ [(9, x10)] else x9 ++ [(2, IntKind.u16.wrap ((pcOf c) + IntKind.u16.wrap 1), 0, 3)]) ++ [(11, x10)]
  .br (!x3 || x2)
  (.br (x3)
   (.br (pInternal s)
    (fin3 g x4)
    (.br (iN (List.length g) == 0)
     (fin3 g x7)
     (fin3 g x11)))
   (.leaf none))
  (.leaf none)
theorem pNext_44_ev (a : HL pNextTs) : evVal (envX Tryz.prog (pNextL 44) [] 1125900980585471 8) Tryz.f93 pNextTs pNextRs a = pNext_44T a.1 a.2.1 a.2.2 := by kernel_rfl
end
end Go.Proofs.YtpkijkmagnhciaaGreat
open Go Go.S3 Go.Proofs
set_option linter.unusedVariables false
set_option linter.unusedSimpArgs false
set_option maxRecDepth 100000
namespace Go.Proofs.YtpkijkmagnhciaaGreat
noncomputable section
theorem nx_2 (c) (s : Int) (g : List Int) (n : Int) (hk : (rDecode c.1 (g.getD 0 0)).1 = n) : (n = 4 → (pNext_4T c s g).val = some (nextX c s g)) ∧ (n = 8 → (pNext_8T c s g).val = some (nextX c s g)) ∧ (n = 13 → (pNext_13T c s g).val = some (nextX c s g)) ∧ (n = 19 → (pNext_19T c s g).val = some (nextX c s g)) ∧ (n = 23 → (pNext_23T c s g).val = some (nextX c s g)) ∧ (n = 31 → (pNext_31T c s g).val = some (nextX c s g)) ∧ (n = 36 → (pNext_36T c s g).val = some (nextX c s g)) ∧ (n = 41 → (pNext_41T c s g).val = some (nextX c s g)) ∧ (n = 46 → (pNext_46T c s g).val = some (nextX c s g)) ∧ True ∧ True ∧ True ∧ True ∧ True ∧ True ∧ True ∧ True ∧ True := by
  refine ⟨?_, ?_, ?_, ?_, ?_, ?_, ?_, ?_, ?_, ?_, ?_, ?_, ?_, ?_, ?_, ?_, ?_, ?_⟩
  any_goals trivial
  all_goals intro e; subst e
  all_goals simp only [pNext_4T, pNext_8T, pNext_13T, pNext_19T, pNext_23T, pNext_31T, pNext_36T, pNext_41T, pNext_46T, RT.val, fin3, pk]
  all_goals simp only [qat0, mat0, qat1, mat1, rg0, hk, internal_eq, qPair_eq, qReg_eq, qTaken_eq, mTaken_eq, qBehind_eq, mBehind_eq, qJoin1, mWord1, qCounted_eq, rStepped_eq, on_eq, nextX, planX, behindX, takenX]
  all_goals generalize rInternal s = bi
  all_goals generalize (s == 5) = bs
  all_goals cases g with
  | nil => cases bi <;> cases bs <;> simp [len00, pick_zero, pcOf, spOf, pushX]
  | cons o t =>
    simp only [List.getD_cons_zero] at hk
    simp only [len0, List.getD_cons_zero, bodyX, hk, targetX, takenX, behindX, countX, bne]
    generalize rDecode c.1 o = i at hk ⊢
    cases bi <;> cases bs <;> simp [pick_cons, pushX, popX, pcOf, spOf, opC, readW, writeW, joinX, idleX, w_i64, setI, R.get]
theorem nx_4 (c) (s : Int) (g : List Int) (n : Int) (hk : (rDecode c.1 (g.getD 0 0)).1 = n) : (n = 6 → (pNext_6T c s g).val = some (nextX c s g)) ∧ (n = 10 → (pNext_10T c s g).val = some (nextX c s g)) ∧ (n = 17 → (pNext_17T c s g).val = some (nextX c s g)) ∧ (n = 21 → (pNext_21T c s g).val = some (nextX c s g)) ∧ (n = 28 → (pNext_28T c s g).val = some (nextX c s g)) ∧ (n = 34 → (pNext_34T c s g).val = some (nextX c s g)) ∧ (n = 39 → (pNext_39T c s g).val = some (nextX c s g)) ∧ (n = 43 → (pNext_43T c s g).val = some (nextX c s g)) ∧ True ∧ True ∧ True ∧ True ∧ True ∧ True ∧ True ∧ True := by
  refine ⟨?_, ?_, ?_, ?_, ?_, ?_, ?_, ?_, ?_, ?_, ?_, ?_, ?_, ?_, ?_, ?_⟩
  any_goals trivial
  all_goals intro e; subst e
  all_goals simp only [pNext_6T, pNext_10T, pNext_17T, pNext_21T, pNext_28T, pNext_34T, pNext_39T, pNext_43T, RT.val, fin3, pk]
  all_goals simp only [qat0, mat0, qat1, mat1, rg0, hk, internal_eq, qPair_eq, qReg_eq, qTaken_eq, mTaken_eq, qBehind_eq, mBehind_eq, qJoin1, mWord1, qCounted_eq, rStepped_eq, on_eq, nextX, planX, behindX, takenX]
  all_goals generalize rInternal s = bi
  all_goals generalize (s == 5) = bs
  all_goals cases g with
  | nil => cases bi <;> cases bs <;> simp [len00, pick_zero, pcOf, spOf, pushX]
  | cons o t =>
    simp only [List.getD_cons_zero] at hk
    simp only [len0, List.getD_cons_zero, bodyX, hk, targetX, takenX, behindX, countX, bne]
    generalize rDecode c.1 o = i at hk ⊢
    cases bi <;> cases bs <;> simp [pick_cons, pushX, popX, pcOf, spOf, opC, readW, writeW, joinX, idleX, w_i64, setI, R.get]
theorem nx_6 (c) (s : Int) (g : List Int) (n : Int) (hk : (rDecode c.1 (g.getD 0 0)).1 = n) : (n = 3 → (pNext_3T c s g).val = some (nextX c s g)) ∧ (n = 14 → (pNext_14T c s g).val = some (nextX c s g)) ∧ (n = 15 → (pNext_15T c s g).val = some (nextX c s g)) ∧ True ∧ True ∧ True := by
  refine ⟨?_, ?_, ?_, ?_, ?_, ?_⟩
  any_goals trivial
  all_goals intro e; subst e
  all_goals simp only [pNext_3T, pNext_14T, pNext_15T, RT.val, fin3, pk]
  all_goals simp only [qat0, mat0, qat1, mat1, rg0, hk, internal_eq, qPair_eq, qReg_eq, qTaken_eq, mTaken_eq, qBehind_eq, mBehind_eq, qJoin1, mWord1, qCounted_eq, rStepped_eq, on_eq, nextX, planX, behindX, takenX]
  all_goals generalize rInternal s = bi
  all_goals generalize (s == 5) = bs
  all_goals cases g with
  | nil => cases bi <;> cases bs <;> simp [len00, pick_zero, pcOf, spOf, pushX]
  | cons o t =>
    simp only [List.getD_cons_zero] at hk
    simp only [len0, List.getD_cons_zero, bodyX, hk, targetX, takenX, behindX, countX, bne]
    generalize rDecode c.1 o = i at hk ⊢
    generalize (i.2.2.1 == 6) = b0
    cases b0 <;> cases bi <;> cases bs <;> simp [pick_cons, pushX, popX, pcOf, spOf, opC, readW, writeW, joinX, idleX, w_i64, setI, R.get]
theorem nx_8 (c) (s : Int) (g : List Int) (n : Int) (hk : (rDecode c.1 (g.getD 0 0)).1 = n) : (n = 24 → (pNext_24T c s g).val = some (nextX c s g)) ∧ (n = 25 → (pNext_25T c s g).val = some (nextX c s g)) ∧ True ∧ True := by
  refine ⟨?_, ?_, ?_, ?_⟩
  any_goals trivial
  all_goals intro e; subst e
  all_goals simp only [pNext_24T, pNext_25T, RT.val, fin3, pk]
  all_goals simp only [qat0, mat0, qat1, mat1, rg0, hk, internal_eq, qPair_eq, qReg_eq, qTaken_eq, mTaken_eq, qBehind_eq, mBehind_eq, qJoin1, mWord1, qCounted_eq, rStepped_eq, on_eq, nextX, planX, behindX, takenX]
  all_goals generalize rInternal s = bi
  all_goals generalize (s == 5) = bs
  all_goals cases g with
  | nil => cases bi <;> cases bs <;> simp [len00, pick_zero, pcOf, spOf, pushX]
  | cons o t =>
    simp only [List.getD_cons_zero] at hk
    simp only [len0, List.getD_cons_zero, bodyX, hk, targetX, takenX, behindX, countX, bne]
    generalize rDecode c.1 o = i at hk ⊢
    generalize rHolds _ _ = b0
    generalize (c.1 == 2) = b1
    cases b0 <;> cases b1 <;> cases bi <;> cases bs <;> simp [pick_cons, pushX, popX, pcOf, spOf, opC, readW, writeW, joinX, idleX, w_i64, setI, R.get]
theorem nx_10 (c) (s : Int) (g : List Int) (n : Int) (hk : (rDecode c.1 (g.getD 0 0)).1 = n) : (n = 30 → (pNext_30T c s g).val = some (nextX c s g)) ∧ True := by
  refine ⟨?_, ?_⟩
  any_goals trivial
  all_goals intro e; subst e
  all_goals simp only [pNext_30T, RT.val, fin3, pk]
  all_goals simp only [qat0, mat0, qat1, mat1, rg0, hk, internal_eq, qPair_eq, qReg_eq, qTaken_eq, mTaken_eq, qBehind_eq, mBehind_eq, qJoin1, mWord1, qCounted_eq, rStepped_eq, on_eq, nextX, planX, behindX, takenX]
  all_goals generalize rInternal s = bi
  all_goals generalize (s == 5) = bs
  all_goals cases g with
  | nil => cases bi <;> cases bs <;> simp [len00, pick_zero, pcOf, spOf, pushX]
  | cons o t =>
    simp only [List.getD_cons_zero] at hk
    simp only [len0, List.getD_cons_zero, bodyX, hk, targetX, takenX, behindX, countX, bne]
    generalize rDecode c.1 o = i at hk ⊢
    generalize (i.2.2.2.2.1 == 3) = b0
    cases b0 <;> cases bi <;> cases bs <;> simp [pick_cons, pushX, popX, pcOf, spOf, opC, readW, writeW, joinX, idleX, w_i64, setI, R.get]
end
end Go.Proofs.YtpkijkmagnhciaaGreat
open Go Go.S3 Go.Proofs
set_option linter.unusedVariables false
set_option linter.unusedSimpArgs false
set_option maxRecDepth 100000
namespace Go.Proofs.YtpkijkmagnhciaaGreat
noncomputable section
theorem nx_1 (c) (s : Int) (g : List Int) (n : Int) (hk : (rDecode c.1 (g.getD 0 0)).1 = n) : (n = 1 → (pNext_1T c s g).val = some (nextX c s g)) ∧ (n = 7 → (pNext_7T c s g).val = some (nextX c s g)) ∧ (n = 11 → (pNext_11T c s g).val = some (nextX c s g)) ∧ (n = 18 → (pNext_18T c s g).val = some (nextX c s g)) ∧ (n = 22 → (pNext_22T c s g).val = some (nextX c s g)) ∧ (n = 29 → (pNext_29T c s g).val = some (nextX c s g)) ∧ (n = 35 → (pNext_35T c s g).val = some (nextX c s g)) ∧ (n = 40 → (pNext_40T c s g).val = some (nextX c s g)) ∧ (n = 44 → (pNext_44T c s g).val = some (nextX c s g)) ∧ True ∧ True ∧ True ∧ True ∧ True ∧ True ∧ True ∧ True ∧ True := by
  refine ⟨?_, ?_, ?_, ?_, ?_, ?_, ?_, ?_, ?_, ?_, ?_, ?_, ?_, ?_, ?_, ?_, ?_, ?_⟩
  any_goals trivial
  all_goals intro e; subst e
  all_goals simp only [pNext_1T, pNext_7T, pNext_11T, pNext_18T, pNext_22T, pNext_29T, pNext_35T, pNext_40T, pNext_44T, RT.val, fin3, pk]
  all_goals simp only [qat0, mat0, qat1, mat1, rg0, hk, internal_eq, qPair_eq, qReg_eq, qTaken_eq, mTaken_eq, qBehind_eq, mBehind_eq, qJoin1, mWord1, qCounted_eq, rStepped_eq, on_eq, nextX, planX, behindX, takenX]
  all_goals generalize rInternal s = bi
  all_goals generalize (s == 5) = bs
  all_goals cases g with
  | nil => cases bi <;> cases bs <;> simp [len00, pick_zero, pcOf, spOf, pushX]
  | cons o t =>
    simp only [List.getD_cons_zero] at hk
    simp only [len0, List.getD_cons_zero, bodyX, hk, targetX, takenX, behindX, countX, bne]
    generalize rDecode c.1 o = i at hk ⊢
    cases bi <;> cases bs <;> simp [pick_cons, pushX, popX, pcOf, spOf, opC, readW, writeW, joinX, idleX, w_i64, setI, R.get]
theorem nx_3 (c) (s : Int) (g : List Int) (n : Int) (hk : (rDecode c.1 (g.getD 0 0)).1 = n) : (n = 5 → (pNext_5T c s g).val = some (nextX c s g)) ∧ (n = 9 → (pNext_9T c s g).val = some (nextX c s g)) ∧ (n = 16 → (pNext_16T c s g).val = some (nextX c s g)) ∧ (n = 20 → (pNext_20T c s g).val = some (nextX c s g)) ∧ (n = 27 → (pNext_27T c s g).val = some (nextX c s g)) ∧ (n = 33 → (pNext_33T c s g).val = some (nextX c s g)) ∧ (n = 38 → (pNext_38T c s g).val = some (nextX c s g)) ∧ (n = 42 → (pNext_42T c s g).val = some (nextX c s g)) ∧ (n = 47 → (pNext_47T c s g).val = some (nextX c s g)) ∧ True ∧ True ∧ True ∧ True ∧ True ∧ True ∧ True ∧ True ∧ True := by
  refine ⟨?_, ?_, ?_, ?_, ?_, ?_, ?_, ?_, ?_, ?_, ?_, ?_, ?_, ?_, ?_, ?_, ?_, ?_⟩
  any_goals trivial
  all_goals intro e; subst e
  all_goals simp only [pNext_5T, pNext_9T, pNext_16T, pNext_20T, pNext_27T, pNext_33T, pNext_38T, pNext_42T, pNext_47T, RT.val, fin3, pk]
  all_goals simp only [qat0, mat0, qat1, mat1, rg0, hk, internal_eq, qPair_eq, qReg_eq, qTaken_eq, mTaken_eq, qBehind_eq, mBehind_eq, qJoin1, mWord1, qCounted_eq, rStepped_eq, on_eq, nextX, planX, behindX, takenX]
  all_goals generalize rInternal s = bi
  all_goals generalize (s == 5) = bs
  all_goals cases g with
  | nil => cases bi <;> cases bs <;> simp [len00, pick_zero, pcOf, spOf, pushX]
  | cons o t =>
    simp only [List.getD_cons_zero] at hk
    simp only [len0, List.getD_cons_zero, bodyX, hk, targetX, takenX, behindX, countX, bne]
    generalize rDecode c.1 o = i at hk ⊢
    cases bi <;> cases bs <;> simp [pick_cons, pushX, popX, pcOf, spOf, opC, readW, writeW, joinX, idleX, w_i64, setI, R.get]
theorem nx_5 (c) (s : Int) (g : List Int) (n : Int) (hk : (rDecode c.1 (g.getD 0 0)).1 = n) : (n = 2 → (pNext_2T c s g).val = some (nextX c s g)) ∧ True := by
  refine ⟨?_, ?_⟩
  any_goals trivial
  all_goals intro e; subst e
  all_goals simp only [pNext_2T, RT.val, fin3, pk]
  all_goals simp only [qat0, mat0, qat1, mat1, rg0, hk, internal_eq, qPair_eq, qReg_eq, qTaken_eq, mTaken_eq, qBehind_eq, mBehind_eq, qJoin1, mWord1, qCounted_eq, rStepped_eq, on_eq, nextX, planX, behindX, takenX]
  all_goals generalize rInternal s = bi
  all_goals generalize (s == 5) = bs
  all_goals cases g with
  | nil => cases bi <;> cases bs <;> simp [len00, pick_zero, pcOf, spOf, pushX]
  | cons o t =>
    simp only [List.getD_cons_zero] at hk
    simp only [len0, List.getD_cons_zero, bodyX, hk, targetX, takenX, behindX, countX, bne]
    generalize rDecode c.1 o = i at hk ⊢
    generalize (i.2.2.2.1 == 6) = b0
    generalize (i.2.2.1 == 6) = b1
    cases b0 <;> cases b1 <;> cases bi <;> cases bs <;> simp [pick_cons, pushX, popX, pcOf, spOf, opC, readW, writeW, joinX, idleX, w_i64, setI, R.get]
theorem nx_7 (c) (s : Int) (g : List Int) (n : Int) (hk : (rDecode c.1 (g.getD 0 0)).1 = n) : (n = 12 → (pNext_12T c s g).val = some (nextX c s g)) ∧ True := by
  refine ⟨?_, ?_⟩
  any_goals trivial
  all_goals intro e; subst e
  all_goals simp only [pNext_12T, RT.val, fin3, pk]
  all_goals simp only [qat0, mat0, qat1, mat1, rg0, hk, internal_eq, qPair_eq, qReg_eq, qTaken_eq, mTaken_eq, qBehind_eq, mBehind_eq, qJoin1, mWord1, qCounted_eq, rStepped_eq, on_eq, nextX, planX, behindX, takenX]
  all_goals generalize rInternal s = bi
  all_goals generalize (s == 5) = bs
  all_goals cases g with
  | nil => cases bi <;> cases bs <;> simp [len00, pick_zero, pcOf, spOf, pushX]
  | cons o t =>
    simp only [List.getD_cons_zero] at hk
    simp only [len0, List.getD_cons_zero, bodyX, hk, targetX, takenX, behindX, countX, bne]
    generalize rDecode c.1 o = i at hk ⊢
    generalize (i.2.2.2.1 == 6) = b0
    cases b0 <;> cases bi <;> cases bs <;> simp [pick_cons, pushX, popX, pcOf, spOf, opC, readW, writeW, joinX, idleX, w_i64, setI, R.get]
theorem nx_9 (c) (s : Int) (g : List Int) (n : Int) (hk : (rDecode c.1 (g.getD 0 0)).1 = n) : (n = 26 → (pNext_26T c s g).val = some (nextX c s g)) ∧ (n = 45 → (pNext_45T c s g).val = some (nextX c s g)) ∧ True ∧ True := by
  refine ⟨?_, ?_, ?_, ?_⟩
  any_goals trivial
  all_goals intro e; subst e
  all_goals simp only [pNext_26T, pNext_45T, RT.val, fin3, pk]
  all_goals simp only [qat0, mat0, qat1, mat1, rg0, hk, internal_eq, qPair_eq, qReg_eq, qTaken_eq, mTaken_eq, qBehind_eq, mBehind_eq, qJoin1, mWord1, qCounted_eq, rStepped_eq, on_eq, nextX, planX, behindX, takenX]
  all_goals generalize rInternal s = bi
  all_goals generalize (s == 5) = bs
  all_goals cases g with
  | nil => cases bi <;> cases bs <;> simp [len00, pick_zero, pcOf, spOf, pushX]
  | cons o t =>
    simp only [List.getD_cons_zero] at hk
    simp only [len0, List.getD_cons_zero, bodyX, hk, targetX, takenX, behindX, countX, bne]
    generalize rDecode c.1 o = i at hk ⊢
    generalize rHolds _ _ = b0
    cases b0 <;> cases bi <;> cases bs <;> simp [pick_cons, pushX, popX, pcOf, spOf, opC, readW, writeW, joinX, idleX, w_i64, setI, R.get]
theorem nx_11 (c) (s : Int) (g : List Int) (n : Int) (hk : (rDecode c.1 (g.getD 0 0)).1 = n) : (n = 32 → (pNext_32T c s g).val = some (nextX c s g)) ∧ (n = 37 → (pNext_37T c s g).val = some (nextX c s g)) ∧ True ∧ True := by
  refine ⟨?_, ?_, ?_, ?_⟩
  any_goals trivial
  all_goals intro e; subst e
  all_goals simp only [pNext_32T, pNext_37T, RT.val, fin3, pk]
  all_goals simp only [qat0, mat0, qat1, mat1, rg0, hk, internal_eq, qPair_eq, qReg_eq, qTaken_eq, mTaken_eq, qBehind_eq, mBehind_eq, qJoin1, mWord1, qCounted_eq, rStepped_eq, on_eq, nextX, planX, behindX, takenX]
  all_goals generalize rInternal s = bi
  all_goals generalize (s == 5) = bs
  all_goals cases g with
  | nil => cases bi <;> cases bs <;> simp [len00, pick_zero, pcOf, spOf, pushX]
  | cons o t =>
    simp only [List.getD_cons_zero] at hk
    simp only [len0, List.getD_cons_zero, bodyX, hk, targetX, takenX, behindX, countX, bne]
    generalize rDecode c.1 o = i at hk ⊢
    generalize (c.1 == 2) = b0
    cases b0 <;> cases bi <;> cases bs <;> simp [pick_cons, pushX, popX, pcOf, spOf, opC, readW, writeW, joinX, idleX, w_i64, setI, R.get]
end
end Go.Proofs.YtpkijkmagnhciaaGreat
set_option linter.unusedSimpArgs false
open Go Go.S3 Go.Proofs
set_option linter.unusedVariables false
set_option maxRecDepth 100000
namespace Go.Proofs.YtpkijkmagnhciaaGreat
noncomputable section
theorem pNext_at (a : HL pNextTs) (h : okHL pNextTs a) : ∃ l, AllOk Tryz.prog l ∧ (evVal (envX Tryz.prog l [] 1125900980585471 8) Tryz.f93 pNextTs pNextRs a).val = some (nextX a.1 a.2.1 a.2.2) := by
  have hk := kind_in a.1.1 _ (head_in h.2.2)
  refine ⟨pNextL (rDecode a.1.1 (a.2.2.getD 0 0)).1, pNextL_ok _, ?_⟩
  rcases kinds47 hk.1 hk.2 with e | e | e | e | e | e | e | e | e | e | e | e | e | e | e | e | e | e | e | e | e | e | e | e | e | e | e | e | e | e | e | e | e | e | e | e | e | e | e | e | e | e | e | e | e | e | e
  · rw [e, pNext_1_ev a, ((nx_1 a.1 a.2.1 a.2.2 _ e).1 rfl)]
  · rw [e, pNext_2_ev a, ((nx_5 a.1 a.2.1 a.2.2 _ e).1 rfl)]
  · rw [e, pNext_3_ev a, ((nx_6 a.1 a.2.1 a.2.2 _ e).1 rfl)]
  · rw [e, pNext_4_ev a, ((nx_2 a.1 a.2.1 a.2.2 _ e).1 rfl)]
  · rw [e, pNext_5_ev a, ((nx_3 a.1 a.2.1 a.2.2 _ e).1 rfl)]
  · rw [e, pNext_6_ev a, ((nx_4 a.1 a.2.1 a.2.2 _ e).1 rfl)]
  · rw [e, pNext_7_ev a, ((nx_1 a.1 a.2.1 a.2.2 _ e).2.1 rfl)]
  · rw [e, pNext_8_ev a, ((nx_2 a.1 a.2.1 a.2.2 _ e).2.1 rfl)]
  · rw [e, pNext_9_ev a, ((nx_3 a.1 a.2.1 a.2.2 _ e).2.1 rfl)]
  · rw [e, pNext_10_ev a, ((nx_4 a.1 a.2.1 a.2.2 _ e).2.1 rfl)]
  · rw [e, pNext_11_ev a, ((nx_1 a.1 a.2.1 a.2.2 _ e).2.2.1 rfl)]
  · rw [e, pNext_12_ev a, ((nx_7 a.1 a.2.1 a.2.2 _ e).1 rfl)]
  · rw [e, pNext_13_ev a, ((nx_2 a.1 a.2.1 a.2.2 _ e).2.2.1 rfl)]
  · rw [e, pNext_14_ev a, ((nx_6 a.1 a.2.1 a.2.2 _ e).2.1 rfl)]
  · rw [e, pNext_15_ev a, ((nx_6 a.1 a.2.1 a.2.2 _ e).2.2.1 rfl)]
  · rw [e, pNext_16_ev a, ((nx_3 a.1 a.2.1 a.2.2 _ e).2.2.1 rfl)]
  · rw [e, pNext_17_ev a, ((nx_4 a.1 a.2.1 a.2.2 _ e).2.2.1 rfl)]
  · rw [e, pNext_18_ev a, ((nx_1 a.1 a.2.1 a.2.2 _ e).2.2.2.1 rfl)]
  · rw [e, pNext_19_ev a, ((nx_2 a.1 a.2.1 a.2.2 _ e).2.2.2.1 rfl)]
  · rw [e, pNext_20_ev a, ((nx_3 a.1 a.2.1 a.2.2 _ e).2.2.2.1 rfl)]
  · rw [e, pNext_21_ev a, ((nx_4 a.1 a.2.1 a.2.2 _ e).2.2.2.1 rfl)]
  · rw [e, pNext_22_ev a, ((nx_1 a.1 a.2.1 a.2.2 _ e).2.2.2.2.1 rfl)]
  · rw [e, pNext_23_ev a, ((nx_2 a.1 a.2.1 a.2.2 _ e).2.2.2.2.1 rfl)]
  · rw [e, pNext_24_ev a, ((nx_8 a.1 a.2.1 a.2.2 _ e).1 rfl)]
  · rw [e, pNext_25_ev a, ((nx_8 a.1 a.2.1 a.2.2 _ e).2.1 rfl)]
  · rw [e, pNext_26_ev a, ((nx_9 a.1 a.2.1 a.2.2 _ e).1 rfl)]
  · rw [e, pNext_27_ev a, ((nx_3 a.1 a.2.1 a.2.2 _ e).2.2.2.2.1 rfl)]
  · rw [e, pNext_28_ev a, ((nx_4 a.1 a.2.1 a.2.2 _ e).2.2.2.2.1 rfl)]
  · rw [e, pNext_29_ev a, ((nx_1 a.1 a.2.1 a.2.2 _ e).2.2.2.2.2.1 rfl)]
  · rw [e, pNext_30_ev a, ((nx_10 a.1 a.2.1 a.2.2 _ e).1 rfl)]
  · rw [e, pNext_31_ev a, ((nx_2 a.1 a.2.1 a.2.2 _ e).2.2.2.2.2.1 rfl)]
  · rw [e, pNext_32_ev a, ((nx_11 a.1 a.2.1 a.2.2 _ e).1 rfl)]
  · rw [e, pNext_33_ev a, ((nx_3 a.1 a.2.1 a.2.2 _ e).2.2.2.2.2.1 rfl)]
  · rw [e, pNext_34_ev a, ((nx_4 a.1 a.2.1 a.2.2 _ e).2.2.2.2.2.1 rfl)]
  · rw [e, pNext_35_ev a, ((nx_1 a.1 a.2.1 a.2.2 _ e).2.2.2.2.2.2.1 rfl)]
  · rw [e, pNext_36_ev a, ((nx_2 a.1 a.2.1 a.2.2 _ e).2.2.2.2.2.2.1 rfl)]
  · rw [e, pNext_37_ev a, ((nx_11 a.1 a.2.1 a.2.2 _ e).2.1 rfl)]
  · rw [e, pNext_38_ev a, ((nx_3 a.1 a.2.1 a.2.2 _ e).2.2.2.2.2.2.1 rfl)]
  · rw [e, pNext_39_ev a, ((nx_4 a.1 a.2.1 a.2.2 _ e).2.2.2.2.2.2.1 rfl)]
  · rw [e, pNext_40_ev a, ((nx_1 a.1 a.2.1 a.2.2 _ e).2.2.2.2.2.2.2.1 rfl)]
  · rw [e, pNext_41_ev a, ((nx_2 a.1 a.2.1 a.2.2 _ e).2.2.2.2.2.2.2.1 rfl)]
  · rw [e, pNext_42_ev a, ((nx_3 a.1 a.2.1 a.2.2 _ e).2.2.2.2.2.2.2.1 rfl)]
  · rw [e, pNext_43_ev a, ((nx_4 a.1 a.2.1 a.2.2 _ e).2.2.2.2.2.2.2.1 rfl)]
  · rw [e, pNext_44_ev a, ((nx_1 a.1 a.2.1 a.2.2 _ e).2.2.2.2.2.2.2.2.1 rfl)]
  · rw [e, pNext_45_ev a, ((nx_9 a.1 a.2.1 a.2.2 _ e).2.1 rfl)]
  · rw [e, pNext_46_ev a, ((nx_2 a.1 a.2.1 a.2.2 _ e).2.2.2.2.2.2.2.2.1 rfl)]
  · rw [e, pNext_47_ev a, ((nx_3 a.1 a.2.1 a.2.2 _ e).2.2.2.2.2.2.2.2.1 rfl)]
def pNextE : Entry := pureE pNextTs pNextRs (fun _ => none) (fun a => nextX a.1 a.2.1 a.2.2)
theorem pNext_ok : EntryOk Tryz.prog 93 pNextE := pure_any Tryz.func93 rfl (by kernel_rfl) Tryz.call93 fun a h _ => pNext_at a h
end
end Go.Proofs.YtpkijkmagnhciaaGreat
open Go Go.S3 Go.Proofs
set_option linter.unusedVariables false
set_option linter.unusedSimpArgs false
set_option maxRecDepth 100000
namespace Go.Proofs.YtpkijkmagnhciaaGreat
noncomputable section
def wPC (r : RegT) (v : Int) : RegT := (r.1, r.2.1, r.2.2.1, r.2.2.2.1, r.2.2.2.2.1, r.2.2.2.2.2.1, r.2.2.2.2.2.2.1, r.2.2.2.2.2.2.2.1, r.2.2.2.2.2.2.2.2.1, v)
def wSP (r : RegT) (v : Int) : RegT := (r.1, r.2.1, r.2.2.1, r.2.2.2.1, r.2.2.2.2.1, r.2.2.2.2.2.1, r.2.2.2.2.2.2.1, r.2.2.2.2.2.2.2.1, v, r.2.2.2.2.2.2.2.2.2)
def wA (r : RegT) (v : Int) : RegT := (v, r.2)
def wF (r : RegT) (f : FlgT) : RegT := (r.1, r.2.1, r.2.2.1, r.2.2.2.1, r.2.2.2.2.1, r.2.2.2.2.2.1, r.2.2.2.2.2.2.1, f, r.2.2.2.2.2.2.2.2)
def fCY (f : FlgT) (b : Bool) : FlgT := (f.1, f.2.1, f.2.2.1, f.2.2.2.1, f.2.2.2.2.1, f.2.2.2.2.2.1, b)
def fVCY (f : FlgT) (v b : Bool) : FlgT := (f.1, f.2.1, f.2.2.1, f.2.2.2.1, f.2.2.2.2.1, v, b)
def spOfR (r : RegT) : Int := r.2.2.2.2.2.2.2.2.1
def flOf (r : RegT) : FlgT := r.2.2.2.2.2.2.2.1
def finR (c : CpuT) (r r0 : RegT) (g : List Int) (i : InsT) : RegT :=
  let dst := i.2.2.1
  let src := i.2.2.2.1
  let pr := i.2.2.2.2.1
  let op := i.2.2.2.2.2.1
  let g1 := g.getD 1 0
  let tk := rHolds i.2.2.2.2.2.2.1 (flOf r)
  bif i.1 == 2 then rSet r0 dst (bif src == 6 then g1 else rGet r src) else
  bif i.1 == 3 then rSet r0 dst g1 else
  bif i.1 == 4 then rSetPair r0 pr (joinX g 1) else
  bif i.1 == 5 then wA r0 (g.getD 3 0) else
  bif i.1 == 7 then rSetPair r0 2 (joinX g 3) else
  bif i.1 == 9 then wA r0 g1 else
  bif i.1 == 11 then (r0.1, r0.2.1, r0.2.2.1, r0.2.2.2.2.2.1, r0.2.2.2.2.2.2.1, r0.2.2.2.1, r0.2.2.2.2.1, r0.2.2.2.2.2.2.2) else
  bif i.1 == 12 then (let q := rDo c.1 op r.1 (bif src == 6 then g1 else rGet r src) (flOf r); wA (wF r0 q.2) q.1) else
  bif i.1 == 13 then (let q := rDo c.1 op r.1 g1 (flOf r); wA (wF r0 q.2) q.1) else
  bif i.1 == 14 then (let q := rInr c.1 (bif dst == 6 then g1 else rGet r dst) (flOf r); rSet (wF r0 q.2) dst q.1) else
  bif i.1 == 15 then (let q := rDcr c.1 (bif dst == 6 then g1 else rGet r dst) (flOf r); rSet (wF r0 q.2) dst q.1) else
  bif i.1 == 16 then (let q := rInx c.1 (rPair r pr) (flOf r); rSetPair (wF r0 q.2) pr q.1) else
  bif i.1 == 17 then (let q := rDcx c.1 (rPair r pr) (flOf r); rSetPair (wF r0 q.2) pr q.1) else
  bif i.1 == 18 then (let q := rDad c.1 (rPair r 2) (rPair r pr) (flOf r); rSetPair (wF r0 q.2) 2 q.1) else
  bif i.1 == 19 then (let q := rDaa c.1 r.1 (flOf r); wA (wF r0 q.2) q.1) else
  bif i.1 == 20 then wA r0 (notI .u8 r.1) else
  bif i.1 == 21 then wF r0 (fCY (flOf r) true) else
  bif i.1 == 22 then wF r0 (fCY (flOf r) (!(flOf r).2.2.2.2.2.2)) else
  bif i.1 == 23 then (let q := rRot op r.1 (flOf r).2.2.2.2.2.2; wA (wF r0 (fCY (flOf r) q.2)) q.1) else
  bif i.1 == 24 then (bif tk then wPC r0 (joinX g 1) else r0) else
  bif i.1 == 25 then (bif tk then wPC (wSP r0 (IntKind.wrap .u16 (spOfR r - 2))) (joinX g 1) else r0) else
  bif i.1 == 26 then (bif tk then wPC (wSP r0 (IntKind.wrap .u16 (spOfR r + 2))) (joinX g 1) else r0) else
  bif i.1 == 27 then wPC (wSP r0 (IntKind.wrap .u16 (spOfR r - 2))) (IntKind.wrap .u16 (IntKind.wrap .i64 (8 * i.2.2.2.2.2.2.2))) else
  bif i.1 == 28 then wPC r0 (rPair r 2) else
  bif i.1 == 29 then wSP r0 (rPair r 2) else
  bif i.1 == 30 then wSP r0 (IntKind.wrap .u16 (spOfR r - 2)) else
  bif i.1 == 31 then (let q := bif pr == 3 then rSetPSW c.1 r0 (joinX g 1) else rSetPair r0 pr (joinX g 1); wSP q (IntKind.wrap .u16 (spOfR q + 2))) else
  bif i.1 == 32 then rSetPair r0 2 (joinX g 1) else
  bif i.1 == 33 then wA r0 (g.getD 2 0) else
  bif i.1 == 40 then (let q := rDsub (rPair r 2) (rPair r 0); rSetPair (wF r0 q.2) 2 q.1) else
  bif i.1 == 41 then (let q := rArhl (rPair r 2); rSetPair (wF r0 (fCY (flOf r) q.2)) 2 q.1) else
  bif i.1 == 42 then (let q := rRdel (rPair r 1) (flOf r).2.2.2.2.2.2; rSetPair (wF r0 (fVCY (flOf r) q.2.2 q.2.1)) 1 q.1) else
  bif i.1 == 43 then rSetPair r0 1 (IntKind.wrap .u16 (rPair r 2 + IntKind.wrap .u16 g1)) else
  bif i.1 == 44 then rSetPair r0 1 (IntKind.wrap .u16 (spOfR r + IntKind.wrap .u16 g1)) else
  bif i.1 == 45 then (bif tk then wPC (wSP r0 (IntKind.wrap .u16 (spOfR r - 2))) 64 else r0) else
  bif i.1 == 47 then rSetPair r0 2 (joinX g 1) else
  r0
def finI (c : CpuT) (inj : Bool) (g : List Int) (l : Bool × Bool × Bool × Bool × Bool × Bool × Bool × Bool × Bool) (i : InsT) : CpuT :=
  let r0 := wPC c.2.1 (behindX c inj i)
  let d : CpuT := (c.1, r0, c.2.2.1, false, false, c.2.2.2.2.2)
  bif i.1 == 38 then (let q := rRim d l; (q.2.1, wA q.2.2.1 q.1, q.2.2.2)) else
  bif i.1 == 39 then rSim d c.2.1.1 else
  (c.1, finR c c.2.1 r0 g i, bif i.1 == 35 then true else bif i.1 == 36 then false else c.2.2.1, i.1 == 35, i.1 == 37, c.2.2.2.2.2)
def finX (c : CpuT) (s : Int) (g : List Int) (l : Bool × Bool × Bool × Bool × Bool × Bool × Bool × Bool × Bool) : CpuT :=
  bif rInternal s then (c.1, wPC (wSP c.2.1 (IntKind.wrap .u16 (spOf c - 2))) (rVector s), c.2.2)
  else finI c (s == 5) g l (rDecode c.1 (g.getD 0 0))
theorem rim_eq (c : CpuT) (l) : (rRim c l).2 = (c.1, c.2.1, c.2.2.1, c.2.2.2.1, c.2.2.2.2.1, c.2.2.2.2.2.1, c.2.2.2.2.2.2.1, c.2.2.2.2.2.2.2.1, c.2.2.2.2.2.2.2.2.1, c.2.2.2.2.2.2.2.2.2.1, false, false, c.2.2.2.2.2.2.2.2.2.2.2.2) := by
  have h3 : ∀ b, rBit14C b 3 = true := fun b => by cases b <;> rfl
  have h4 : ∀ b, rBit14C b 4 = true := fun b => by cases b <;> rfl
  have h5 : ∀ b, rBit14C b 5 = true := fun b => by cases b <;> rfl
  have h6 : ∀ b, rBit14C b 6 = true := fun b => by cases b <;> rfl
  have h7 : ∀ b, rBit14C b 7 = true := fun b => by cases b <;> rfl
  simp only [rRim, rRimT, RT.val, h3, h4, h5, h6, h7, Bool.not_true, Bool.false_or, cond_true, getO]
theorem qOp_eq (s) : qOperandC s = true ∧ qOperand s = bif (s.2.2.2.1.1 == 13 || s.2.2.2.1.2.2.2.1 == 6) then s.2.2.1.getD 1 0 else rGet s.1.2.1 s.2.2.2.1.2.2.2.1 := by
  simp only [qOperandC, qOperand, qOperandT, RT.val, qat1, qReg_eq]
  cases (s.2.2.2.1.1 == 13 || s.2.2.2.1.2.2.2.1 == 6) <;> simp [okB, getO]
end
end Go.Proofs.YtpkijkmagnhciaaGreat
open Go Go.S3 Go.Proofs
set_option linter.unusedVariables false
set_option linter.unusedSimpArgs false
set_option maxRecDepth 100000
namespace Go.Proofs.YtpkijkmagnhciaaGreat
noncomputable section
theorem w16 {n : Nat} (h : n < 65536) : IntKind.wrap .u16 (n : Int) = n := wrap_in ⟨by simp [IntKind.min, IntKind.signed], by simp [IntKind.max, IntKind.signed, IntKind.bits]; omega⟩
end
end Go.Proofs.YtpkijkmagnhciaaGreat
set_option linter.unusedSimpArgs false
open Go Go.S3 Go.Proofs
set_option linter.unusedVariables false
set_option maxRecDepth 100000
namespace Go.Proofs.YtpkijkmagnhciaaGreat
noncomputable section
def imicro_newPlan_pFinE (k : Int) : Entry := .tree (evFunc (envX Tryz.prog [(163, pDecKE k), (200, qAtE)] [] 255 8) Tryz.f157)
theorem imicro_newPlan_pFin_ok (k : Int) : EntryOk Tryz.prog 157 (imicro_newPlan_pFinE k) := inl_ok (P := Tryz.prog) (n := 255) (k := 8) (l := [(163, pDecKE k), (200, qAtE)]) (ol := []) ⟨(pDecK_ok k), qAt_ok, trivial⟩ Tryz.func157 rfl (by kernel_rfl) Tryz.call157 trivial
def i__micro_plan__loadE : Entry := .tree (evFunc (envX Tryz.prog [(200, qAtE), (203, qRegE), (248, qJoinE), (256, pSet1E), (257, pSetPair1E)] [] 2597417327555236063515274458956831 8) Tryz.f217)
theorem i__micro_plan__load_ok : EntryOk Tryz.prog 217 i__micro_plan__loadE := inl_ok (P := Tryz.prog) (n := 2597417327555236063515274458956831) (k := 8) (l := [(200, qAtE), (203, qRegE), (248, qJoinE), (256, pSet1E), (257, pSetPair1E)]) (ol := []) ⟨qAt_ok, qReg_ok, qJoin_ok, pSet1_ok, pSetPair1_ok, trivial⟩ Tryz.func217 rfl (by kernel_rfl) Tryz.call217 trivial
def i__micro_plan__computeE : Entry := .tree (evFunc (envX Tryz.prog [(200, qAtE), (202, qPairE), (203, qRegE), (246, pInr1E), (247, pDcr1E), (256, pSet1E), (257, pSetPair1E), (258, pDo1E), (259, qOperandE), (260, pInx1E), (261, pDcx1E), (262, pDad1E), (263, pDaa1E), (264, pRot1E)] [] 7069140681974987581262622498806463579024171163532525608263727578473562367 8) Tryz.f218)
theorem i__micro_plan__compute_ok : EntryOk Tryz.prog 218 i__micro_plan__computeE := inl_ok (P := Tryz.prog) (n := 7069140681974987581262622498806463579024171163532525608263727578473562367) (k := 8) (l := [(200, qAtE), (202, qPairE), (203, qRegE), (246, pInr1E), (247, pDcr1E), (256, pSet1E), (257, pSetPair1E), (258, pDo1E), (259, qOperandE), (260, pInx1E), (261, pDcx1E), (262, pDad1E), (263, pDaa1E), (264, pRot1E)]) (ol := []) ⟨qAt_ok, qPair_ok, qReg_ok, pInr1_ok, pDcr1_ok, pSet1_ok, pSetPair1_ok, pDo1_ok, qOperand_ok, pInx1_ok, pDcx1_ok, pDad1_ok, pDaa1_ok, pRot1_ok, trivial⟩ Tryz.func218 rfl (by kernel_rfl) Tryz.call218 trivial
def i__micro_plan__controlE : Entry := .tree (evFunc (envX Tryz.prog [(202, qPairE), (248, qJoinE), (250, qTakenE), (257, pSetPair1E), (265, pSetPSW1E)] [] 1300629477622019213679053869679119 8) Tryz.f219)
theorem i__micro_plan__control_ok : EntryOk Tryz.prog 219 i__micro_plan__controlE := inl_ok (P := Tryz.prog) (n := 1300629477622019213679053869679119) (k := 8) (l := [(202, qPairE), (248, qJoinE), (250, qTakenE), (257, pSetPair1E), (265, pSetPSW1E)]) (ol := []) ⟨qPair_ok, qJoin_ok, qTaken_ok, pSetPair1_ok, pSetPSW1_ok, trivial⟩ Tryz.func219 rfl (by kernel_rfl) Tryz.call219 trivial
def i__micro_plan__laterE : Entry := .tree (evFunc (envX Tryz.prog [(200, qAtE), (202, qPairE), (257, pSetPair1E), (267, pDsub1E), (268, pArhl1E), (269, pRdel1E)] [] 19808249554387950831669350527 8) Tryz.f222)
theorem i__micro_plan__later_ok : EntryOk Tryz.prog 222 i__micro_plan__laterE := inl_ok (P := Tryz.prog) (n := 19808249554387950831669350527) (k := 8) (l := [(200, qAtE), (202, qPairE), (257, pSetPair1E), (267, pDsub1E), (268, pArhl1E), (269, pRdel1E)]) (ol := []) ⟨qAt_ok, qPair_ok, pSetPair1_ok, pDsub1_ok, pArhl1_ok, pRdel1_ok, trivial⟩ Tryz.func222 rfl (by kernel_rfl) Tryz.call222 trivial
def i__micro_plan__finishE : Entry := .tree (evFunc (envX Tryz.prog [(216, qBehindE), (217, i__micro_plan__loadE), (218, i__micro_plan__computeE), (219, i__micro_plan__controlE), (220, pRim1E), (221, pSim1E), (222, i__micro_plan__laterE)] [] 1299342484808491477133836286951679 8) Tryz.f169)
theorem i__micro_plan__finish_ok : EntryOk Tryz.prog 169 i__micro_plan__finishE := inl_ok (P := Tryz.prog) (n := 1299342484808491477133836286951679) (k := 8) (l := [(216, qBehindE), (217, i__micro_plan__loadE), (218, i__micro_plan__computeE), (219, i__micro_plan__controlE), (220, pRim1E), (221, pSim1E), (222, i__micro_plan__laterE)]) (ol := []) ⟨qBehind_ok, i__micro_plan__load_ok, i__micro_plan__compute_ok, i__micro_plan__control_ok, pRim1_ok, pSim1_ok, i__micro_plan__later_ok, trivial⟩ Tryz.func169 rfl (by kernel_rfl) Tryz.call169 trivial
abbrev pFinTs : List Sh := [Sh.agg rcCPU, Sh.one (R.int IntKind.i64), Sh.one (R.sl (R.int IntKind.u8)), Sh.agg (R.pair R.bool (R.pair R.bool rcF7))]
abbrev pFinRs : Rs := Rs.one (Sh.agg rcCPU)
def pFinL (k : Int) : List (FuncId × Entry) := [(157, imicro_newPlan_pFinE k), (158, pInternalE), (168, pVector1E), (169, i__micro_plan__finishE)]
theorem pFinL_ok (k : Int) : AllOk Tryz.prog (pFinL k) := ⟨(imicro_newPlan_pFin_ok k), pInternal_ok, pVector1_ok, i__micro_plan__finish_ok, trivial⟩
end
end Go.Proofs.YtpkijkmagnhciaaGreat
set_option linter.unusedSimpArgs false
open Go Go.S3 Go.Proofs
set_option linter.unusedVariables false
set_option maxRecDepth 100000
namespace Go.Proofs.YtpkijkmagnhciaaGreat
noncomputable section
def pFin_1T (c : TC) (s : Int) (g : List Int) (ln : Bool × Bool × Bool × Bool × Bool × Bool × Bool × Bool × Bool) : RT (Option TC) :=
  let x1 : TC × Bool × List Int × TI × List TY := (c, s == 5, g, (0, 0, 0, 0, 0, 0, 0, 0), [])
  let x2 : Bool := qAtC x1 0
  let x3 : Int × Int × Int × Int × Int × Int × Int × Int := rDecode c.1 (qAt x1 0)
  let x4 : Bool := !x2 || x3.1 == 1
  .br (pInternal s)
  (.leaf (some ((c.1, (rgx c.2.1 c.2.1.2.2.2.2.2.2.2.1 (IntKind.u16.wrap ((spOf c) - 2)) (rVector s)), c.2.2))))
  (.br (!x4 || x2)
   (.br (x4)
    (.leaf (some ((c.1, (rgx c.2.1 c.2.1.2.2.2.2.2.2.2.1 (spOf c) (qBehind (c, s == 5, g, (1, x3.2), []))), c.2.2.1, false, false, c.2.2.2.2.2))))
    (.leaf none))
   (.leaf none))
theorem pFin_1_ev (a : HL pFinTs) : evVal (envX Tryz.prog (pFinL 1) [] 1023 8) Tryz.f116 pFinTs pFinRs a = pFin_1T a.1 a.2.1 a.2.2.1 a.2.2.2 := by kernel_rfl
def pFin_5T (c : TC) (s : Int) (g : List Int) (ln : Bool × Bool × Bool × Bool × Bool × Bool × Bool × Bool × Bool) : RT (Option TC) :=
  let x1 : TC × Bool × List Int × TI × List TY := (c, s == 5, g, (0, 0, 0, 0, 0, 0, 0, 0), [])
  let x2 : Bool := qAtC x1 0
  let x3 : Int × Int × Int × Int × Int × Int × Int × Int := rDecode c.1 (qAt x1 0)
  let x4 : Bool := !x2 || x3.1 == 5
  let x5 : TC × Bool × List Int × TI × List TY := (c, s == 5, g, (5, x3.2), [])
  .br (pInternal s)
  (.leaf (some ((c.1, (rgx c.2.1 c.2.1.2.2.2.2.2.2.2.1 (IntKind.u16.wrap ((spOf c) - 2)) (rVector s)), c.2.2))))
  (.br (!x4 || x2)
   (.br (x4)
    (.br (qAtC x5 3)
     (.leaf (some ((c.1, (qAt x5 3, c.2.1.2.1, c.2.1.2.2.1, c.2.1.2.2.2.1, c.2.1.2.2.2.2.1, c.2.1.2.2.2.2.2.1, c.2.1.2.2.2.2.2.2.1, c.2.1.2.2.2.2.2.2.2.1, spOf c, qBehind x5), c.2.2.1, false, false, c.2.2.2.2.2))))
     (.leaf none))
    (.leaf none))
   (.leaf none))
theorem pFin_5_ev (a : HL pFinTs) : evVal (envX Tryz.prog (pFinL 5) [] 1023 8) Tryz.f116 pFinTs pFinRs a = pFin_5T a.1 a.2.1 a.2.2.1 a.2.2.2 := by kernel_rfl
def pFin_9T (c : TC) (s : Int) (g : List Int) (ln : Bool × Bool × Bool × Bool × Bool × Bool × Bool × Bool × Bool) : RT (Option TC) :=
  let x1 : TC × Bool × List Int × TI × List TY := (c, s == 5, g, (0, 0, 0, 0, 0, 0, 0, 0), [])
  let x2 : Bool := qAtC x1 0
  let x3 : Int × Int × Int × Int × Int × Int × Int × Int := rDecode c.1 (qAt x1 0)
  let x4 : Bool := !x2 || x3.1 == 9
  let x5 : TC × Bool × List Int × TI × List TY := (c, s == 5, g, (9, x3.2), [])
  .br (pInternal s)
  (.leaf (some ((c.1, (rgx c.2.1 c.2.1.2.2.2.2.2.2.2.1 (IntKind.u16.wrap ((spOf c) - 2)) (rVector s)), c.2.2))))
  (.br (!x4 || x2)
   (.br (x4)
    (.br (qAtC x5 1)
     (.leaf (some ((c.1, (qAt x5 1, c.2.1.2.1, c.2.1.2.2.1, c.2.1.2.2.2.1, c.2.1.2.2.2.2.1, c.2.1.2.2.2.2.2.1, c.2.1.2.2.2.2.2.2.1, c.2.1.2.2.2.2.2.2.2.1, spOf c, qBehind x5), c.2.2.1, false, false, c.2.2.2.2.2))))
     (.leaf none))
    (.leaf none))
   (.leaf none))
theorem pFin_9_ev (a : HL pFinTs) : evVal (envX Tryz.prog (pFinL 9) [] 1023 8) Tryz.f116 pFinTs pFinRs a = pFin_9T a.1 a.2.1 a.2.2.1 a.2.2.2 := by kernel_rfl
def pFin_13T (c : TC) (s : Int) (g : List Int) (ln : Bool × Bool × Bool × Bool × Bool × Bool × Bool × Bool × Bool) : RT (Option TC) :=
  let x1 : TC × Bool × List Int × TI × List TY := (c, s == 5, g, (0, 0, 0, 0, 0, 0, 0, 0), [])
  let x2 : Bool := qAtC x1 0
  let x3 : Int × Int × Int × Int × Int × Int × Int × Int := rDecode c.1 (qAt x1 0)
  let x4 : Bool := !x2 || x3.1 == 13
  let x5 : Int × Int × Int × Int × Int × Int × Int := x3.2
  let x6 : TC × Bool × List Int × TI × List TY := (c, s == 5, g, (13, x5), [])
  let x7 : Int × Bool × Bool × Bool × Bool × Bool × Bool × Bool := rDo c.1 x5.2.2.2.2.1 c.2.1.1 (qOperand x6) c.2.1.2.2.2.2.2.2.2.1
  .br (pInternal s)
  (.leaf (some ((c.1, (rgx c.2.1 c.2.1.2.2.2.2.2.2.2.1 (IntKind.u16.wrap ((spOf c) - 2)) (rVector s)), c.2.2))))
  (.br (!x4 || x2)
   (.br (x4)
    (.br (qOperandC x6)
     (.leaf (some ((c.1, (x7.1, c.2.1.2.1, c.2.1.2.2.1, c.2.1.2.2.2.1, c.2.1.2.2.2.2.1, c.2.1.2.2.2.2.2.1, c.2.1.2.2.2.2.2.2.1, x7.2, spOf c, qBehind x6), c.2.2.1, false, false, c.2.2.2.2.2))))
     (.leaf none))
    (.leaf none))
   (.leaf none))
theorem pFin_13_ev (a : HL pFinTs) : evVal (envX Tryz.prog (pFinL 13) [] 1023 8) Tryz.f116 pFinTs pFinRs a = pFin_13T a.1 a.2.1 a.2.2.1 a.2.2.2 := by kernel_rfl
def pFin_17T (c : TC) (s : Int) (g : List Int) (ln : Bool × Bool × Bool × Bool × Bool × Bool × Bool × Bool × Bool) : RT (Option TC) :=
  let x1 : TC × Bool × List Int × TI × List TY := (c, s == 5, g, (0, 0, 0, 0, 0, 0, 0, 0), [])
  let x2 : Bool := qAtC x1 0
  let x3 : Int × Int × Int × Int × Int × Int × Int × Int := rDecode c.1 (qAt x1 0)
  let x4 : Bool := !x2 || x3.1 == 17
  let x5 : Int × Int × Int × Int × Int × Int × Int := x3.2
  let x6 : TC × Bool × List Int × TI × List TY := (c, s == 5, g, (17, x5), [])
  let x7 : Int := x5.2.2.2.1
  let x8 : Int × Bool × Bool × Bool × Bool × Bool × Bool × Bool := rDcx c.1 (qPair x6 x7) c.2.1.2.2.2.2.2.2.2.1
  .br (pInternal s)
  (.leaf (some ((c.1, (rgx c.2.1 c.2.1.2.2.2.2.2.2.2.1 (IntKind.u16.wrap ((spOf c) - 2)) (rVector s)), c.2.2))))
  (.br (!x4 || x2)
   (.br (x4)
    (.leaf (some ((c.1, rSetPair (rgx c.2.1 x8.2 (spOf c) (qBehind x6)) x7 x8.1, c.2.2.1, false, false, c.2.2.2.2.2))))
    (.leaf none))
   (.leaf none))
theorem pFin_17_ev (a : HL pFinTs) : evVal (envX Tryz.prog (pFinL 17) [] 1023 8) Tryz.f116 pFinTs pFinRs a = pFin_17T a.1 a.2.1 a.2.2.1 a.2.2.2 := by kernel_rfl
def pFin_21T (c : TC) (s : Int) (g : List Int) (ln : Bool × Bool × Bool × Bool × Bool × Bool × Bool × Bool × Bool) : RT (Option TC) :=
  let x1 : TC × Bool × List Int × TI × List TY := (c, s == 5, g, (0, 0, 0, 0, 0, 0, 0, 0), [])
  let x2 : Bool := qAtC x1 0
  let x3 : Int × Int × Int × Int × Int × Int × Int × Int := rDecode c.1 (qAt x1 0)
  let x4 : Bool := !x2 || x3.1 == 21
  let x5 : Bool × Bool × Bool × Bool := c.2.1.2.2.2.2.2.2.2.1.2.2.2
  let x6 : Bool × Bool × Bool := x5.2
  .br (pInternal s)
  (.leaf (some ((c.1, (rgx c.2.1 c.2.1.2.2.2.2.2.2.2.1 (IntKind.u16.wrap ((spOf c) - 2)) (rVector s)), c.2.2))))
  (.br (!x4 || x2)
   (.br (x4)
    (.leaf (some ((c.1, (rgx c.2.1 ((c.2.1.2.2.2.2.2.2.2.1.1, c.2.1.2.2.2.2.2.2.2.1.2.1, c.2.1.2.2.2.2.2.2.2.1.2.2.1, x5.1, x6.1, x6.2.1, true)) (spOf c) (qBehind (c, s == 5, g, (21, x3.2), []))), c.2.2.1, false, false, c.2.2.2.2.2))))
    (.leaf none))
   (.leaf none))
theorem pFin_21_ev (a : HL pFinTs) : evVal (envX Tryz.prog (pFinL 21) [] 1023 8) Tryz.f116 pFinTs pFinRs a = pFin_21T a.1 a.2.1 a.2.2.1 a.2.2.2 := by kernel_rfl
def pFin_25T (c : TC) (s : Int) (g : List Int) (ln : Bool × Bool × Bool × Bool × Bool × Bool × Bool × Bool × Bool) : RT (Option TC) :=
  let x1 : Int := IntKind.u16.wrap ((spOf c) - 2)
  let x2 : TC × Bool × List Int × TI × List TY := (c, s == 5, g, (0, 0, 0, 0, 0, 0, 0, 0), [])
  let x3 : Bool := qAtC x2 0
  let x4 : Int × Int × Int × Int × Int × Int × Int × Int := rDecode c.1 (qAt x2 0)
  let x5 : Bool := !x3 || x4.1 == 25
  let x6 : TC × Bool × List Int × TI × List TY := (c, s == 5, g, (25, x4.2), [])
  let x7 : Bool := qTaken x6
  .br (pInternal s)
  (.leaf (some ((c.1, (rgx c.2.1 c.2.1.2.2.2.2.2.2.2.1 x1 (rVector s)), c.2.2))))
  (.br (!x5 || x3)
   (.br (x5)
    (.br (!x7 || qJoinC x6 1)
     (.leaf (some ((c.1, (rgx c.2.1 c.2.1.2.2.2.2.2.2.2.1 (bif x7 then x1 else (spOf c)) (bif x7 then qJoin x6 1 else qBehind x6)), c.2.2.1, false, false, c.2.2.2.2.2))))
     (.leaf none))
    (.leaf none))
   (.leaf none))
theorem pFin_25_ev (a : HL pFinTs) : evVal (envX Tryz.prog (pFinL 25) [] 1023 8) Tryz.f116 pFinTs pFinRs a = pFin_25T a.1 a.2.1 a.2.2.1 a.2.2.2 := by kernel_rfl
def pFin_29T (c : TC) (s : Int) (g : List Int) (ln : Bool × Bool × Bool × Bool × Bool × Bool × Bool × Bool × Bool) : RT (Option TC) :=
  let x1 : TC × Bool × List Int × TI × List TY := (c, s == 5, g, (0, 0, 0, 0, 0, 0, 0, 0), [])
  let x2 : Bool := qAtC x1 0
  let x3 : Int × Int × Int × Int × Int × Int × Int × Int := rDecode c.1 (qAt x1 0)
  let x4 : Bool := !x2 || x3.1 == 29
  let x5 : TC × Bool × List Int × TI × List TY := (c, s == 5, g, (29, x3.2), [])
  .br (pInternal s)
  (.leaf (some ((c.1, (rgx c.2.1 c.2.1.2.2.2.2.2.2.2.1 (IntKind.u16.wrap ((spOf c) - 2)) (rVector s)), c.2.2))))
  (.br (!x4 || x2)
   (.br (x4)
    (.leaf (some ((c.1, (rgx c.2.1 c.2.1.2.2.2.2.2.2.2.1 (qPair x5 2) (qBehind x5)), c.2.2.1, false, false, c.2.2.2.2.2))))
    (.leaf none))
   (.leaf none))
theorem pFin_29_ev (a : HL pFinTs) : evVal (envX Tryz.prog (pFinL 29) [] 1023 8) Tryz.f116 pFinTs pFinRs a = pFin_29T a.1 a.2.1 a.2.2.1 a.2.2.2 := by kernel_rfl
def pFin_33T (c : TC) (s : Int) (g : List Int) (ln : Bool × Bool × Bool × Bool × Bool × Bool × Bool × Bool × Bool) : RT (Option TC) :=
  let x1 : TC × Bool × List Int × TI × List TY := (c, s == 5, g, (0, 0, 0, 0, 0, 0, 0, 0), [])
  let x2 : Bool := qAtC x1 0
  let x3 : Int × Int × Int × Int × Int × Int × Int × Int := rDecode c.1 (qAt x1 0)
  let x4 : Bool := !x2 || x3.1 == 33
  let x5 : TC × Bool × List Int × TI × List TY := (c, s == 5, g, (33, x3.2), [])
  .br (pInternal s)
  (.leaf (some ((c.1, (rgx c.2.1 c.2.1.2.2.2.2.2.2.2.1 (IntKind.u16.wrap ((spOf c) - 2)) (rVector s)), c.2.2))))
  (.br (!x4 || x2)
   (.br (x4)
    (.br (qAtC x5 2)
     (.leaf (some ((c.1, (qAt x5 2, c.2.1.2.1, c.2.1.2.2.1, c.2.1.2.2.2.1, c.2.1.2.2.2.2.1, c.2.1.2.2.2.2.2.1, c.2.1.2.2.2.2.2.2.1, c.2.1.2.2.2.2.2.2.2.1, spOf c, qBehind x5), c.2.2.1, false, false, c.2.2.2.2.2))))
     (.leaf none))
    (.leaf none))
   (.leaf none))
theorem pFin_33_ev (a : HL pFinTs) : evVal (envX Tryz.prog (pFinL 33) [] 1023 8) Tryz.f116 pFinTs pFinRs a = pFin_33T a.1 a.2.1 a.2.2.1 a.2.2.2 := by kernel_rfl
def pFin_37T (c : TC) (s : Int) (g : List Int) (ln : Bool × Bool × Bool × Bool × Bool × Bool × Bool × Bool × Bool) : RT (Option TC) :=
  let x1 : TC × Bool × List Int × TI × List TY := (c, s == 5, g, (0, 0, 0, 0, 0, 0, 0, 0), [])
  let x2 : Bool := qAtC x1 0
  let x3 : Int × Int × Int × Int × Int × Int × Int × Int := rDecode c.1 (qAt x1 0)
  let x4 : Bool := !x2 || x3.1 == 37
  .br (pInternal s)
  (.leaf (some ((c.1, (rgx c.2.1 c.2.1.2.2.2.2.2.2.2.1 (IntKind.u16.wrap ((spOf c) - 2)) (rVector s)), c.2.2))))
  (.br (!x4 || x2)
   (.br (x4)
    (.leaf (some ((c.1, (rgx c.2.1 c.2.1.2.2.2.2.2.2.2.1 (spOf c) (qBehind (c, s == 5, g, (37, x3.2), []))), c.2.2.1, false, true, c.2.2.2.2.2))))
    (.leaf none))
   (.leaf none))
theorem pFin_37_ev (a : HL pFinTs) : evVal (envX Tryz.prog (pFinL 37) [] 1023 8) Tryz.f116 pFinTs pFinRs a = pFin_37T a.1 a.2.1 a.2.2.1 a.2.2.2 := by kernel_rfl
def pFin_41T (c : TC) (s : Int) (g : List Int) (ln : Bool × Bool × Bool × Bool × Bool × Bool × Bool × Bool × Bool) : RT (Option TC) :=
  let x1 : TC × Bool × List Int × TI × List TY := (c, s == 5, g, (0, 0, 0, 0, 0, 0, 0, 0), [])
  let x2 : Bool := qAtC x1 0
  let x3 : Int × Int × Int × Int × Int × Int × Int × Int := rDecode c.1 (qAt x1 0)
  let x4 : Bool := !x2 || x3.1 == 41
  let x5 : Bool × Bool × Bool × Bool := c.2.1.2.2.2.2.2.2.2.1.2.2.2
  let x6 : Bool × Bool × Bool := x5.2
  let x7 : TC × Bool × List Int × TI × List TY := (c, s == 5, g, (41, x3.2), [])
  let x8 : Int × Bool := rArhl (qPair x7 2)
  .br (pInternal s)
  (.leaf (some ((c.1, (rgx c.2.1 c.2.1.2.2.2.2.2.2.2.1 (IntKind.u16.wrap ((spOf c) - 2)) (rVector s)), c.2.2))))
  (.br (!x4 || x2)
   (.br (x4)
    (.leaf (some ((c.1, rSetPair (rgx c.2.1 ((c.2.1.2.2.2.2.2.2.2.1.1, c.2.1.2.2.2.2.2.2.2.1.2.1, c.2.1.2.2.2.2.2.2.2.1.2.2.1, x5.1, x6.1, x6.2.1, x8.2)) (spOf c) (qBehind x7)) 2 x8.1, c.2.2.1, false, false, c.2.2.2.2.2))))
    (.leaf none))
   (.leaf none))
theorem pFin_41_ev (a : HL pFinTs) : evVal (envX Tryz.prog (pFinL 41) [] 1023 8) Tryz.f116 pFinTs pFinRs a = pFin_41T a.1 a.2.1 a.2.2.1 a.2.2.2 := by kernel_rfl
def pFin_45T (c : TC) (s : Int) (g : List Int) (ln : Bool × Bool × Bool × Bool × Bool × Bool × Bool × Bool × Bool) : RT (Option TC) :=
  let x1 : Int := IntKind.u16.wrap ((spOf c) - 2)
  let x2 : TC × Bool × List Int × TI × List TY := (c, s == 5, g, (0, 0, 0, 0, 0, 0, 0, 0), [])
  let x3 : Bool := qAtC x2 0
  let x4 : Int × Int × Int × Int × Int × Int × Int × Int := rDecode c.1 (qAt x2 0)
  let x5 : Bool := !x3 || x4.1 == 45
  let x6 : TC × Bool × List Int × TI × List TY := (c, s == 5, g, (45, x4.2), [])
  let x7 : Bool := qTaken x6
  .br (pInternal s)
  (.leaf (some ((c.1, (rgx c.2.1 c.2.1.2.2.2.2.2.2.2.1 x1 (rVector s)), c.2.2))))
  (.br (!x5 || x3)
   (.br (x5)
    (.leaf (some ((c.1, (rgx c.2.1 c.2.1.2.2.2.2.2.2.2.1 (bif x7 then x1 else (spOf c)) (bif x7 then 64 else qBehind x6)), c.2.2.1, false, false, c.2.2.2.2.2))))
    (.leaf none))
   (.leaf none))
theorem pFin_45_ev (a : HL pFinTs) : evVal (envX Tryz.prog (pFinL 45) [] 1023 8) Tryz.f116 pFinTs pFinRs a = pFin_45T a.1 a.2.1 a.2.2.1 a.2.2.2 := by kernel_rfl
end
end Go.Proofs.YtpkijkmagnhciaaGreat
set_option linter.unusedSimpArgs false
open Go Go.S3 Go.Proofs
set_option linter.unusedVariables false
set_option maxRecDepth 100000
namespace Go.Proofs.YtpkijkmagnhciaaGreat
noncomputable section
def pFin_2T (c : TC) (s : Int) (g : List Int) (ln : Bool × Bool × Bool × Bool × Bool × Bool × Bool × Bool × Bool) : RT (Option TC) :=
  let x1 : TC × Bool × List Int × TI × List TY := (c, s == 5, g, (0, 0, 0, 0, 0, 0, 0, 0), [])
  let x2 : Bool := qAtC x1 0
  let x3 : Int × Int × Int × Int × Int × Int × Int × Int := rDecode c.1 (qAt x1 0)
  let x4 : Bool := !x2 || x3.1 == 2
  let x5 : Int × Int × Int × Int × Int × Int × Int := x3.2
  let x6 : Int × Int × Int × Int × Int × Int := x5.2
  let x7 : Int := x6.2.1
  let x8 : Bool := x7 == 6
  let x9 : TC × Bool × List Int × TI × List TY := (c, s == 5, g, (2, x5), [])
  .br (pInternal s)
  (.leaf (some ((c.1, (rgx c.2.1 c.2.1.2.2.2.2.2.2.2.1 (IntKind.u16.wrap ((spOf c) - 2)) (rVector s)), c.2.2))))
  (.br (!x4 || x2)
   (.br (x4)
    (.br (!x8 || qAtC x9 1)
     (.leaf (some ((c.1, rSet (rgx c.2.1 c.2.1.2.2.2.2.2.2.2.1 (spOf c) (qBehind x9)) x6.1 (bif x8 then qAt x9 1 else qReg x9 x7), c.2.2.1, false, false, c.2.2.2.2.2))))
     (.leaf none))
    (.leaf none))
   (.leaf none))
theorem pFin_2_ev (a : HL pFinTs) : evVal (envX Tryz.prog (pFinL 2) [] 1023 8) Tryz.f116 pFinTs pFinRs a = pFin_2T a.1 a.2.1 a.2.2.1 a.2.2.2 := by kernel_rfl
def pFin_6T (c : TC) (s : Int) (g : List Int) (ln : Bool × Bool × Bool × Bool × Bool × Bool × Bool × Bool × Bool) : RT (Option TC) :=
  let x1 : TC × Bool × List Int × TI × List TY := (c, s == 5, g, (0, 0, 0, 0, 0, 0, 0, 0), [])
  let x2 : Bool := qAtC x1 0
  let x3 : Int × Int × Int × Int × Int × Int × Int × Int := rDecode c.1 (qAt x1 0)
  let x4 : Bool := !x2 || x3.1 == 6
  .br (pInternal s)
  (.leaf (some ((c.1, (rgx c.2.1 c.2.1.2.2.2.2.2.2.2.1 (IntKind.u16.wrap ((spOf c) - 2)) (rVector s)), c.2.2))))
  (.br (!x4 || x2)
   (.br (x4)
    (.leaf (some ((c.1, (rgx c.2.1 c.2.1.2.2.2.2.2.2.2.1 (spOf c) (qBehind (c, s == 5, g, (6, x3.2), []))), c.2.2.1, false, false, c.2.2.2.2.2))))
    (.leaf none))
   (.leaf none))
theorem pFin_6_ev (a : HL pFinTs) : evVal (envX Tryz.prog (pFinL 6) [] 1023 8) Tryz.f116 pFinTs pFinRs a = pFin_6T a.1 a.2.1 a.2.2.1 a.2.2.2 := by kernel_rfl
def pFin_10T (c : TC) (s : Int) (g : List Int) (ln : Bool × Bool × Bool × Bool × Bool × Bool × Bool × Bool × Bool) : RT (Option TC) :=
  let x1 : TC × Bool × List Int × TI × List TY := (c, s == 5, g, (0, 0, 0, 0, 0, 0, 0, 0), [])
  let x2 : Bool := qAtC x1 0
  let x3 : Int × Int × Int × Int × Int × Int × Int × Int := rDecode c.1 (qAt x1 0)
  let x4 : Bool := !x2 || x3.1 == 10
  .br (pInternal s)
  (.leaf (some ((c.1, (rgx c.2.1 c.2.1.2.2.2.2.2.2.2.1 (IntKind.u16.wrap ((spOf c) - 2)) (rVector s)), c.2.2))))
  (.br (!x4 || x2)
   (.br (x4)
    (.leaf (some ((c.1, (rgx c.2.1 c.2.1.2.2.2.2.2.2.2.1 (spOf c) (qBehind (c, s == 5, g, (10, x3.2), []))), c.2.2.1, false, false, c.2.2.2.2.2))))
    (.leaf none))
   (.leaf none))
theorem pFin_10_ev (a : HL pFinTs) : evVal (envX Tryz.prog (pFinL 10) [] 1023 8) Tryz.f116 pFinTs pFinRs a = pFin_10T a.1 a.2.1 a.2.2.1 a.2.2.2 := by kernel_rfl
def pFin_14T (c : TC) (s : Int) (g : List Int) (ln : Bool × Bool × Bool × Bool × Bool × Bool × Bool × Bool × Bool) : RT (Option TC) :=
  let x1 : TC × Bool × List Int × TI × List TY := (c, s == 5, g, (0, 0, 0, 0, 0, 0, 0, 0), [])
  let x2 : Bool := qAtC x1 0
  let x3 : Int × Int × Int × Int × Int × Int × Int × Int := rDecode c.1 (qAt x1 0)
  let x4 : Bool := !x2 || x3.1 == 14
  let x5 : Int × Int × Int × Int × Int × Int × Int := x3.2
  let x6 : Int := x5.2.1
  let x7 : Bool := x6 == 6
  let x8 : TC × Bool × List Int × TI × List TY := (c, s == 5, g, (14, x5), [])
  let x9 : Int × Bool × Bool × Bool × Bool × Bool × Bool × Bool := rInr c.1 (bif x7 then qAt x8 1 else qReg x8 x6) c.2.1.2.2.2.2.2.2.2.1
  .br (pInternal s)
  (.leaf (some ((c.1, (rgx c.2.1 c.2.1.2.2.2.2.2.2.2.1 (IntKind.u16.wrap ((spOf c) - 2)) (rVector s)), c.2.2))))
  (.br (!x4 || x2)
   (.br (x4)
    (.br (!x7 || qAtC x8 1)
     (.leaf (some ((c.1, rSet (rgx c.2.1 x9.2 (spOf c) (qBehind x8)) x6 x9.1, c.2.2.1, false, false, c.2.2.2.2.2))))
     (.leaf none))
    (.leaf none))
   (.leaf none))
theorem pFin_14_ev (a : HL pFinTs) : evVal (envX Tryz.prog (pFinL 14) [] 1023 8) Tryz.f116 pFinTs pFinRs a = pFin_14T a.1 a.2.1 a.2.2.1 a.2.2.2 := by kernel_rfl
def pFin_18T (c : TC) (s : Int) (g : List Int) (ln : Bool × Bool × Bool × Bool × Bool × Bool × Bool × Bool × Bool) : RT (Option TC) :=
  let x1 : TC × Bool × List Int × TI × List TY := (c, s == 5, g, (0, 0, 0, 0, 0, 0, 0, 0), [])
  let x2 : Bool := qAtC x1 0
  let x3 : Int × Int × Int × Int × Int × Int × Int × Int := rDecode c.1 (qAt x1 0)
  let x4 : Bool := !x2 || x3.1 == 18
  let x5 : Int × Int × Int × Int × Int × Int × Int := x3.2
  let x6 : TC × Bool × List Int × TI × List TY := (c, s == 5, g, (18, x5), [])
  let x7 : Int × Bool × Bool × Bool × Bool × Bool × Bool × Bool := rDad c.1 (qPair x6 2) (qPair x6 x5.2.2.2.1) c.2.1.2.2.2.2.2.2.2.1
  .br (pInternal s)
  (.leaf (some ((c.1, (rgx c.2.1 c.2.1.2.2.2.2.2.2.2.1 (IntKind.u16.wrap ((spOf c) - 2)) (rVector s)), c.2.2))))
  (.br (!x4 || x2)
   (.br (x4)
    (.leaf (some ((c.1, rSetPair (rgx c.2.1 x7.2 (spOf c) (qBehind x6)) 2 x7.1, c.2.2.1, false, false, c.2.2.2.2.2))))
    (.leaf none))
   (.leaf none))
theorem pFin_18_ev (a : HL pFinTs) : evVal (envX Tryz.prog (pFinL 18) [] 1023 8) Tryz.f116 pFinTs pFinRs a = pFin_18T a.1 a.2.1 a.2.2.1 a.2.2.2 := by kernel_rfl
def pFin_22T (c : TC) (s : Int) (g : List Int) (ln : Bool × Bool × Bool × Bool × Bool × Bool × Bool × Bool × Bool) : RT (Option TC) :=
  let x1 : TC × Bool × List Int × TI × List TY := (c, s == 5, g, (0, 0, 0, 0, 0, 0, 0, 0), [])
  let x2 : Bool := qAtC x1 0
  let x3 : Int × Int × Int × Int × Int × Int × Int × Int := rDecode c.1 (qAt x1 0)
  let x4 : Bool := !x2 || x3.1 == 22
  let x5 : Bool × Bool × Bool × Bool := c.2.1.2.2.2.2.2.2.2.1.2.2.2
  let x6 : Bool × Bool × Bool := x5.2
  let x7 : Bool × Bool := x6.2
  .br (pInternal s)
  (.leaf (some ((c.1, (rgx c.2.1 c.2.1.2.2.2.2.2.2.2.1 (IntKind.u16.wrap ((spOf c) - 2)) (rVector s)), c.2.2))))
  (.br (!x4 || x2)
   (.br (x4)
    (.leaf (some ((c.1, (rgx c.2.1 ((c.2.1.2.2.2.2.2.2.2.1.1, c.2.1.2.2.2.2.2.2.2.1.2.1, c.2.1.2.2.2.2.2.2.2.1.2.2.1, x5.1, x6.1, x7.1, !x7.2)) (spOf c) (qBehind (c, s == 5, g, (22, x3.2), []))), c.2.2.1, false, false, c.2.2.2.2.2))))
    (.leaf none))
   (.leaf none))
theorem pFin_22_ev (a : HL pFinTs) : evVal (envX Tryz.prog (pFinL 22) [] 1023 8) Tryz.f116 pFinTs pFinRs a = pFin_22T a.1 a.2.1 a.2.2.1 a.2.2.2 := by kernel_rfl
def pFin_26T (c : TC) (s : Int) (g : List Int) (ln : Bool × Bool × Bool × Bool × Bool × Bool × Bool × Bool × Bool) : RT (Option TC) :=
  let x1 : TC × Bool × List Int × TI × List TY := (c, s == 5, g, (0, 0, 0, 0, 0, 0, 0, 0), [])
  let x2 : Bool := qAtC x1 0
  let x3 : Int × Int × Int × Int × Int × Int × Int × Int := rDecode c.1 (qAt x1 0)
  let x4 : Bool := !x2 || x3.1 == 26
  let x5 : TC × Bool × List Int × TI × List TY := (c, s == 5, g, (26, x3.2), [])
  let x6 : Bool := qTaken x5
  .br (pInternal s)
  (.leaf (some ((c.1, (rgx c.2.1 c.2.1.2.2.2.2.2.2.2.1 (IntKind.u16.wrap ((spOf c) - 2)) (rVector s)), c.2.2))))
  (.br (!x4 || x2)
   (.br (x4)
    (.br (!x6 || qJoinC x5 1)
     (.leaf (some ((c.1, (rgx c.2.1 c.2.1.2.2.2.2.2.2.2.1 (bif x6 then IntKind.u16.wrap ((spOf c) + 2) else (spOf c)) (bif x6 then qJoin x5 1 else qBehind x5)), c.2.2.1, false, false, c.2.2.2.2.2))))
     (.leaf none))
    (.leaf none))
   (.leaf none))
theorem pFin_26_ev (a : HL pFinTs) : evVal (envX Tryz.prog (pFinL 26) [] 1023 8) Tryz.f116 pFinTs pFinRs a = pFin_26T a.1 a.2.1 a.2.2.1 a.2.2.2 := by kernel_rfl
def pFin_30T (c : TC) (s : Int) (g : List Int) (ln : Bool × Bool × Bool × Bool × Bool × Bool × Bool × Bool × Bool) : RT (Option TC) :=
  let x1 : Int := IntKind.u16.wrap ((spOf c) - 2)
  let x2 : TC × Bool × List Int × TI × List TY := (c, s == 5, g, (0, 0, 0, 0, 0, 0, 0, 0), [])
  let x3 : Bool := qAtC x2 0
  let x4 : Int × Int × Int × Int × Int × Int × Int × Int := rDecode c.1 (qAt x2 0)
  let x5 : Bool := !x3 || x4.1 == 30
  .br (pInternal s)
  (.leaf (some ((c.1, (rgx c.2.1 c.2.1.2.2.2.2.2.2.2.1 x1 (rVector s)), c.2.2))))
  (.br (!x5 || x3)
   (.br (x5)
    (.leaf (some ((c.1, (rgx c.2.1 c.2.1.2.2.2.2.2.2.2.1 x1 (qBehind (c, s == 5, g, (30, x4.2), []))), c.2.2.1, false, false, c.2.2.2.2.2))))
    (.leaf none))
   (.leaf none))
theorem pFin_30_ev (a : HL pFinTs) : evVal (envX Tryz.prog (pFinL 30) [] 1023 8) Tryz.f116 pFinTs pFinRs a = pFin_30T a.1 a.2.1 a.2.2.1 a.2.2.2 := by kernel_rfl
def pFin_34T (c : TC) (s : Int) (g : List Int) (ln : Bool × Bool × Bool × Bool × Bool × Bool × Bool × Bool × Bool) : RT (Option TC) :=
  let x1 : TC × Bool × List Int × TI × List TY := (c, s == 5, g, (0, 0, 0, 0, 0, 0, 0, 0), [])
  let x2 : Bool := qAtC x1 0
  let x3 : Int × Int × Int × Int × Int × Int × Int × Int := rDecode c.1 (qAt x1 0)
  let x4 : Bool := !x2 || x3.1 == 34
  .br (pInternal s)
  (.leaf (some ((c.1, (rgx c.2.1 c.2.1.2.2.2.2.2.2.2.1 (IntKind.u16.wrap ((spOf c) - 2)) (rVector s)), c.2.2))))
  (.br (!x4 || x2)
   (.br (x4)
    (.leaf (some ((c.1, (rgx c.2.1 c.2.1.2.2.2.2.2.2.2.1 (spOf c) (qBehind (c, s == 5, g, (34, x3.2), []))), c.2.2.1, false, false, c.2.2.2.2.2))))
    (.leaf none))
   (.leaf none))
theorem pFin_34_ev (a : HL pFinTs) : evVal (envX Tryz.prog (pFinL 34) [] 1023 8) Tryz.f116 pFinTs pFinRs a = pFin_34T a.1 a.2.1 a.2.2.1 a.2.2.2 := by kernel_rfl
def pFin_38T (c : TC) (s : Int) (g : List Int) (ln : Bool × Bool × Bool × Bool × Bool × Bool × Bool × Bool × Bool) : RT (Option TC) :=
  let x1 : TC × Bool × List Int × TI × List TY := (c, s == 5, g, (0, 0, 0, 0, 0, 0, 0, 0), [])
  let x2 : Bool := qAtC x1 0
  let x3 : Int × Int × Int × Int × Int × Int × Int × Int := rDecode c.1 (qAt x1 0)
  let x4 : Bool := !x2 || x3.1 == 38
  let x5 : Int × TC := rRim (c.1, (rgx c.2.1 c.2.1.2.2.2.2.2.2.2.1 (spOf c) (qBehind (c, s == 5, g, (38, x3.2), []))), c.2.2.1, 38 == 35, 38 == 37, c.2.2.2.2.2) ln
  let x6 : TC := x5.2
  let x7 : TR × Bool × Bool × Bool × Int × Bool × Bool × Bool × Bool × Bool × Bool × Bool := x6.2
  let x8 : Bool × Bool × Bool × Int × Bool × Bool × Bool × Bool × Bool × Bool × Bool := x7.2
  let x9 : Int × Bool × Bool × Bool × Bool × Bool × Bool × Bool := x8.2.2.2
  let x10 : TF := x9.2
  let x11 : Bool × Bool × Bool × Bool × Bool × Bool := x10.2
  let x12 : Bool × Bool × Bool × Bool × Bool := x11.2
  let x13 : Bool × Bool × Bool × Bool := x12.2
  .br (pInternal s)
  (.leaf (some ((c.1, (rgx c.2.1 c.2.1.2.2.2.2.2.2.2.1 (IntKind.u16.wrap ((spOf c) - 2)) (rVector s)), c.2.2))))
  (.br (!x4 || x2)
   (.br (x4)
    (.leaf (some ((x6.1, (x5.1, x7.1.2), x8.1, false, false, x9.1, x10.1, x11.1, x12.1, x13.1, false, false, x13.2.2.2))))
    (.leaf none))
   (.leaf none))
theorem pFin_38_ev (a : HL pFinTs) : evVal (envX Tryz.prog (pFinL 38) [] 1023 8) Tryz.f116 pFinTs pFinRs a = pFin_38T a.1 a.2.1 a.2.2.1 a.2.2.2 := by kernel_rfl
def pFin_42T (c : TC) (s : Int) (g : List Int) (ln : Bool × Bool × Bool × Bool × Bool × Bool × Bool × Bool × Bool) : RT (Option TC) :=
  let x1 : TC × Bool × List Int × TI × List TY := (c, s == 5, g, (0, 0, 0, 0, 0, 0, 0, 0), [])
  let x2 : Bool := qAtC x1 0
  let x3 : Int × Int × Int × Int × Int × Int × Int × Int := rDecode c.1 (qAt x1 0)
  let x4 : Bool := !x2 || x3.1 == 42
  let x5 : Bool × Bool × Bool × Bool := c.2.1.2.2.2.2.2.2.2.1.2.2.2
  let x6 : Bool × Bool × Bool := x5.2
  let x7 : TC × Bool × List Int × TI × List TY := (c, s == 5, g, (42, x3.2), [])
  let x8 : Int × Bool × Bool := rRdel (qPair x7 1) x6.2.2
  let x9 : Bool × Bool := x8.2
  .br (pInternal s)
  (.leaf (some ((c.1, (rgx c.2.1 c.2.1.2.2.2.2.2.2.2.1 (IntKind.u16.wrap ((spOf c) - 2)) (rVector s)), c.2.2))))
  (.br (!x4 || x2)
   (.br (x4)
    (.leaf (some ((c.1, rSetPair (rgx c.2.1 ((c.2.1.2.2.2.2.2.2.2.1.1, c.2.1.2.2.2.2.2.2.2.1.2.1, c.2.1.2.2.2.2.2.2.2.1.2.2.1, x5.1, x6.1, x9.2, x9.1)) (spOf c) (qBehind x7)) 1 x8.1, c.2.2.1, false, false, c.2.2.2.2.2))))
    (.leaf none))
   (.leaf none))
theorem pFin_42_ev (a : HL pFinTs) : evVal (envX Tryz.prog (pFinL 42) [] 1023 8) Tryz.f116 pFinTs pFinRs a = pFin_42T a.1 a.2.1 a.2.2.1 a.2.2.2 := by kernel_rfl
def pFin_46T (c : TC) (s : Int) (g : List Int) (ln : Bool × Bool × Bool × Bool × Bool × Bool × Bool × Bool × Bool) : RT (Option TC) :=
  let x1 : TC × Bool × List Int × TI × List TY := (c, s == 5, g, (0, 0, 0, 0, 0, 0, 0, 0), [])
  let x2 : Bool := qAtC x1 0
  let x3 : Int × Int × Int × Int × Int × Int × Int × Int := rDecode c.1 (qAt x1 0)
  let x4 : Bool := !x2 || x3.1 == 46
  .br (pInternal s)
  (.leaf (some ((c.1, (rgx c.2.1 c.2.1.2.2.2.2.2.2.2.1 (IntKind.u16.wrap ((spOf c) - 2)) (rVector s)), c.2.2))))
  (.br (!x4 || x2)
   (.br (x4)
    (.leaf (some ((c.1, (rgx c.2.1 c.2.1.2.2.2.2.2.2.2.1 (spOf c) (qBehind (c, s == 5, g, (46, x3.2), []))), c.2.2.1, false, false, c.2.2.2.2.2))))
    (.leaf none))
   (.leaf none))
theorem pFin_46_ev (a : HL pFinTs) : evVal (envX Tryz.prog (pFinL 46) [] 1023 8) Tryz.f116 pFinTs pFinRs a = pFin_46T a.1 a.2.1 a.2.2.1 a.2.2.2 := by kernel_rfl
end
end Go.Proofs.YtpkijkmagnhciaaGreat
set_option linter.unusedSimpArgs false
open Go Go.S3 Go.Proofs
set_option linter.unusedVariables false
set_option maxRecDepth 100000
namespace Go.Proofs.YtpkijkmagnhciaaGreat
noncomputable section
def pFin_3T (c : TC) (s : Int) (g : List Int) (ln : Bool × Bool × Bool × Bool × Bool × Bool × Bool × Bool × Bool) : RT (Option TC) :=
  let x1 : TC × Bool × List Int × TI × List TY := (c, s == 5, g, (0, 0, 0, 0, 0, 0, 0, 0), [])
  let x2 : Bool := qAtC x1 0
  let x3 : Int × Int × Int × Int × Int × Int × Int × Int := rDecode c.1 (qAt x1 0)
  let x4 : Bool := !x2 || x3.1 == 3
  let x5 : Int × Int × Int × Int × Int × Int × Int := x3.2
  let x6 : TC × Bool × List Int × TI × List TY := (c, s == 5, g, (3, x5), [])
  .br (pInternal s)
  (.leaf (some ((c.1, (rgx c.2.1 c.2.1.2.2.2.2.2.2.2.1 (IntKind.u16.wrap ((spOf c) - 2)) (rVector s)), c.2.2))))
  (.br (!x4 || x2)
   (.br (x4)
    (.br (qAtC x6 1)
     (.leaf (some ((c.1, rSet (rgx c.2.1 c.2.1.2.2.2.2.2.2.2.1 (spOf c) (qBehind x6)) x5.2.1 (qAt x6 1), c.2.2.1, false, false, c.2.2.2.2.2))))
     (.leaf none))
    (.leaf none))
   (.leaf none))
theorem pFin_3_ev (a : HL pFinTs) : evVal (envX Tryz.prog (pFinL 3) [] 1023 8) Tryz.f116 pFinTs pFinRs a = pFin_3T a.1 a.2.1 a.2.2.1 a.2.2.2 := by kernel_rfl
def pFin_7T (c : TC) (s : Int) (g : List Int) (ln : Bool × Bool × Bool × Bool × Bool × Bool × Bool × Bool × Bool) : RT (Option TC) :=
  let x1 : TC × Bool × List Int × TI × List TY := (c, s == 5, g, (0, 0, 0, 0, 0, 0, 0, 0), [])
  let x2 : Bool := qAtC x1 0
  let x3 : Int × Int × Int × Int × Int × Int × Int × Int := rDecode c.1 (qAt x1 0)
  let x4 : Bool := !x2 || x3.1 == 7
  let x5 : TC × Bool × List Int × TI × List TY := (c, s == 5, g, (7, x3.2), [])
  .br (pInternal s)
  (.leaf (some ((c.1, (rgx c.2.1 c.2.1.2.2.2.2.2.2.2.1 (IntKind.u16.wrap ((spOf c) - 2)) (rVector s)), c.2.2))))
  (.br (!x4 || x2)
   (.br (x4)
    (.br (qJoinC x5 3)
     (.leaf (some ((c.1, rSetPair (rgx c.2.1 c.2.1.2.2.2.2.2.2.2.1 (spOf c) (qBehind x5)) 2 (qJoin x5 3), c.2.2.1, false, false, c.2.2.2.2.2))))
     (.leaf none))
    (.leaf none))
   (.leaf none))
theorem pFin_7_ev (a : HL pFinTs) : evVal (envX Tryz.prog (pFinL 7) [] 1023 8) Tryz.f116 pFinTs pFinRs a = pFin_7T a.1 a.2.1 a.2.2.1 a.2.2.2 := by kernel_rfl
def pFin_11T (c : TC) (s : Int) (g : List Int) (ln : Bool × Bool × Bool × Bool × Bool × Bool × Bool × Bool × Bool) : RT (Option TC) :=
  let x1 : TC × Bool × List Int × TI × List TY := (c, s == 5, g, (0, 0, 0, 0, 0, 0, 0, 0), [])
  let x2 : Bool := qAtC x1 0
  let x3 : Int × Int × Int × Int × Int × Int × Int × Int := rDecode c.1 (qAt x1 0)
  let x4 : Bool := !x2 || x3.1 == 11
  .br (pInternal s)
  (.leaf (some ((c.1, (rgx c.2.1 c.2.1.2.2.2.2.2.2.2.1 (IntKind.u16.wrap ((spOf c) - 2)) (rVector s)), c.2.2))))
  (.br (!x4 || x2)
   (.br (x4)
    (.leaf (some ((c.1, (c.2.1.1, c.2.1.2.1, c.2.1.2.2.1, c.2.1.2.2.2.2.2.1, c.2.1.2.2.2.2.2.2.1, c.2.1.2.2.2.1, c.2.1.2.2.2.2.1, c.2.1.2.2.2.2.2.2.2.1, spOf c, qBehind (c, s == 5, g, (11, x3.2), [])), c.2.2.1, false, false, c.2.2.2.2.2))))
    (.leaf none))
   (.leaf none))
theorem pFin_11_ev (a : HL pFinTs) : evVal (envX Tryz.prog (pFinL 11) [] 1023 8) Tryz.f116 pFinTs pFinRs a = pFin_11T a.1 a.2.1 a.2.2.1 a.2.2.2 := by kernel_rfl
def pFin_15T (c : TC) (s : Int) (g : List Int) (ln : Bool × Bool × Bool × Bool × Bool × Bool × Bool × Bool × Bool) : RT (Option TC) :=
  let x1 : TC × Bool × List Int × TI × List TY := (c, s == 5, g, (0, 0, 0, 0, 0, 0, 0, 0), [])
  let x2 : Bool := qAtC x1 0
  let x3 : Int × Int × Int × Int × Int × Int × Int × Int := rDecode c.1 (qAt x1 0)
  let x4 : Bool := !x2 || x3.1 == 15
  let x5 : Int × Int × Int × Int × Int × Int × Int := x3.2
  let x6 : Int := x5.2.1
  let x7 : Bool := x6 == 6
  let x8 : TC × Bool × List Int × TI × List TY := (c, s == 5, g, (15, x5), [])
  let x9 : Int × Bool × Bool × Bool × Bool × Bool × Bool × Bool := rDcr c.1 (bif x7 then qAt x8 1 else qReg x8 x6) c.2.1.2.2.2.2.2.2.2.1
  .br (pInternal s)
  (.leaf (some ((c.1, (rgx c.2.1 c.2.1.2.2.2.2.2.2.2.1 (IntKind.u16.wrap ((spOf c) - 2)) (rVector s)), c.2.2))))
  (.br (!x4 || x2)
   (.br (x4)
    (.br (!x7 || qAtC x8 1)
     (.leaf (some ((c.1, rSet (rgx c.2.1 x9.2 (spOf c) (qBehind x8)) x6 x9.1, c.2.2.1, false, false, c.2.2.2.2.2))))
     (.leaf none))
    (.leaf none))
   (.leaf none))
theorem pFin_15_ev (a : HL pFinTs) : evVal (envX Tryz.prog (pFinL 15) [] 1023 8) Tryz.f116 pFinTs pFinRs a = pFin_15T a.1 a.2.1 a.2.2.1 a.2.2.2 := by kernel_rfl
def pFin_19T (c : TC) (s : Int) (g : List Int) (ln : Bool × Bool × Bool × Bool × Bool × Bool × Bool × Bool × Bool) : RT (Option TC) :=
  let x1 : TC × Bool × List Int × TI × List TY := (c, s == 5, g, (0, 0, 0, 0, 0, 0, 0, 0), [])
  let x2 : Bool := qAtC x1 0
  let x3 : Int × Int × Int × Int × Int × Int × Int × Int := rDecode c.1 (qAt x1 0)
  let x4 : Bool := !x2 || x3.1 == 19
  let x5 : Int × Bool × Bool × Bool × Bool × Bool × Bool × Bool := rDaa c.1 c.2.1.1 c.2.1.2.2.2.2.2.2.2.1
  .br (pInternal s)
  (.leaf (some ((c.1, (rgx c.2.1 c.2.1.2.2.2.2.2.2.2.1 (IntKind.u16.wrap ((spOf c) - 2)) (rVector s)), c.2.2))))
  (.br (!x4 || x2)
   (.br (x4)
    (.leaf (some ((c.1, (x5.1, c.2.1.2.1, c.2.1.2.2.1, c.2.1.2.2.2.1, c.2.1.2.2.2.2.1, c.2.1.2.2.2.2.2.1, c.2.1.2.2.2.2.2.2.1, x5.2, spOf c, qBehind (c, s == 5, g, (19, x3.2), [])), c.2.2.1, false, false, c.2.2.2.2.2))))
    (.leaf none))
   (.leaf none))
theorem pFin_19_ev (a : HL pFinTs) : evVal (envX Tryz.prog (pFinL 19) [] 1023 8) Tryz.f116 pFinTs pFinRs a = pFin_19T a.1 a.2.1 a.2.2.1 a.2.2.2 := by kernel_rfl
def pFin_23T (c : TC) (s : Int) (g : List Int) (ln : Bool × Bool × Bool × Bool × Bool × Bool × Bool × Bool × Bool) : RT (Option TC) :=
  let x1 : TC × Bool × List Int × TI × List TY := (c, s == 5, g, (0, 0, 0, 0, 0, 0, 0, 0), [])
  let x2 : Bool := qAtC x1 0
  let x3 : Int × Int × Int × Int × Int × Int × Int × Int := rDecode c.1 (qAt x1 0)
  let x4 : Bool := !x2 || x3.1 == 23
  let x5 : Int × Int × Int × Int × Int × Int × Int := x3.2
  let x6 : Bool × Bool × Bool × Bool := c.2.1.2.2.2.2.2.2.2.1.2.2.2
  let x7 : Bool × Bool × Bool := x6.2
  let x8 : Bool × Bool := x7.2
  let x9 : Int × Bool := rRot x5.2.2.2.2.1 c.2.1.1 x8.2
  .br (pInternal s)
  (.leaf (some ((c.1, (rgx c.2.1 c.2.1.2.2.2.2.2.2.2.1 (IntKind.u16.wrap ((spOf c) - 2)) (rVector s)), c.2.2))))
  (.br (!x4 || x2)
   (.br (x4)
    (.leaf (some ((c.1, (x9.1, c.2.1.2.1, c.2.1.2.2.1, c.2.1.2.2.2.1, c.2.1.2.2.2.2.1, c.2.1.2.2.2.2.2.1, c.2.1.2.2.2.2.2.2.1, (c.2.1.2.2.2.2.2.2.2.1.1, c.2.1.2.2.2.2.2.2.2.1.2.1, c.2.1.2.2.2.2.2.2.2.1.2.2.1, x6.1, x7.1, x8.1, x9.2), spOf c, qBehind (c, s == 5, g, (23, x5), [])), c.2.2.1, false, false, c.2.2.2.2.2))))
    (.leaf none))
   (.leaf none))
theorem pFin_23_ev (a : HL pFinTs) : evVal (envX Tryz.prog (pFinL 23) [] 1023 8) Tryz.f116 pFinTs pFinRs a = pFin_23T a.1 a.2.1 a.2.2.1 a.2.2.2 := by kernel_rfl
def pFin_27T (c : TC) (s : Int) (g : List Int) (ln : Bool × Bool × Bool × Bool × Bool × Bool × Bool × Bool × Bool) : RT (Option TC) :=
  let x1 : Int := IntKind.u16.wrap ((spOf c) - 2)
  let x2 : TC × Bool × List Int × TI × List TY := (c, s == 5, g, (0, 0, 0, 0, 0, 0, 0, 0), [])
  let x3 : Bool := qAtC x2 0
  let x4 : Int × Int × Int × Int × Int × Int × Int × Int := rDecode c.1 (qAt x2 0)
  let x5 : Bool := !x3 || x4.1 == 27
  .br (pInternal s)
  (.leaf (some ((c.1, (rgx c.2.1 c.2.1.2.2.2.2.2.2.2.1 x1 (rVector s)), c.2.2))))
  (.br (!x5 || x3)
   (.br (x5)
    (.leaf (some ((c.1, (rgx c.2.1 c.2.1.2.2.2.2.2.2.2.1 x1 (IntKind.u16.wrap (IntKind.i64.wrap (8 * x4.2.2.2.2.2.2.2)))), c.2.2.1, false, false, c.2.2.2.2.2))))
    (.leaf none))
   (.leaf none))
theorem pFin_27_ev (a : HL pFinTs) : evVal (envX Tryz.prog (pFinL 27) [] 1023 8) Tryz.f116 pFinTs pFinRs a = pFin_27T a.1 a.2.1 a.2.2.1 a.2.2.2 := by kernel_rfl
def pFin_31T (c : TC) (s : Int) (g : List Int) (ln : Bool × Bool × Bool × Bool × Bool × Bool × Bool × Bool × Bool) : RT (Option TC) :=
  let x1 : TC × Bool × List Int × TI × List TY := (c, s == 5, g, (0, 0, 0, 0, 0, 0, 0, 0), [])
  let x2 : Bool := qAtC x1 0
  let x3 : Int × Int × Int × Int × Int × Int × Int × Int := rDecode c.1 (qAt x1 0)
  let x4 : Bool := !x2 || x3.1 == 31
  let x5 : Int × Int × Int × Int × Int × Int × Int := x3.2
  let x6 : Int := x5.2.2.2.1
  let x7 : Bool := x6 == 3
  let x8 : TC × Bool × List Int × TI × List TY := (c, s == 5, g, (31, x5), [])
  let x9 : Bool := qJoinC x8 1
  let x10 : Bool := !x7 || x9
  let x11 : Bool := !x10 || (x7 || x9)
  let x12 : Bool := !x11 || x10
  let x13 : Bool := !x12 || x11
  let x14 : TR := (rgx c.2.1 c.2.1.2.2.2.2.2.2.2.1 (spOf c) (qBehind x8))
  let x15 : Int := qJoin x8 1
  let x16 : TR := rSetPSW c.1 x14 x15
  let x17 : TR := rSetPair x14 x6 x15
  let x18 : Int × Int × Int × Int × Int × Int × TF × Int × Int := x16.2
  let x19 : Int × Int × Int × Int × Int × Int × TF × Int × Int := x17.2
  let x20 : Int × Int × Int × Int × Int × TF × Int × Int := x18.2
  let x21 : Int × Int × Int × Int × Int × TF × Int × Int := x19.2
  let x22 : Int × Int × Int × Int × TF × Int × Int := x20.2
  let x23 : Int × Int × Int × Int × TF × Int × Int := x21.2
  let x24 : Int × Int × Int × TF × Int × Int := x22.2
  let x25 : Int × Int × Int × TF × Int × Int := x23.2
  let x26 : Int × Int × TF × Int × Int := x24.2
  let x27 : Int × Int × TF × Int × Int := x25.2
  let x28 : Int × TF × Int × Int := x26.2
  let x29 : Int × TF × Int × Int := x27.2
  let x30 : TF × Int × Int := x28.2
  let x31 : TF := x30.1
  let x32 : TF × Int × Int := x29.2
  let x33 : TF := x32.1
  let x34 : Bool × Bool × Bool × Bool × Bool × Bool := x31.2
  let x35 : Bool × Bool × Bool × Bool × Bool × Bool := x33.2
  let x36 : Bool × Bool × Bool × Bool × Bool := x34.2
  let x37 : Bool × Bool × Bool × Bool × Bool := x35.2
  let x38 : Bool × Bool × Bool × Bool := x36.2
  let x39 : Bool × Bool × Bool × Bool := x37.2
  let x40 : Bool × Bool × Bool := x38.2
  let x41 : Bool × Bool × Bool := x39.2
  let x42 : Bool × Bool := x40.2
  let x43 : Bool × Bool := x41.2
  let x44 : Int × Int := x30.2
  let x45 : Int × Int := x32.2
  .br (pInternal s)
  (.leaf (some ((c.1, (rgx c.2.1 c.2.1.2.2.2.2.2.2.2.1 (IntKind.u16.wrap ((spOf c) - 2)) (rVector s)), c.2.2))))
  (.br (!x4 || x2)
   (.br (x4)
    (.br (!x13 || x12)
     (.br (x13)
      (.leaf (some ((c.1, (bif x7 then x16.1 else x17.1, bif x7 then x18.1 else x19.1, bif x7 then x20.1 else x21.1, bif x7 then x22.1 else x23.1, bif x7 then x24.1 else x25.1, bif x7 then x26.1 else x27.1, bif x7 then x28.1 else x29.1, (bif x7 then x31.1 else x33.1, bif x7 then x34.1 else x35.1, bif x7 then x36.1 else x37.1, bif x7 then x38.1 else x39.1, bif x7 then x40.1 else x41.1, bif x7 then x42.1 else x43.1, bif x7 then x42.2 else x43.2), IntKind.u16.wrap ((bif x7 then x44.1 else x45.1) + 2), bif x7 then x44.2 else x45.2), c.2.2.1, false, false, c.2.2.2.2.2))))
      (.leaf none))
     (.leaf none))
    (.leaf none))
   (.leaf none))
theorem pFin_31_ev (a : HL pFinTs) : evVal (envX Tryz.prog (pFinL 31) [] 1023 8) Tryz.f116 pFinTs pFinRs a = pFin_31T a.1 a.2.1 a.2.2.1 a.2.2.2 := by kernel_rfl
def pFin_35T (c : TC) (s : Int) (g : List Int) (ln : Bool × Bool × Bool × Bool × Bool × Bool × Bool × Bool × Bool) : RT (Option TC) :=
  let x1 : TC × Bool × List Int × TI × List TY := (c, s == 5, g, (0, 0, 0, 0, 0, 0, 0, 0), [])
  let x2 : Bool := qAtC x1 0
  let x3 : Int × Int × Int × Int × Int × Int × Int × Int := rDecode c.1 (qAt x1 0)
  let x4 : Bool := !x2 || x3.1 == 35
  .br (pInternal s)
  (.leaf (some ((c.1, (rgx c.2.1 c.2.1.2.2.2.2.2.2.2.1 (IntKind.u16.wrap ((spOf c) - 2)) (rVector s)), c.2.2))))
  (.br (!x4 || x2)
   (.br (x4)
    (.leaf (some ((c.1, (rgx c.2.1 c.2.1.2.2.2.2.2.2.2.1 (spOf c) (qBehind (c, s == 5, g, (35, x3.2), []))), true, true, false, c.2.2.2.2.2))))
    (.leaf none))
   (.leaf none))
theorem pFin_35_ev (a : HL pFinTs) : evVal (envX Tryz.prog (pFinL 35) [] 1023 8) Tryz.f116 pFinTs pFinRs a = pFin_35T a.1 a.2.1 a.2.2.1 a.2.2.2 := by kernel_rfl
def pFin_39T (c : TC) (s : Int) (g : List Int) (ln : Bool × Bool × Bool × Bool × Bool × Bool × Bool × Bool × Bool) : RT (Option TC) :=
  let x1 : TC × Bool × List Int × TI × List TY := (c, s == 5, g, (0, 0, 0, 0, 0, 0, 0, 0), [])
  let x2 : Bool := qAtC x1 0
  let x3 : Int × Int × Int × Int × Int × Int × Int × Int := rDecode c.1 (qAt x1 0)
  let x4 : Bool := !x2 || x3.1 == 39
  let x5 : TC := rSim (c.1, (rgx c.2.1 c.2.1.2.2.2.2.2.2.2.1 (spOf c) (qBehind (c, s == 5, g, (39, x3.2), []))), c.2.2.1, 39 == 35, 39 == 37, c.2.2.2.2.2) c.2.1.1
  let x6 : TR × Bool × Bool × Bool × Int × Bool × Bool × Bool × Bool × Bool × Bool × Bool := x5.2
  let x7 : Bool × Bool × Bool × Int × Bool × Bool × Bool × Bool × Bool × Bool × Bool := x6.2
  .br (pInternal s)
  (.leaf (some ((c.1, (rgx c.2.1 c.2.1.2.2.2.2.2.2.2.1 (IntKind.u16.wrap ((spOf c) - 2)) (rVector s)), c.2.2))))
  (.br (!x4 || x2)
   (.br (x4)
    (.leaf (some ((x5.1, x6.1, x7.1, false, false, x7.2.2.2))))
    (.leaf none))
   (.leaf none))
theorem pFin_39_ev (a : HL pFinTs) : evVal (envX Tryz.prog (pFinL 39) [] 1023 8) Tryz.f116 pFinTs pFinRs a = pFin_39T a.1 a.2.1 a.2.2.1 a.2.2.2 := by kernel_rfl
def pFin_43T (c : TC) (s : Int) (g : List Int) (ln : Bool × Bool × Bool × Bool × Bool × Bool × Bool × Bool × Bool) : RT (Option TC) :=
  let x1 : TC × Bool × List Int × TI × List TY := (c, s == 5, g, (0, 0, 0, 0, 0, 0, 0, 0), [])
  let x2 : Bool := qAtC x1 0
  let x3 : Int × Int × Int × Int × Int × Int × Int × Int := rDecode c.1 (qAt x1 0)
  let x4 : Bool := !x2 || x3.1 == 43
  let x5 : TC × Bool × List Int × TI × List TY := (c, s == 5, g, (43, x3.2), [])
  .br (pInternal s)
  (.leaf (some ((c.1, (rgx c.2.1 c.2.1.2.2.2.2.2.2.2.1 (IntKind.u16.wrap ((spOf c) - 2)) (rVector s)), c.2.2))))
  (.br (!x4 || x2)
   (.br (x4)
    (.br (qAtC x5 1)
     (.leaf (some ((c.1, rSetPair (rgx c.2.1 c.2.1.2.2.2.2.2.2.2.1 (spOf c) (qBehind x5)) 1 (IntKind.u16.wrap (qPair x5 2 + IntKind.u16.wrap (qAt x5 1))), c.2.2.1, false, false, c.2.2.2.2.2))))
     (.leaf none))
    (.leaf none))
   (.leaf none))
theorem pFin_43_ev (a : HL pFinTs) : evVal (envX Tryz.prog (pFinL 43) [] 1023 8) Tryz.f116 pFinTs pFinRs a = pFin_43T a.1 a.2.1 a.2.2.1 a.2.2.2 := by kernel_rfl
def pFin_47T (c : TC) (s : Int) (g : List Int) (ln : Bool × Bool × Bool × Bool × Bool × Bool × Bool × Bool × Bool) : RT (Option TC) :=
  let x1 : TC × Bool × List Int × TI × List TY := (c, s == 5, g, (0, 0, 0, 0, 0, 0, 0, 0), [])
  let x2 : Bool := qAtC x1 0
  let x3 : Int × Int × Int × Int × Int × Int × Int × Int := rDecode c.1 (qAt x1 0)
  let x4 : Bool := !x2 || x3.1 == 47
  let x5 : TC × Bool × List Int × TI × List TY := (c, s == 5, g, (47, x3.2), [])
  .br (pInternal s)
  (.leaf (some ((c.1, (rgx c.2.1 c.2.1.2.2.2.2.2.2.2.1 (IntKind.u16.wrap ((spOf c) - 2)) (rVector s)), c.2.2))))
  (.br (!x4 || x2)
   (.br (x4)
    (.br (qJoinC x5 1)
     (.leaf (some ((c.1, rSetPair (rgx c.2.1 c.2.1.2.2.2.2.2.2.2.1 (spOf c) (qBehind x5)) 2 (qJoin x5 1), c.2.2.1, false, false, c.2.2.2.2.2))))
     (.leaf none))
    (.leaf none))
   (.leaf none))
theorem pFin_47_ev (a : HL pFinTs) : evVal (envX Tryz.prog (pFinL 47) [] 1023 8) Tryz.f116 pFinTs pFinRs a = pFin_47T a.1 a.2.1 a.2.2.1 a.2.2.2 := by kernel_rfl
end
end Go.Proofs.YtpkijkmagnhciaaGreat
set_option linter.unusedSimpArgs false
open Go Go.S3 Go.Proofs
set_option linter.unusedVariables false
set_option maxRecDepth 100000
namespace Go.Proofs.YtpkijkmagnhciaaGreat
noncomputable section
def pFin_4T (c : TC) (s : Int) (g : List Int) (ln : Bool × Bool × Bool × Bool × Bool × Bool × Bool × Bool × Bool) : RT (Option TC) :=
  let x1 : TC × Bool × List Int × TI × List TY := (c, s == 5, g, (0, 0, 0, 0, 0, 0, 0, 0), [])
  let x2 : Bool := qAtC x1 0
  let x3 : Int × Int × Int × Int × Int × Int × Int × Int := rDecode c.1 (qAt x1 0)
  let x4 : Bool := !x2 || x3.1 == 4
  let x5 : Int × Int × Int × Int × Int × Int × Int := x3.2
  let x6 : TC × Bool × List Int × TI × List TY := (c, s == 5, g, (4, x5), [])
  .br (pInternal s)
  (.leaf (some ((c.1, (rgx c.2.1 c.2.1.2.2.2.2.2.2.2.1 (IntKind.u16.wrap ((spOf c) - 2)) (rVector s)), c.2.2))))
  (.br (!x4 || x2)
   (.br (x4)
    (.br (qJoinC x6 1)
     (.leaf (some ((c.1, rSetPair (rgx c.2.1 c.2.1.2.2.2.2.2.2.2.1 (spOf c) (qBehind x6)) x5.2.2.2.1 (qJoin x6 1), c.2.2.1, false, false, c.2.2.2.2.2))))
     (.leaf none))
    (.leaf none))
   (.leaf none))
theorem pFin_4_ev (a : HL pFinTs) : evVal (envX Tryz.prog (pFinL 4) [] 1023 8) Tryz.f116 pFinTs pFinRs a = pFin_4T a.1 a.2.1 a.2.2.1 a.2.2.2 := by kernel_rfl
def pFin_8T (c : TC) (s : Int) (g : List Int) (ln : Bool × Bool × Bool × Bool × Bool × Bool × Bool × Bool × Bool) : RT (Option TC) :=
  let x1 : TC × Bool × List Int × TI × List TY := (c, s == 5, g, (0, 0, 0, 0, 0, 0, 0, 0), [])
  let x2 : Bool := qAtC x1 0
  let x3 : Int × Int × Int × Int × Int × Int × Int × Int := rDecode c.1 (qAt x1 0)
  let x4 : Bool := !x2 || x3.1 == 8
  .br (pInternal s)
  (.leaf (some ((c.1, (rgx c.2.1 c.2.1.2.2.2.2.2.2.2.1 (IntKind.u16.wrap ((spOf c) - 2)) (rVector s)), c.2.2))))
  (.br (!x4 || x2)
   (.br (x4)
    (.leaf (some ((c.1, (rgx c.2.1 c.2.1.2.2.2.2.2.2.2.1 (spOf c) (qBehind (c, s == 5, g, (8, x3.2), []))), c.2.2.1, false, false, c.2.2.2.2.2))))
    (.leaf none))
   (.leaf none))
theorem pFin_8_ev (a : HL pFinTs) : evVal (envX Tryz.prog (pFinL 8) [] 1023 8) Tryz.f116 pFinTs pFinRs a = pFin_8T a.1 a.2.1 a.2.2.1 a.2.2.2 := by kernel_rfl
def pFin_12T (c : TC) (s : Int) (g : List Int) (ln : Bool × Bool × Bool × Bool × Bool × Bool × Bool × Bool × Bool) : RT (Option TC) :=
  let x1 : TC × Bool × List Int × TI × List TY := (c, s == 5, g, (0, 0, 0, 0, 0, 0, 0, 0), [])
  let x2 : Bool := qAtC x1 0
  let x3 : Int × Int × Int × Int × Int × Int × Int × Int := rDecode c.1 (qAt x1 0)
  let x4 : Bool := !x2 || x3.1 == 12
  let x5 : Int × Int × Int × Int × Int × Int × Int := x3.2
  let x6 : TC × Bool × List Int × TI × List TY := (c, s == 5, g, (12, x5), [])
  let x7 : Int × Bool × Bool × Bool × Bool × Bool × Bool × Bool := rDo c.1 x5.2.2.2.2.1 c.2.1.1 (qOperand x6) c.2.1.2.2.2.2.2.2.2.1
  .br (pInternal s)
  (.leaf (some ((c.1, (rgx c.2.1 c.2.1.2.2.2.2.2.2.2.1 (IntKind.u16.wrap ((spOf c) - 2)) (rVector s)), c.2.2))))
  (.br (!x4 || x2)
   (.br (x4)
    (.br (qOperandC x6)
     (.leaf (some ((c.1, (x7.1, c.2.1.2.1, c.2.1.2.2.1, c.2.1.2.2.2.1, c.2.1.2.2.2.2.1, c.2.1.2.2.2.2.2.1, c.2.1.2.2.2.2.2.2.1, x7.2, spOf c, qBehind x6), c.2.2.1, false, false, c.2.2.2.2.2))))
     (.leaf none))
    (.leaf none))
   (.leaf none))
theorem pFin_12_ev (a : HL pFinTs) : evVal (envX Tryz.prog (pFinL 12) [] 1023 8) Tryz.f116 pFinTs pFinRs a = pFin_12T a.1 a.2.1 a.2.2.1 a.2.2.2 := by kernel_rfl
def pFin_16T (c : TC) (s : Int) (g : List Int) (ln : Bool × Bool × Bool × Bool × Bool × Bool × Bool × Bool × Bool) : RT (Option TC) :=
  let x1 : TC × Bool × List Int × TI × List TY := (c, s == 5, g, (0, 0, 0, 0, 0, 0, 0, 0), [])
  let x2 : Bool := qAtC x1 0
  let x3 : Int × Int × Int × Int × Int × Int × Int × Int := rDecode c.1 (qAt x1 0)
  let x4 : Bool := !x2 || x3.1 == 16
  let x5 : Int × Int × Int × Int × Int × Int × Int := x3.2
  let x6 : TC × Bool × List Int × TI × List TY := (c, s == 5, g, (16, x5), [])
  let x7 : Int := x5.2.2.2.1
  let x8 : Int × Bool × Bool × Bool × Bool × Bool × Bool × Bool := rInx c.1 (qPair x6 x7) c.2.1.2.2.2.2.2.2.2.1
  .br (pInternal s)
  (.leaf (some ((c.1, (rgx c.2.1 c.2.1.2.2.2.2.2.2.2.1 (IntKind.u16.wrap ((spOf c) - 2)) (rVector s)), c.2.2))))
  (.br (!x4 || x2)
   (.br (x4)
    (.leaf (some ((c.1, rSetPair (rgx c.2.1 x8.2 (spOf c) (qBehind x6)) x7 x8.1, c.2.2.1, false, false, c.2.2.2.2.2))))
    (.leaf none))
   (.leaf none))
theorem pFin_16_ev (a : HL pFinTs) : evVal (envX Tryz.prog (pFinL 16) [] 1023 8) Tryz.f116 pFinTs pFinRs a = pFin_16T a.1 a.2.1 a.2.2.1 a.2.2.2 := by kernel_rfl
def pFin_20T (c : TC) (s : Int) (g : List Int) (ln : Bool × Bool × Bool × Bool × Bool × Bool × Bool × Bool × Bool) : RT (Option TC) :=
  let x1 : TC × Bool × List Int × TI × List TY := (c, s == 5, g, (0, 0, 0, 0, 0, 0, 0, 0), [])
  let x2 : Bool := qAtC x1 0
  let x3 : Int × Int × Int × Int × Int × Int × Int × Int := rDecode c.1 (qAt x1 0)
  let x4 : Bool := !x2 || x3.1 == 20
  .br (pInternal s)
  (.leaf (some ((c.1, (rgx c.2.1 c.2.1.2.2.2.2.2.2.2.1 (IntKind.u16.wrap ((spOf c) - 2)) (rVector s)), c.2.2))))
  (.br (!x4 || x2)
   (.br (x4)
    (.leaf (some ((c.1, (notI IntKind.u8 c.2.1.1, c.2.1.2.1, c.2.1.2.2.1, c.2.1.2.2.2.1, c.2.1.2.2.2.2.1, c.2.1.2.2.2.2.2.1, c.2.1.2.2.2.2.2.2.1, c.2.1.2.2.2.2.2.2.2.1, spOf c, qBehind (c, s == 5, g, (20, x3.2), [])), c.2.2.1, false, false, c.2.2.2.2.2))))
    (.leaf none))
   (.leaf none))
theorem pFin_20_ev (a : HL pFinTs) : evVal (envX Tryz.prog (pFinL 20) [] 1023 8) Tryz.f116 pFinTs pFinRs a = pFin_20T a.1 a.2.1 a.2.2.1 a.2.2.2 := by kernel_rfl
def pFin_24T (c : TC) (s : Int) (g : List Int) (ln : Bool × Bool × Bool × Bool × Bool × Bool × Bool × Bool × Bool) : RT (Option TC) :=
  let x1 : TC × Bool × List Int × TI × List TY := (c, s == 5, g, (0, 0, 0, 0, 0, 0, 0, 0), [])
  let x2 : Bool := qAtC x1 0
  let x3 : Int × Int × Int × Int × Int × Int × Int × Int := rDecode c.1 (qAt x1 0)
  let x4 : Bool := !x2 || x3.1 == 24
  let x5 : TC × Bool × List Int × TI × List TY := (c, s == 5, g, (24, x3.2), [])
  let x6 : Bool := qTaken x5
  .br (pInternal s)
  (.leaf (some ((c.1, (rgx c.2.1 c.2.1.2.2.2.2.2.2.2.1 (IntKind.u16.wrap ((spOf c) - 2)) (rVector s)), c.2.2))))
  (.br (!x4 || x2)
   (.br (x4)
    (.br (!x6 || qJoinC x5 1)
     (.leaf (some ((c.1, (rgx c.2.1 c.2.1.2.2.2.2.2.2.2.1 (spOf c) (bif x6 then qJoin x5 1 else qBehind x5)), c.2.2.1, false, false, c.2.2.2.2.2))))
     (.leaf none))
    (.leaf none))
   (.leaf none))
theorem pFin_24_ev (a : HL pFinTs) : evVal (envX Tryz.prog (pFinL 24) [] 1023 8) Tryz.f116 pFinTs pFinRs a = pFin_24T a.1 a.2.1 a.2.2.1 a.2.2.2 := by kernel_rfl
def pFin_28T (c : TC) (s : Int) (g : List Int) (ln : Bool × Bool × Bool × Bool × Bool × Bool × Bool × Bool × Bool) : RT (Option TC) :=
  let x1 : TC × Bool × List Int × TI × List TY := (c, s == 5, g, (0, 0, 0, 0, 0, 0, 0, 0), [])
  let x2 : Bool := qAtC x1 0
  let x3 : Int × Int × Int × Int × Int × Int × Int × Int := rDecode c.1 (qAt x1 0)
  let x4 : Bool := !x2 || x3.1 == 28
  .br (pInternal s)
  (.leaf (some ((c.1, (rgx c.2.1 c.2.1.2.2.2.2.2.2.2.1 (IntKind.u16.wrap ((spOf c) - 2)) (rVector s)), c.2.2))))
  (.br (!x4 || x2)
   (.br (x4)
    (.leaf (some ((c.1, (rgx c.2.1 c.2.1.2.2.2.2.2.2.2.1 (spOf c) (qPair (c, s == 5, g, (28, x3.2), []) 2)), c.2.2.1, false, false, c.2.2.2.2.2))))
    (.leaf none))
   (.leaf none))
theorem pFin_28_ev (a : HL pFinTs) : evVal (envX Tryz.prog (pFinL 28) [] 1023 8) Tryz.f116 pFinTs pFinRs a = pFin_28T a.1 a.2.1 a.2.2.1 a.2.2.2 := by kernel_rfl
def pFin_32T (c : TC) (s : Int) (g : List Int) (ln : Bool × Bool × Bool × Bool × Bool × Bool × Bool × Bool × Bool) : RT (Option TC) :=
  let x1 : TC × Bool × List Int × TI × List TY := (c, s == 5, g, (0, 0, 0, 0, 0, 0, 0, 0), [])
  let x2 : Bool := qAtC x1 0
  let x3 : Int × Int × Int × Int × Int × Int × Int × Int := rDecode c.1 (qAt x1 0)
  let x4 : Bool := !x2 || x3.1 == 32
  let x5 : TC × Bool × List Int × TI × List TY := (c, s == 5, g, (32, x3.2), [])
  .br (pInternal s)
  (.leaf (some ((c.1, (rgx c.2.1 c.2.1.2.2.2.2.2.2.2.1 (IntKind.u16.wrap ((spOf c) - 2)) (rVector s)), c.2.2))))
  (.br (!x4 || x2)
   (.br (x4)
    (.br (qJoinC x5 1)
     (.leaf (some ((c.1, rSetPair (rgx c.2.1 c.2.1.2.2.2.2.2.2.2.1 (spOf c) (qBehind x5)) 2 (qJoin x5 1), c.2.2.1, false, false, c.2.2.2.2.2))))
     (.leaf none))
    (.leaf none))
   (.leaf none))
theorem pFin_32_ev (a : HL pFinTs) : evVal (envX Tryz.prog (pFinL 32) [] 1023 8) Tryz.f116 pFinTs pFinRs a = pFin_32T a.1 a.2.1 a.2.2.1 a.2.2.2 := by kernel_rfl
def pFin_36T (c : TC) (s : Int) (g : List Int) (ln : Bool × Bool × Bool × Bool × Bool × Bool × Bool × Bool × Bool) : RT (Option TC) :=
  let x1 : TC × Bool × List Int × TI × List TY := (c, s == 5, g, (0, 0, 0, 0, 0, 0, 0, 0), [])
  let x2 : Bool := qAtC x1 0
  let x3 : Int × Int × Int × Int × Int × Int × Int × Int := rDecode c.1 (qAt x1 0)
  let x4 : Bool := !x2 || x3.1 == 36
  .br (pInternal s)
  (.leaf (some ((c.1, (rgx c.2.1 c.2.1.2.2.2.2.2.2.2.1 (IntKind.u16.wrap ((spOf c) - 2)) (rVector s)), c.2.2))))
  (.br (!x4 || x2)
   (.br (x4)
    (.leaf (some ((c.1, (rgx c.2.1 c.2.1.2.2.2.2.2.2.2.1 (spOf c) (qBehind (c, s == 5, g, (36, x3.2), []))), false, false, false, c.2.2.2.2.2))))
    (.leaf none))
   (.leaf none))
theorem pFin_36_ev (a : HL pFinTs) : evVal (envX Tryz.prog (pFinL 36) [] 1023 8) Tryz.f116 pFinTs pFinRs a = pFin_36T a.1 a.2.1 a.2.2.1 a.2.2.2 := by kernel_rfl
def pFin_40T (c : TC) (s : Int) (g : List Int) (ln : Bool × Bool × Bool × Bool × Bool × Bool × Bool × Bool × Bool) : RT (Option TC) :=
  let x1 : TC × Bool × List Int × TI × List TY := (c, s == 5, g, (0, 0, 0, 0, 0, 0, 0, 0), [])
  let x2 : Bool := qAtC x1 0
  let x3 : Int × Int × Int × Int × Int × Int × Int × Int := rDecode c.1 (qAt x1 0)
  let x4 : Bool := !x2 || x3.1 == 40
  let x5 : TC × Bool × List Int × TI × List TY := (c, s == 5, g, (40, x3.2), [])
  let x6 : Int × Bool × Bool × Bool × Bool × Bool × Bool × Bool := rDsub (qPair x5 2) (qPair x5 0)
  .br (pInternal s)
  (.leaf (some ((c.1, (rgx c.2.1 c.2.1.2.2.2.2.2.2.2.1 (IntKind.u16.wrap ((spOf c) - 2)) (rVector s)), c.2.2))))
  (.br (!x4 || x2)
   (.br (x4)
    (.leaf (some ((c.1, rSetPair (rgx c.2.1 x6.2 (spOf c) (qBehind x5)) 2 x6.1, c.2.2.1, false, false, c.2.2.2.2.2))))
    (.leaf none))
   (.leaf none))
theorem pFin_40_ev (a : HL pFinTs) : evVal (envX Tryz.prog (pFinL 40) [] 1023 8) Tryz.f116 pFinTs pFinRs a = pFin_40T a.1 a.2.1 a.2.2.1 a.2.2.2 := by kernel_rfl
def pFin_44T (c : TC) (s : Int) (g : List Int) (ln : Bool × Bool × Bool × Bool × Bool × Bool × Bool × Bool × Bool) : RT (Option TC) :=
  let x1 : TC × Bool × List Int × TI × List TY := (c, s == 5, g, (0, 0, 0, 0, 0, 0, 0, 0), [])
  let x2 : Bool := qAtC x1 0
  let x3 : Int × Int × Int × Int × Int × Int × Int × Int := rDecode c.1 (qAt x1 0)
  let x4 : Bool := !x2 || x3.1 == 44
  let x5 : TC × Bool × List Int × TI × List TY := (c, s == 5, g, (44, x3.2), [])
  .br (pInternal s)
  (.leaf (some ((c.1, (rgx c.2.1 c.2.1.2.2.2.2.2.2.2.1 (IntKind.u16.wrap ((spOf c) - 2)) (rVector s)), c.2.2))))
  (.br (!x4 || x2)
   (.br (x4)
    (.br (qAtC x5 1)
     (.leaf (some ((c.1, rSetPair (rgx c.2.1 c.2.1.2.2.2.2.2.2.2.1 (spOf c) (qBehind x5)) 1 (IntKind.u16.wrap ((spOf c) + IntKind.u16.wrap (qAt x5 1))), c.2.2.1, false, false, c.2.2.2.2.2))))
     (.leaf none))
    (.leaf none))
   (.leaf none))
theorem pFin_44_ev (a : HL pFinTs) : evVal (envX Tryz.prog (pFinL 44) [] 1023 8) Tryz.f116 pFinTs pFinRs a = pFin_44T a.1 a.2.1 a.2.2.1 a.2.2.2 := by kernel_rfl
end
end Go.Proofs.YtpkijkmagnhciaaGreat
open Go Go.S3 Go.Proofs
set_option linter.unusedVariables false
set_option linter.unusedSimpArgs false
set_option maxRecDepth 100000
namespace Go.Proofs.YtpkijkmagnhciaaGreat
noncomputable section
end
end Go.Proofs.YtpkijkmagnhciaaGreat
set_option linter.unusedSimpArgs false
open Go Go.S3 Go.Proofs
set_option linter.unusedVariables false
set_option maxRecDepth 100000
namespace Go.Proofs.YtpkijkmagnhciaaGreat
noncomputable section
end
end Go.Proofs.YtpkijkmagnhciaaGreat
open Go Go.S3 Go.Proofs
set_option linter.unusedVariables false
set_option linter.unusedSimpArgs false
set_option maxRecDepth 100000
namespace Go.Proofs.YtpkijkmagnhciaaGreat
noncomputable section
theorem fp_1 (c) (s : Int) (g : List Int) (l) (n : Int) (hk : (rDecode c.1 (g.getD 0 0)).1 = n) : (n = 1 → (pFin_1T c s g l).val = some (finX c s g l)) ∧ (n = 6 → (pFin_6T c s g l).val = some (finX c s g l)) ∧ (n = 10 → (pFin_10T c s g l).val = some (finX c s g l)) ∧ (n = 17 → (pFin_17T c s g l).val = some (finX c s g l)) ∧ (n = 21 → (pFin_21T c s g l).val = some (finX c s g l)) ∧ (n = 28 → (pFin_28T c s g l).val = some (finX c s g l)) ∧ (n = 33 → (pFin_33T c s g l).val = some (finX c s g l)) ∧ (n = 37 → (pFin_37T c s g l).val = some (finX c s g l)) ∧ (n = 43 → (pFin_43T c s g l).val = some (finX c s g l)) := by
  refine ⟨?_, ?_, ?_, ?_, ?_, ?_, ?_, ?_, ?_⟩
  all_goals intro e; subst e
  all_goals simp only [pFin_1T, pFin_6T, pFin_10T, pFin_17T, pFin_21T, pFin_28T, pFin_33T, pFin_37T, pFin_43T, RT.val, rgx]
  all_goals simp only [qat0, mat0, qat1, mat1, rg0, hk, internal_eq, qPair_eq, qReg_eq, qTaken_eq, mTaken_eq, qBehind_eq, mBehind_eq, qJoin1, mWord1, qJoin3, qOp_eq, rStepped_eq, on_eq, finX, spOf]
  all_goals generalize rInternal s = bi
  all_goals cases bi with
  | true => simp [wPC, wSP]
  | false =>
    generalize (s == 5) = bs
    simp only [finI, hk, finR, wPC, wSP, wA, wF, fCY, fVCY, spOfR, flOf, behindX, pcOf, joinX]
    generalize rDecode c.1 (g.getD 0 0) = i at hk ⊢
    simp (config := { implicitDefEqProofs := false }) [w_i64, qat_ok, mat_ok, hk]
theorem fp_2 (c) (s : Int) (g : List Int) (l) (n : Int) (hk : (rDecode c.1 (g.getD 0 0)).1 = n) : (n = 3 → (pFin_3T c s g l).val = some (finX c s g l)) ∧ (n = 7 → (pFin_7T c s g l).val = some (finX c s g l)) ∧ (n = 11 → (pFin_11T c s g l).val = some (finX c s g l)) ∧ (n = 18 → (pFin_18T c s g l).val = some (finX c s g l)) ∧ (n = 22 → (pFin_22T c s g l).val = some (finX c s g l)) ∧ (n = 29 → (pFin_29T c s g l).val = some (finX c s g l)) ∧ (n = 34 → (pFin_34T c s g l).val = some (finX c s g l)) ∧ (n = 40 → (pFin_40T c s g l).val = some (finX c s g l)) ∧ (n = 44 → (pFin_44T c s g l).val = some (finX c s g l)) := by
  refine ⟨?_, ?_, ?_, ?_, ?_, ?_, ?_, ?_, ?_⟩
  all_goals intro e; subst e
  all_goals simp only [pFin_3T, pFin_7T, pFin_11T, pFin_18T, pFin_22T, pFin_29T, pFin_34T, pFin_40T, pFin_44T, RT.val, rgx]
  all_goals simp only [qat0, mat0, qat1, mat1, rg0, hk, internal_eq, qPair_eq, qReg_eq, qTaken_eq, mTaken_eq, qBehind_eq, mBehind_eq, qJoin1, mWord1, qJoin3, qOp_eq, rStepped_eq, on_eq, finX, spOf]
  all_goals generalize rInternal s = bi
  all_goals cases bi with
  | true => simp [wPC, wSP]
  | false =>
    generalize (s == 5) = bs
    simp only [finI, hk, finR, wPC, wSP, wA, wF, fCY, fVCY, spOfR, flOf, behindX, pcOf, joinX]
    generalize rDecode c.1 (g.getD 0 0) = i at hk ⊢
    simp (config := { implicitDefEqProofs := false }) [w_i64, qat_ok, mat_ok, hk]
theorem fp_3 (c) (s : Int) (g : List Int) (l) (n : Int) (hk : (rDecode c.1 (g.getD 0 0)).1 = n) : (n = 4 → (pFin_4T c s g l).val = some (finX c s g l)) ∧ (n = 8 → (pFin_8T c s g l).val = some (finX c s g l)) ∧ (n = 13 → (pFin_13T c s g l).val = some (finX c s g l)) ∧ (n = 19 → (pFin_19T c s g l).val = some (finX c s g l)) ∧ (n = 23 → (pFin_23T c s g l).val = some (finX c s g l)) ∧ (n = 30 → (pFin_30T c s g l).val = some (finX c s g l)) ∧ (n = 35 → (pFin_35T c s g l).val = some (finX c s g l)) ∧ (n = 41 → (pFin_41T c s g l).val = some (finX c s g l)) ∧ (n = 46 → (pFin_46T c s g l).val = some (finX c s g l)) := by
  refine ⟨?_, ?_, ?_, ?_, ?_, ?_, ?_, ?_, ?_⟩
  all_goals intro e; subst e
  all_goals simp only [pFin_4T, pFin_8T, pFin_13T, pFin_19T, pFin_23T, pFin_30T, pFin_35T, pFin_41T, pFin_46T, RT.val, rgx]
  all_goals simp only [qat0, mat0, qat1, mat1, rg0, hk, internal_eq, qPair_eq, qReg_eq, qTaken_eq, mTaken_eq, qBehind_eq, mBehind_eq, qJoin1, mWord1, qJoin3, qOp_eq, rStepped_eq, on_eq, finX, spOf]
  all_goals generalize rInternal s = bi
  all_goals cases bi with
  | true => simp [wPC, wSP]
  | false =>
    generalize (s == 5) = bs
    simp only [finI, hk, finR, wPC, wSP, wA, wF, fCY, fVCY, spOfR, flOf, behindX, pcOf, joinX]
    generalize rDecode c.1 (g.getD 0 0) = i at hk ⊢
    simp (config := { implicitDefEqProofs := false }) [w_i64, qat_ok, mat_ok, hk]
theorem fp_4 (c) (s : Int) (g : List Int) (l) (n : Int) (hk : (rDecode c.1 (g.getD 0 0)).1 = n) : (n = 5 → (pFin_5T c s g l).val = some (finX c s g l)) ∧ (n = 9 → (pFin_9T c s g l).val = some (finX c s g l)) ∧ (n = 16 → (pFin_16T c s g l).val = some (finX c s g l)) ∧ (n = 20 → (pFin_20T c s g l).val = some (finX c s g l)) ∧ (n = 27 → (pFin_27T c s g l).val = some (finX c s g l)) ∧ (n = 32 → (pFin_32T c s g l).val = some (finX c s g l)) ∧ (n = 36 → (pFin_36T c s g l).val = some (finX c s g l)) ∧ (n = 42 → (pFin_42T c s g l).val = some (finX c s g l)) ∧ (n = 47 → (pFin_47T c s g l).val = some (finX c s g l)) := by
  refine ⟨?_, ?_, ?_, ?_, ?_, ?_, ?_, ?_, ?_⟩
  all_goals intro e; subst e
  all_goals simp only [pFin_5T, pFin_9T, pFin_16T, pFin_20T, pFin_27T, pFin_32T, pFin_36T, pFin_42T, pFin_47T, RT.val, rgx]
  all_goals simp only [qat0, mat0, qat1, mat1, rg0, hk, internal_eq, qPair_eq, qReg_eq, qTaken_eq, mTaken_eq, qBehind_eq, mBehind_eq, qJoin1, mWord1, qJoin3, qOp_eq, rStepped_eq, on_eq, finX, spOf]
  all_goals generalize rInternal s = bi
  all_goals cases bi with
  | true => simp [wPC, wSP]
  | false =>
    generalize (s == 5) = bs
    simp only [finI, hk, finR, wPC, wSP, wA, wF, fCY, fVCY, spOfR, flOf, behindX, pcOf, joinX]
    generalize rDecode c.1 (g.getD 0 0) = i at hk ⊢
    simp (config := { implicitDefEqProofs := false }) [w_i64, qat_ok, mat_ok, hk]
theorem fp_5 (c) (s : Int) (g : List Int) (l) (n : Int) (hk : (rDecode c.1 (g.getD 0 0)).1 = n) : (n = 2 → (pFin_2T c s g l).val = some (finX c s g l)) ∧ (n = 12 → (pFin_12T c s g l).val = some (finX c s g l)) := by
  refine ⟨?_, ?_⟩
  all_goals intro e; subst e
  all_goals simp only [pFin_2T, pFin_12T, RT.val, rgx]
  all_goals simp only [qat0, mat0, qat1, mat1, rg0, hk, internal_eq, qPair_eq, qReg_eq, qTaken_eq, mTaken_eq, qBehind_eq, mBehind_eq, qJoin1, mWord1, qJoin3, qOp_eq, rStepped_eq, on_eq, finX, spOf]
  all_goals generalize rInternal s = bi
  all_goals cases bi with
  | true => simp [wPC, wSP]
  | false =>
    generalize (s == 5) = bs
    simp only [finI, hk, finR, wPC, wSP, wA, wF, fCY, fVCY, spOfR, flOf, behindX, pcOf, joinX]
    generalize rDecode c.1 (g.getD 0 0) = i at hk ⊢
    generalize (i.2.2.2.1 == 6) = b0
    cases b0 <;> simp (config := { implicitDefEqProofs := false }) [w_i64, qat_ok, mat_ok, hk]
theorem fp_6 (c) (s : Int) (g : List Int) (l) (n : Int) (hk : (rDecode c.1 (g.getD 0 0)).1 = n) : (n = 14 → (pFin_14T c s g l).val = some (finX c s g l)) ∧ (n = 15 → (pFin_15T c s g l).val = some (finX c s g l)) := by
  refine ⟨?_, ?_⟩
  all_goals intro e; subst e
  all_goals simp only [pFin_14T, pFin_15T, RT.val, rgx]
  all_goals simp only [qat0, mat0, qat1, mat1, rg0, hk, internal_eq, qPair_eq, qReg_eq, qTaken_eq, mTaken_eq, qBehind_eq, mBehind_eq, qJoin1, mWord1, qJoin3, qOp_eq, rStepped_eq, on_eq, finX, spOf]
  all_goals generalize rInternal s = bi
  all_goals cases bi with
  | true => simp [wPC, wSP]
  | false =>
    generalize (s == 5) = bs
    simp only [finI, hk, finR, wPC, wSP, wA, wF, fCY, fVCY, spOfR, flOf, behindX, pcOf, joinX]
    generalize rDecode c.1 (g.getD 0 0) = i at hk ⊢
    generalize (i.2.2.1 == 6) = b0
    cases b0 <;> simp (config := { implicitDefEqProofs := false }) [w_i64, qat_ok, mat_ok, hk]
theorem fp_7 (c) (s : Int) (g : List Int) (l) (n : Int) (hk : (rDecode c.1 (g.getD 0 0)).1 = n) : (n = 24 → (pFin_24T c s g l).val = some (finX c s g l)) ∧ (n = 25 → (pFin_25T c s g l).val = some (finX c s g l)) ∧ (n = 26 → (pFin_26T c s g l).val = some (finX c s g l)) ∧ (n = 45 → (pFin_45T c s g l).val = some (finX c s g l)) := by
  refine ⟨?_, ?_, ?_, ?_⟩
  all_goals intro e; subst e
  all_goals simp only [pFin_24T, pFin_25T, pFin_26T, pFin_45T, RT.val, rgx]
  all_goals simp only [qat0, mat0, qat1, mat1, rg0, hk, internal_eq, qPair_eq, qReg_eq, qTaken_eq, mTaken_eq, qBehind_eq, mBehind_eq, qJoin1, mWord1, qJoin3, qOp_eq, rStepped_eq, on_eq, finX, spOf]
  all_goals generalize rInternal s = bi
  all_goals cases bi with
  | true => simp [wPC, wSP]
  | false =>
    generalize (s == 5) = bs
    simp only [finI, hk, finR, wPC, wSP, wA, wF, fCY, fVCY, spOfR, flOf, behindX, pcOf, joinX]
    generalize rDecode c.1 (g.getD 0 0) = i at hk ⊢
    generalize rHolds _ _ = b0
    cases b0 <;> simp (config := { implicitDefEqProofs := false }) [w_i64, qat_ok, mat_ok, hk]
theorem fp_8 (c) (s : Int) (g : List Int) (l) (n : Int) (hk : (rDecode c.1 (g.getD 0 0)).1 = n) : (n = 31 → (pFin_31T c s g l).val = some (finX c s g l)) := by
  skip
  all_goals intro e; subst e
  all_goals simp only [pFin_31T, RT.val, rgx]
  all_goals simp only [qat0, mat0, qat1, mat1, rg0, hk, internal_eq, qPair_eq, qReg_eq, qTaken_eq, mTaken_eq, qBehind_eq, mBehind_eq, qJoin1, mWord1, qJoin3, qOp_eq, rStepped_eq, on_eq, finX, spOf]
  all_goals generalize rInternal s = bi
  all_goals cases bi with
  | true => simp [wPC, wSP]
  | false =>
    generalize (s == 5) = bs
    simp only [finI, hk, finR, wPC, wSP, wA, wF, fCY, fVCY, spOfR, flOf, behindX, pcOf, joinX]
    generalize rDecode c.1 (g.getD 0 0) = i at hk ⊢
    generalize (i.2.2.2.2.1 == 3) = b0
    cases b0 <;> simp (config := { implicitDefEqProofs := false }) [w_i64, qat_ok, mat_ok, hk]
theorem fp_9 (c) (s : Int) (g : List Int) (l) (n : Int) (hk : (rDecode c.1 (g.getD 0 0)).1 = n) : (n = 38 → (pFin_38T c s g l).val = some (finX c s g l)) := by
  skip
  all_goals intro e; subst e
  all_goals simp only [pFin_38T, RT.val, rgx]
  all_goals simp only [qat0, mat0, qat1, mat1, rg0, hk, internal_eq, qPair_eq, qReg_eq, qTaken_eq, mTaken_eq, qBehind_eq, mBehind_eq, qJoin1, mWord1, qJoin3, qOp_eq, rStepped_eq, on_eq, finX, spOf]
  all_goals generalize rInternal s = bi
  all_goals cases bi with
  | true => simp [wPC, wSP]
  | false =>
    generalize (s == 5) = bs
    simp only [finI, hk, finR, wPC, wSP, wA, wF, fCY, fVCY, spOfR, flOf, behindX, pcOf, joinX]
    generalize rDecode c.1 (g.getD 0 0) = i at hk ⊢
    simp [w_i64, qat_ok, mat_ok, hk, rim_eq]
theorem fp_10 (c) (s : Int) (g : List Int) (l) (n : Int) (hk : (rDecode c.1 (g.getD 0 0)).1 = n) : (n = 39 → (pFin_39T c s g l).val = some (finX c s g l)) := by
  skip
  all_goals intro e; subst e
  all_goals simp only [pFin_39T, RT.val, rgx]
  all_goals simp only [qat0, mat0, qat1, mat1, rg0, hk, internal_eq, qPair_eq, qReg_eq, qTaken_eq, mTaken_eq, qBehind_eq, mBehind_eq, qJoin1, mWord1, qJoin3, qOp_eq, rStepped_eq, on_eq, finX, spOf]
  all_goals generalize rInternal s = bi
  all_goals cases bi with
  | true => simp [wPC, wSP]
  | false =>
    generalize (s == 5) = bs
    simp only [finI, hk, finR, wPC, wSP, wA, wF, fCY, fVCY, spOfR, flOf, behindX, pcOf, joinX]
    generalize rDecode c.1 (g.getD 0 0) = i at hk ⊢
    simp [w_i64, qat_ok, mat_ok, hk, rSim, rSimT, RT.val]
end
end Go.Proofs.YtpkijkmagnhciaaGreat
set_option linter.unusedSimpArgs false
open Go Go.S3 Go.Proofs
set_option linter.unusedVariables false
set_option maxRecDepth 100000
namespace Go.Proofs.YtpkijkmagnhciaaGreat
noncomputable section
theorem pFin_at (a : HL pFinTs) (h : okHL pFinTs a) : ∃ l, AllOk Tryz.prog l ∧ (evVal (envX Tryz.prog l [] 1023 8) Tryz.f116 pFinTs pFinRs a).val = some (finX a.1 a.2.1 a.2.2.1 a.2.2.2) := by
  have hk := kind_in a.1.1 _ (head_in h.2.2.1)
  refine ⟨pFinL (rDecode a.1.1 (a.2.2.1.getD 0 0)).1, pFinL_ok _, ?_⟩
  rcases kinds47 hk.1 hk.2 with e | e | e | e | e | e | e | e | e | e | e | e | e | e | e | e | e | e | e | e | e | e | e | e | e | e | e | e | e | e | e | e | e | e | e | e | e | e | e | e | e | e | e | e | e | e | e
  · rw [e, pFin_1_ev a, ((fp_1 a.1 a.2.1 a.2.2.1 a.2.2.2 _ e).1 rfl)]
  · rw [e, pFin_2_ev a, ((fp_5 a.1 a.2.1 a.2.2.1 a.2.2.2 _ e).1 rfl)]
  · rw [e, pFin_3_ev a, ((fp_2 a.1 a.2.1 a.2.2.1 a.2.2.2 _ e).1 rfl)]
  · rw [e, pFin_4_ev a, ((fp_3 a.1 a.2.1 a.2.2.1 a.2.2.2 _ e).1 rfl)]
  · rw [e, pFin_5_ev a, ((fp_4 a.1 a.2.1 a.2.2.1 a.2.2.2 _ e).1 rfl)]
  · rw [e, pFin_6_ev a, ((fp_1 a.1 a.2.1 a.2.2.1 a.2.2.2 _ e).2.1 rfl)]
  · rw [e, pFin_7_ev a, ((fp_2 a.1 a.2.1 a.2.2.1 a.2.2.2 _ e).2.1 rfl)]
  · rw [e, pFin_8_ev a, ((fp_3 a.1 a.2.1 a.2.2.1 a.2.2.2 _ e).2.1 rfl)]
  · rw [e, pFin_9_ev a, ((fp_4 a.1 a.2.1 a.2.2.1 a.2.2.2 _ e).2.1 rfl)]
  · rw [e, pFin_10_ev a, ((fp_1 a.1 a.2.1 a.2.2.1 a.2.2.2 _ e).2.2.1 rfl)]
  · rw [e, pFin_11_ev a, ((fp_2 a.1 a.2.1 a.2.2.1 a.2.2.2 _ e).2.2.1 rfl)]
  · rw [e, pFin_12_ev a, ((fp_5 a.1 a.2.1 a.2.2.1 a.2.2.2 _ e).2 rfl)]
  · rw [e, pFin_13_ev a, ((fp_3 a.1 a.2.1 a.2.2.1 a.2.2.2 _ e).2.2.1 rfl)]
  · rw [e, pFin_14_ev a, ((fp_6 a.1 a.2.1 a.2.2.1 a.2.2.2 _ e).1 rfl)]
  · rw [e, pFin_15_ev a, ((fp_6 a.1 a.2.1 a.2.2.1 a.2.2.2 _ e).2 rfl)]
  · rw [e, pFin_16_ev a, ((fp_4 a.1 a.2.1 a.2.2.1 a.2.2.2 _ e).2.2.1 rfl)]
  · rw [e, pFin_17_ev a, ((fp_1 a.1 a.2.1 a.2.2.1 a.2.2.2 _ e).2.2.2.1 rfl)]
  · rw [e, pFin_18_ev a, ((fp_2 a.1 a.2.1 a.2.2.1 a.2.2.2 _ e).2.2.2.1 rfl)]
  · rw [e, pFin_19_ev a, ((fp_3 a.1 a.2.1 a.2.2.1 a.2.2.2 _ e).2.2.2.1 rfl)]
  · rw [e, pFin_20_ev a, ((fp_4 a.1 a.2.1 a.2.2.1 a.2.2.2 _ e).2.2.2.1 rfl)]
  · rw [e, pFin_21_ev a, ((fp_1 a.1 a.2.1 a.2.2.1 a.2.2.2 _ e).2.2.2.2.1 rfl)]
  · rw [e, pFin_22_ev a, ((fp_2 a.1 a.2.1 a.2.2.1 a.2.2.2 _ e).2.2.2.2.1 rfl)]
  · rw [e, pFin_23_ev a, ((fp_3 a.1 a.2.1 a.2.2.1 a.2.2.2 _ e).2.2.2.2.1 rfl)]
  · rw [e, pFin_24_ev a, ((fp_7 a.1 a.2.1 a.2.2.1 a.2.2.2 _ e).1 rfl)]
  · rw [e, pFin_25_ev a, ((fp_7 a.1 a.2.1 a.2.2.1 a.2.2.2 _ e).2.1 rfl)]
  · rw [e, pFin_26_ev a, ((fp_7 a.1 a.2.1 a.2.2.1 a.2.2.2 _ e).2.2.1 rfl)]
  · rw [e, pFin_27_ev a, ((fp_4 a.1 a.2.1 a.2.2.1 a.2.2.2 _ e).2.2.2.2.1 rfl)]
  · rw [e, pFin_28_ev a, ((fp_1 a.1 a.2.1 a.2.2.1 a.2.2.2 _ e).2.2.2.2.2.1 rfl)]
  · rw [e, pFin_29_ev a, ((fp_2 a.1 a.2.1 a.2.2.1 a.2.2.2 _ e).2.2.2.2.2.1 rfl)]
  · rw [e, pFin_30_ev a, ((fp_3 a.1 a.2.1 a.2.2.1 a.2.2.2 _ e).2.2.2.2.2.1 rfl)]
  · rw [e, pFin_31_ev a, ((fp_8 a.1 a.2.1 a.2.2.1 a.2.2.2 _ e) rfl)]
  · rw [e, pFin_32_ev a, ((fp_4 a.1 a.2.1 a.2.2.1 a.2.2.2 _ e).2.2.2.2.2.1 rfl)]
  · rw [e, pFin_33_ev a, ((fp_1 a.1 a.2.1 a.2.2.1 a.2.2.2 _ e).2.2.2.2.2.2.1 rfl)]
  · rw [e, pFin_34_ev a, ((fp_2 a.1 a.2.1 a.2.2.1 a.2.2.2 _ e).2.2.2.2.2.2.1 rfl)]
  · rw [e, pFin_35_ev a, ((fp_3 a.1 a.2.1 a.2.2.1 a.2.2.2 _ e).2.2.2.2.2.2.1 rfl)]
  · rw [e, pFin_36_ev a, ((fp_4 a.1 a.2.1 a.2.2.1 a.2.2.2 _ e).2.2.2.2.2.2.1 rfl)]
  · rw [e, pFin_37_ev a, ((fp_1 a.1 a.2.1 a.2.2.1 a.2.2.2 _ e).2.2.2.2.2.2.2.1 rfl)]
  · rw [e, pFin_38_ev a, ((fp_9 a.1 a.2.1 a.2.2.1 a.2.2.2 _ e) rfl)]
  · rw [e, pFin_39_ev a, ((fp_10 a.1 a.2.1 a.2.2.1 a.2.2.2 _ e) rfl)]
  · rw [e, pFin_40_ev a, ((fp_2 a.1 a.2.1 a.2.2.1 a.2.2.2 _ e).2.2.2.2.2.2.2.1 rfl)]
  · rw [e, pFin_41_ev a, ((fp_3 a.1 a.2.1 a.2.2.1 a.2.2.2 _ e).2.2.2.2.2.2.2.1 rfl)]
  · rw [e, pFin_42_ev a, ((fp_4 a.1 a.2.1 a.2.2.1 a.2.2.2 _ e).2.2.2.2.2.2.2.1 rfl)]
  · rw [e, pFin_43_ev a, ((fp_1 a.1 a.2.1 a.2.2.1 a.2.2.2 _ e).2.2.2.2.2.2.2.2 rfl)]
  · rw [e, pFin_44_ev a, ((fp_2 a.1 a.2.1 a.2.2.1 a.2.2.2 _ e).2.2.2.2.2.2.2.2 rfl)]
  · rw [e, pFin_45_ev a, ((fp_7 a.1 a.2.1 a.2.2.1 a.2.2.2 _ e).2.2.2 rfl)]
  · rw [e, pFin_46_ev a, ((fp_3 a.1 a.2.1 a.2.2.1 a.2.2.2 _ e).2.2.2.2.2.2.2.2 rfl)]
  · rw [e, pFin_47_ev a, ((fp_4 a.1 a.2.1 a.2.2.1 a.2.2.2 _ e).2.2.2.2.2.2.2.2 rfl)]
def pFinE : Entry := pureE pFinTs pFinRs (fun _ => none) (fun a => finX a.1 a.2.1 a.2.2.1 a.2.2.2)
theorem pFin_ok : EntryOk Tryz.prog 116 pFinE := pure_any Tryz.func116 rfl (by kernel_rfl) Tryz.call116 fun a h _ => pFin_at a h
end
end Go.Proofs.YtpkijkmagnhciaaGreat
set_option linter.unusedSimpArgs false
open Go Go.S3 Go.Proofs
set_option linter.unusedVariables false
set_option maxRecDepth 100000
namespace Go.Proofs.YtpkijkmagnhciaaGreat
noncomputable section
end
end Go.Proofs.YtpkijkmagnhciaaGreat
set_option linter.unusedSimpArgs false
open Go Go.S3 Go.Proofs
set_option linter.unusedVariables false
set_option maxRecDepth 100000
namespace Go.Proofs.YtpkijkmagnhciaaGreat
noncomputable section
end
end Go.Proofs.YtpkijkmagnhciaaGreat
set_option linter.unusedSimpArgs false
open Go Go.S3 Go.Proofs
set_option linter.unusedVariables false
set_option maxRecDepth 100000
namespace Go.Proofs.YtpkijkmagnhciaaGreat
noncomputable section
end
end Go.Proofs.YtpkijkmagnhciaaGreat
open Go Go.S3 Go.Proofs
set_option linter.unusedVariables false
set_option linter.unusedSimpArgs false
set_option maxRecDepth 100000
namespace Go.Proofs.YtpkijkmagnhciaaGreat
noncomputable section
abbrev LnT := Bool × Bool × Bool × Bool × Bool × Bool × Bool × Bool × Bool
end
end Go.Proofs.YtpkijkmagnhciaaGreat
open Go Go.S3 Go.Proofs
set_option linter.unusedVariables false
set_option linter.unusedSimpArgs false
set_option maxRecDepth 100000
namespace Go.Proofs.YtpkijkmagnhciaaGreat
noncomputable section
end
end Go.Proofs.YtpkijkmagnhciaaGreat
open Go Go.S3 Go.Proofs
set_option linter.unusedVariables false
set_option linter.unusedSimpArgs false
set_option maxRecDepth 100000
namespace Go.Proofs.YtpkijkmagnhciaaGreat
noncomputable section
end
end Go.Proofs.YtpkijkmagnhciaaGreat
set_option linter.unusedSimpArgs false
open Go Go.S3 Go.Proofs
set_option linter.unusedVariables false
set_option maxRecDepth 100000
namespace Go.Proofs.YtpkijkmagnhciaaGreat
noncomputable section
abbrev mPlaceTs : List Sh := [Sh.one (R.int IntKind.i64), Sh.one (R.int IntKind.i64)]
abbrev mPlaceRs : Rs := Rs.one (Sh.one (R.int IntKind.i64))
def mPlaceT (x : Int) (n : Int) : RT (Option (Int)) :=
  .br (IntKind.u64.wrap n != 0)
  (.leaf (some (IntKind.i64.wrap (Int.tmod (IntKind.u64.wrap x) (IntKind.u64.wrap n)))))
  (.leaf none)
def mPlace (x : Int) (n : Int) : Int := getO mPlaceRs.dflt (mPlaceT x n).val
def mPlaceC (x : Int) (n : Int) : Bool := okB (mPlaceT x n).val
def mPlaceE : Entry := pureE mPlaceTs mPlaceRs (fun a => some (mPlaceC a.1 a.2)) (fun a => mPlace a.1 a.2)
theorem mPlace_ok : EntryOk Tryz.prog 15 mPlaceE :=
  pure_part (P := Tryz.prog) (n := 31) (k := 8) (l := []) (ol := []) trivial Tryz.func15 rfl (by kernel_rfl) Tryz.call15 trivial (ts := mPlaceTs) (rs := mPlaceRs) (t := fun a => mPlaceT a.1 a.2) (fun a => by kernel_rfl)
abbrev nNextRb : R := R.pair (R.sl (R.int IntKind.i64)) (R.int IntKind.i64)
abbrev nNextTs : List Sh := [Sh.one (R.int IntKind.i64)]
abbrev nNextRs : Rs := Rs.one (Sh.one (R.int IntKind.i64))
def nNextT (s : List Int × Int) (n : Int) : RT (Option (Int × List Int × Int)) :=
  let x1 : Bool := inRng (IntKind.i64.wrap (IntKind.i64.wrap (s.2 + 1) - 1)) (List.length s.1)
  let x2 : Int := R.get (R.int IntKind.i64) s.1 (IntKind.i64.wrap (IntKind.i64.wrap (s.2 + 1) - 1))
  .br (decide (s.2 ≥ iN (List.length s.1)))
  (.leaf (some ((0, s.1, IntKind.i64.wrap (s.2 + 1)))))
  (.br (!x1 || mPlaceC x2 n)
   (.br (x1)
    (.leaf (some ((mPlace x2 n, s.1, IntKind.i64.wrap (s.2 + 1)))))
    (.leaf none))
   (.leaf none))
def nNext (s : List Int × Int) (n : Int) : Int × List Int × Int := getO (nNextRs.dflt, nNextRb.dflt) (nNextT s n).val
def nNextC (s : List Int × Int) (n : Int) : Bool := okB (nNextT s n).val
def nNextE : Entry := boxE nNextRb nNextTs nNextRs (fun a => some (nNextC a.1 a.2)) (fun a => nNext a.1 a.2)
theorem nNext_ok : EntryOk Tryz.prog 44 nNextE :=
  box_part (P := Tryz.prog) (n := 31) (k := 8) (l := [(15, mPlaceE)]) (ol := []) ⟨mPlace_ok, trivial⟩ Tryz.func44 rfl (by kernel_rfl) Tryz.call44 trivial (rb := nNextRb) (ts := nNextTs) (rs := nNextRs) (t := fun a => nNextT a.1 a.2) (fun a => by kernel_rfl)
abbrev nByteRb : R := R.pair (R.sl (R.int IntKind.i64)) (R.int IntKind.i64)
abbrev nByteTs : List Sh := []
abbrev nByteRs : Rs := Rs.one (Sh.one (R.int IntKind.u8))
def nByteT (s : List Int × Int) : RT (Option (Int × List Int × Int)) :=
  let x1 : List Int := [0, 1, 127, 128, 255, 15, 16, 153, 154, 9, 102, 254, 129, 85, 170, 64]
  .br (nNextC s 512)
  (.br (!decide ((nNext s 512).1 ≥ 256) || inRng (Int.tmod (nNext s 512).1 16) (List.length x1))
   (.br (decide ((nNext s 512).1 ≥ 256))
    (.leaf (some ((R.get (R.int IntKind.u8) x1 (Int.tmod (nNext s 512).1 16), (nNext s 512).2))))
    (.leaf (some ((IntKind.u8.wrap (nNext s 512).1, (nNext s 512).2)))))
   (.leaf none))
  (.leaf none)
def nByte (s : List Int × Int) : Int × List Int × Int := getO (nByteRs.dflt, nByteRb.dflt) (nByteT s).val
def nByteC (s : List Int × Int) : Bool := okB (nByteT s).val
def nByteE : Entry := boxE nByteRb nByteTs nByteRs (fun a => some (nByteC a.1 )) (fun a => nByte a.1 )
theorem nByte_ok : EntryOk Tryz.prog 86 nByteE :=
  box_part (P := Tryz.prog) (n := 15) (k := 8) (l := [(44, nNextE)]) (ol := []) ⟨nNext_ok, trivial⟩ Tryz.func86 rfl (by kernel_rfl) Tryz.call86 trivial (rb := nByteRb) (ts := nByteTs) (rs := nByteRs) (t := fun a => nByteT a.1 ) (fun a => by kernel_rfl)
abbrev nWordRb : R := R.pair (R.sl (R.int IntKind.i64)) (R.int IntKind.i64)
abbrev nWordTs : List Sh := []
abbrev nWordRs : Rs := Rs.one (Sh.one (R.int IntKind.u16))
def nWordT (s : List Int × Int) : RT (Option (Int × List Int × Int)) :=
  let x1 : List Int := [0, 1, 65535, 65534, 32767, 32768, 255, 256]
  let x2 : Bool := !(nNext s 5).1 == 0 || (!nNextC (nNext s 5).2 8 || inRng (nNext (nNext s 5).2 8).1 (List.length x1))
  let x3 : Bool := !x2
  let x4 : Bool := !(nNext s 5).1 == 0 || nNextC (nNext s 5).2 8
  .br (nNextC s 5)
  (.br (x3 || (!x4 || ((nNext s 5).1 == 0 || (!(nNext s 5).1 == 1 || nNextC (nNext s 5).2 65536))))
   (.br (x3 || x4)
    (.br (x2)
     (.br ((nNext s 5).1 == 0)
      (.leaf (some ((R.get (R.int IntKind.u16) x1 (nNext (nNext s 5).2 8).1, (nNext (nNext s 5).2 8).2))))
      (.br ((nNext s 5).1 == 1)
       (.leaf (some ((IntKind.u16.wrap (nNext (nNext s 5).2 65536).1, (nNext (nNext s 5).2 65536).2))))
       (.br (nNextC (nNext s 5).2 64)
        (.leaf (some ((IntKind.u16.wrap (nNext (nNext s 5).2 64).1, (nNext (nNext s 5).2 64).2))))
        (.leaf none))))
     (.leaf none))
    (.leaf none))
   (.leaf none))
  (.leaf none)
def nWord (s : List Int × Int) : Int × List Int × Int := getO (nWordRs.dflt, nWordRb.dflt) (nWordT s).val
def nWordC (s : List Int × Int) : Bool := okB (nWordT s).val
def nWordE : Entry := boxE nWordRb nWordTs nWordRs (fun a => some (nWordC a.1 )) (fun a => nWord a.1 )
theorem nWord_ok : EntryOk Tryz.prog 92 nWordE :=
  box_part (P := Tryz.prog) (n := 4135) (k := 8) (l := [(44, nNextE)]) (ol := []) ⟨nNext_ok, trivial⟩ Tryz.func92 rfl (by kernel_rfl) Tryz.call92 trivial (rb := nWordRb) (ts := nWordTs) (rs := nWordRs) (t := fun a => nWordT a.1 ) (fun a => by kernel_rfl)
abbrev nChipRb : R := R.pair (R.sl (R.int IntKind.i64)) (R.int IntKind.i64)
abbrev nChipTs : List Sh := []
abbrev nChipRs : Rs := Rs.one (Sh.one (R.int IntKind.i64))
def nChipT (s : List Int × Int) : RT (Option (Int × List Int × Int)) :=
  .br (nNextC s 2)
  (.leaf (some ((IntKind.i64.wrap (1 + (nNext s 2).1), (nNext s 2).2))))
  (.leaf none)
def nChip (s : List Int × Int) : Int × List Int × Int := getO (nChipRs.dflt, nChipRb.dflt) (nChipT s).val
def nChipC (s : List Int × Int) : Bool := okB (nChipT s).val
def nChipE : Entry := boxE nChipRb nChipTs nChipRs (fun a => some (nChipC a.1 )) (fun a => nChip a.1 )
theorem nChip_ok : EntryOk Tryz.prog 30 nChipE :=
  box_part (P := Tryz.prog) (n := 7) (k := 8) (l := [(44, nNextE)]) (ol := []) ⟨nNext_ok, trivial⟩ Tryz.func30 rfl (by kernel_rfl) Tryz.call30 trivial (rb := nChipRb) (ts := nChipTs) (rs := nChipRs) (t := fun a => nChipT a.1 ) (fun a => by kernel_rfl)
abbrev nFlagsRb : R := R.pair (R.sl (R.int IntKind.i64)) (R.int IntKind.i64)
abbrev nFlagsTs : List Sh := [Sh.one (R.int IntKind.i64)]
abbrev nFlagsRs : Rs := Rs.one (Sh.agg rcF7)
def nFlagsT (s : List Int × Int) (chip : Int) : RT (Option (TF × List Int × Int)) :=
  .br (nNextC s 128)
  (.leaf (some (((andI IntKind.i64 (nNext s 128).1 1 != 0, andI IntKind.i64 (nNext s 128).1 2 != 0, chip == 2 && andI IntKind.i64 (nNext s 128).1 32 != 0, andI IntKind.i64 (nNext s 128).1 4 != 0, andI IntKind.i64 (nNext s 128).1 8 != 0, chip == 2 && andI IntKind.i64 (nNext s 128).1 64 != 0, andI IntKind.i64 (nNext s 128).1 16 != 0), (nNext s 128).2))))
  (.leaf none)
def nFlags (s : List Int × Int) (chip : Int) : TF × List Int × Int := getO (nFlagsRs.dflt, nFlagsRb.dflt) (nFlagsT s chip).val
def nFlagsC (s : List Int × Int) (chip : Int) : Bool := okB (nFlagsT s chip).val
def nFlagsE : Entry := boxE nFlagsRb nFlagsTs nFlagsRs (fun a => some (nFlagsC a.1 a.2)) (fun a => nFlags a.1 a.2)
theorem nFlags_ok : EntryOk Tryz.prog 91 nFlagsE :=
  box_part (P := Tryz.prog) (n := 127) (k := 8) (l := [(44, nNextE)]) (ol := []) ⟨nNext_ok, trivial⟩ Tryz.func91 rfl (by kernel_rfl) Tryz.call91 trivial (rb := nFlagsRb) (ts := nFlagsTs) (rs := nFlagsRs) (t := fun a => nFlagsT a.1 a.2) (fun a => by kernel_rfl)
abbrev nRegsRb : R := R.pair (R.sl (R.int IntKind.i64)) (R.int IntKind.i64)
abbrev nRegsTs : List Sh := [Sh.one (R.int IntKind.i64)]
abbrev nRegsRs : Rs := Rs.one (Sh.agg rcREG)
def nRegsT (s : List Int × Int) (chip : Int) : RT (Option (TR × List Int × Int)) :=
  let x1 : Int × List Int × Int := nByte (nByte (nByte (nByte (nByte (nByte (nByte s).2).2).2).2).2).2
  let x2 : List Int × Int := x1.2
  let x3 : Bool := nFlagsC x2 chip
  let x4 : Bool := !x3
  let x5 : TF × List Int × Int := nFlags x2 chip
  let x6 : List Int × Int := x5.2
  let x7 : Bool := nWordC x6
  let x8 : Int × List Int × Int := nWord x6
  let x9 : List Int × Int := x8.2
  let x10 : Int × List Int × Int := nWord x9
  .br (!nByteC s || (!nByteC (nByte s).2 || (!nByteC (nByte (nByte s).2).2 || (!nByteC (nByte (nByte (nByte s).2).2).2 || (!nByteC (nByte (nByte (nByte (nByte s).2).2).2).2 || (!nByteC (nByte (nByte (nByte (nByte (nByte s).2).2).2).2).2 || nByteC (nByte (nByte (nByte (nByte (nByte (nByte s).2).2).2).2).2).2))))))
  (.br (!nByteC s || (!nByteC (nByte s).2 || (!nByteC (nByte (nByte s).2).2 || (!nByteC (nByte (nByte (nByte s).2).2).2 || (!nByteC (nByte (nByte (nByte (nByte s).2).2).2).2 || nByteC (nByte (nByte (nByte (nByte (nByte s).2).2).2).2).2)))))
   (.br (!nByteC s || (!nByteC (nByte s).2 || (!nByteC (nByte (nByte s).2).2 || (!nByteC (nByte (nByte (nByte s).2).2).2 || nByteC (nByte (nByte (nByte (nByte s).2).2).2).2))))
    (.br (!nByteC s || (!nByteC (nByte s).2 || (!nByteC (nByte (nByte s).2).2 || nByteC (nByte (nByte (nByte s).2).2).2)))
     (.br (!nByteC s || (!nByteC (nByte s).2 || nByteC (nByte (nByte s).2).2))
      (.br (!nByteC s || nByteC (nByte s).2)
       (.br (nByteC s)
        (.br (x4 || (!x7 || nWordC x9))
         (.br (x4 || x7)
          (.br (x3)
           (.leaf (some ((((nByte s).1, (nByte (nByte s).2).1, (nByte (nByte (nByte s).2).2).1, (nByte (nByte (nByte (nByte s).2).2).2).1, (nByte (nByte (nByte (nByte (nByte s).2).2).2).2).1, (nByte (nByte (nByte (nByte (nByte (nByte s).2).2).2).2).2).1, x1.1, x5.1, x8.1, x10.1), x10.2))))
           (.leaf none))
          (.leaf none))
         (.leaf none))
        (.leaf none))
       (.leaf none))
      (.leaf none))
     (.leaf none))
    (.leaf none))
   (.leaf none))
  (.leaf none)
def nRegs (s : List Int × Int) (chip : Int) : TR × List Int × Int := getO (nRegsRs.dflt, nRegsRb.dflt) (nRegsT s chip).val
def nRegsC (s : List Int × Int) (chip : Int) : Bool := okB (nRegsT s chip).val
def nRegsE : Entry := boxE nRegsRb nRegsTs nRegsRs (fun a => some (nRegsC a.1 a.2)) (fun a => nRegs a.1 a.2)
theorem nRegs_ok : EntryOk Tryz.prog 42 nRegsE :=
  box_part (P := Tryz.prog) (n := 63) (k := 8) (l := [(86, nByteE), (91, nFlagsE), (92, nWordE)]) (ol := []) ⟨nByte_ok, nFlags_ok, nWord_ok, trivial⟩ Tryz.func42 rfl (by kernel_rfl) Tryz.call42 trivial (rb := nRegsRb) (ts := nRegsTs) (rs := nRegsRs) (t := fun a => nRegsT a.1 a.2) (fun a => by kernel_rfl)
abbrev nOpcodeRb : R := R.pair (R.sl (R.int IntKind.i64)) (R.int IntKind.i64)
abbrev nOpcodeTs : List Sh := []
abbrev nOpcodeRs : Rs := Rs.one (Sh.one (R.int IntKind.u8))
def nOpcodeT (s : List Int × Int) : RT (Option (Int × List Int × Int)) :=
  let x1 : List Int := [251, 243, 118, 205, 201, 197, 227, 211, 219, 54, 52, 32, 48, 194, 202, 255, 62, 49]
  .br (nNextC s 3)
  (.br (!decide ((nNext s 3).1 > 0) || nNextC (nNext s 3).2 256)
   (.br (decide ((nNext s 3).1 > 0))
    (.leaf (some ((IntKind.u8.wrap (nNext (nNext s 3).2 256).1, (nNext (nNext s 3).2 256).2))))
    (.br (!nNextC (nNext s 3).2 18 || inRng (nNext (nNext s 3).2 18).1 (List.length x1))
     (.br (nNextC (nNext s 3).2 18)
      (.leaf (some ((R.get (R.int IntKind.u8) x1 (nNext (nNext s 3).2 18).1, (nNext (nNext s 3).2 18).2))))
      (.leaf none))
     (.leaf none)))
   (.leaf none))
  (.leaf none)
def nOpcode (s : List Int × Int) : Int × List Int × Int := getO (nOpcodeRs.dflt, nOpcodeRb.dflt) (nOpcodeT s).val
def nOpcodeC (s : List Int × Int) : Bool := okB (nOpcodeT s).val
def nOpcodeE : Entry := boxE nOpcodeRb nOpcodeTs nOpcodeRs (fun a => some (nOpcodeC a.1 )) (fun a => nOpcode a.1 )
theorem nOpcode_ok : EntryOk Tryz.prog 87 nOpcodeE :=
  box_part (P := Tryz.prog) (n := 7) (k := 8) (l := [(44, nNextE)]) (ol := []) ⟨nNext_ok, trivial⟩ Tryz.func87 rfl (by kernel_rfl) Tryz.call87 trivial (rb := nOpcodeRb) (ts := nOpcodeTs) (rs := nOpcodeRs) (t := fun a => nOpcodeT a.1 ) (fun a => by kernel_rfl)
end
end Go.Proofs.YtpkijkmagnhciaaGreat
