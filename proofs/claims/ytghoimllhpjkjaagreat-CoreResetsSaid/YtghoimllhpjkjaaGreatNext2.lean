/-
  Contracts of functions; each found by the symbolic executor and checked by the kernel. Conditions: none.
-/
import Derived.Test.YtghoimllhpjkjaaGreatPinsEq
import Derived.Test.YtghoimllhpjkjaaGreatS3Nil
import Derived.Test.YtghoimllhpjkjaaGreatS3D
import Derived.Test.YtghoimllhpjkjaaGreatProg
set_option linter.unusedVariables false
set_option linter.unusedSimpArgs false
open Go Go.S3 Go.Proofs
set_option maxRecDepth 100000
namespace Go.Proofs.YtghoimllhpjkjaaGreat
noncomputable section
abbrev ZNZ : Entry := Zw1 (.int .u8) 5
theorem ZNY : Zc Tryz.prog 138 ZNZ :=
 ZHE (P := Tryz.prog) (n := 15) (k := 8) (l := []) (ol := []) trivial Tryz.func138 rfl (by kernel_rfl) Tryz.call138 trivial
  (fun m => ⟨{ chk := none, v := .w (.one .nilsl), m := m, bd := [], sd := [] }, by kernel_rfl, rfl, rfl⟩)
  (fun m l h => ⟨{ chk := none, v := .w (.one (.tip (len m.stgs) 0)), m := { m with stgs := m.stgs ++ [ZjK (.int .u8) 5 l] }, bd := [], sd := [] }, by
   have e : (ZP (envX Tryz.prog [] [] 15 8) Tryz.f138 [.w (.one (.lst (.int .u8) false false true l))] m).val = cond (Nat.ble ([] ++ l).length most) (some { chk := none, v := .w (.one (.tip (len m.stgs) 0)), m := { m with stgs := m.stgs ++ [ZjK (.int .u8) 5 ([] ++ l)] }, bd := [], sd := [] }) none := by kernel_rfl
   rw [e, List.nil_append, h]; rfl, rfl, rfl⟩)
end
end Go.Proofs.YtghoimllhpjkjaaGreat
open Go.IntKind (u8 u16 i64)
namespace Go.Proofs.YtghoimllhpjkjaaGreat
noncomputable section
abbrev Cyc := QT11
abbrev cycR : R := R.pair (R.int i64) (R.pair (R.int u16) (R.pair (R.int u8) (R.int i64)))
theorem Zbf (st) (n : Int) (h : 0 ≤ n) : qAtC st n = true ∧ qAt st n = st.2.2.1.getD n.toNat 0 := by
 by_cases hn : n < (st.2.2.1.length : Int)
 ·simp [qAtC, qAt, qAtT, RT.val, iN, Zg, h, hn, okB, getO, R.get, R.dflt]
 ·have : st.2.2.1.length ≤ n.toNat := by omega
  simp [qAtC, qAt, qAtT, RT.val, iN, Zg, h, hn, okB, getO, R.get, R.dflt, List.getD_eq_getElem?_getD, List.getElem?_eq_none this]
theorem Zbs (st) (n : Int) (h : 0 ≤ n) : mAtC st n = true ∧ mAt st n = st.2.2.1.getD n.toNat 0 := by
 by_cases hn : n < (st.2.2.1.length : Int)
 ·simp [mAtC, mAt, mAtT, RT.val, iN, Zg, h, hn, okB, getO, R.get, R.dflt]
 ·have : st.2.2.1.length ≤ n.toNat := by omega
  simp [mAtC, mAt, mAtT, RT.val, iN, Zg, h, hn, okB, getO, R.get, R.dflt, List.getD_eq_getElem?_getD, List.getElem?_eq_none this]
theorem qat0 (st) : qAtC st 0 = true ∧ qAt st 0 = st.2.2.1.getD 0 0 := Zbf st 0 (by decide)
theorem qat1 (st) : qAtC st 1 = true ∧ qAt st 1 = st.2.2.1.getD 1 0 := Zbf st 1 (by decide)
theorem mat0 (st) : mAtC st 0 = true ∧ mAt st 0 = st.2.2.1.getD 0 0 := Zbs st 0 (by decide)
theorem mat1 (st) : mAtC st 1 = true ∧ mAt st 1 = st.2.2.1.getD 1 0 := Zbs st 1 (by decide)
theorem rg0 (g : List Int) : R.get (.int .u8) g 0 = g.getD 0 0 := rfl
def pick (l : List Cyc) (n : Nat) : Cyc × Bool := (l.getD n (0, 0, 0, 0), decide (n < l.length))
theorem pk (l : List Cyc) (n : Nat) : (cond (decide (iN n ≥ iN l.length)) (some (((0, 0, 0, 0) : Cyc), false)) (cond (Zg (iN n) l.length) (some (R.get cycR l (iN n), true)) none)) = some (pick l n) := by
 by_cases h : n < l.length
 ·have h1 : ¬ (l.length : Int) ≤ n := by omega
  simp [pick, h, h1, Zg, iN, R.get, R.dflt]
 ·have h1 : (l.length : Int) ≤ n := by omega
  simp [pick, h, h1, Zg, iN]
theorem Zby (x : Cyc) (l) (n : Nat) : pick (x :: l) (n + 1) = pick l n := by simp [pick]
theorem Zbx (x : Cyc) (l) : pick (x :: l) 0 = (x, true) := by simp [pick]
theorem Zw (s : Int) : Ze s = Zb s := rfl
theorem len0 (g : List Int) (a : Int) : (iN (a :: g).length == 0) = false ∧ decide (iN (a :: g).length > 0) = true ∧ Zg 0 (a :: g).length = true := by
 have : ((g.length : Int) + 1 == 0) = false := by simp; omega
 simp [iN, Zg, this]
theorem ZnE : (iN ([] : List Int).length == 0) = true ∧ decide (iN ([] : List Int).length > 0) = false ∧ Zg 0 ([] : List Int).length = false := by decide
theorem ZY (s) (n) : ZdG s n = Zai s.1.2.1 n := rfl
theorem Z9 (s) (n) : qReg s n = rGet s.1.2.1 n := rfl
theorem ZI (s) : ZgJ s = Zd1 s.2.2.2.1.2.2.2.2.2.2.1 s.1.2.1.2.2.2.2.2.2.2.1 := rfl
theorem ZJ (s i) : Zd6 s i = Zd1 i.2.2.2.2.2.2.1 s.1.2.1.2.2.2.2.2.2.2.1 := rfl
theorem Zy (s) : ZD s = cond s.2.1 s.1.2.1.2.2.2.2.2.2.2.2.2 (IntKind.wrap .u16 (s.1.2.1.2.2.2.2.2.2.2.2.2 + IntKind.wrap .u16 s.2.2.2.1.2.1)) := rfl
theorem Zz (s n) : ZA s n = cond s.2.1 s.1.2.1.2.2.2.2.2.2.2.2.2 (IntKind.wrap .u16 (s.1.2.1.2.2.2.2.2.2.2.2.2 + IntKind.wrap .u16 n)) := rfl
theorem ZbG : IntKind.wrap .i64 2 = 2 ∧ IntKind.wrap .i64 4 = 4 := by decide
theorem ZaM (s) : Zcq s 1 = true ∧ ZfI s 1 = Zcp (s.2.2.1.getD 2 0) (s.2.2.1.getD 1 0) := by
 simp [Zcq, ZfI, Zvs, RT.val, ZbG, Zbf s 2 (by decide), Zbf s 1 (by decide), okB, getO]
theorem Zb6 (s) : Zcq s 3 = true ∧ ZfI s 3 = Zcp (s.2.2.1.getD 4 0) (s.2.2.1.getD 3 0) := by
 simp [Zcq, ZfI, Zvs, RT.val, ZbG, Zbf s 4 (by decide), Zbf s 3 (by decide), okB, getO]
theorem ZaO (s) : ZbX s 1 = true ∧ Zei s 1 = Zcp (s.2.2.1.getD 2 0) (s.2.2.1.getD 1 0) := by
 simp [ZbX, Zei, ZD8, RT.val, ZbG, Zbs s 2 (by decide), Zbs s 1 (by decide), okB, getO]
theorem ZaN (s) : ZfJ s = true ∧ ZhQ s = cond (s.2.2.2.1.1 == 14) (rInr s.1.1 (s.2.2.1.getD 1 0) s.1.2.1.2.2.2.2.2.2.2.1).1 (rDcr s.1.1 (s.2.2.1.getD 1 0) s.1.2.1.2.2.2.2.2.2.2.1).1 := by
 simp [ZfJ, ZhQ, ZhP, RT.val, qat1, okB, getO]
theorem Zv (c i v) : Zge c i v = cond (i.1 == 14) (rInr c.1 v c.2.1.2.2.2.2.2.2.2.1) (rDcr c.1 v c.2.1.2.2.2.2.2.2.2.1) := rfl
abbrev FlgT := Bool × Bool × Bool × Bool × Bool × Bool × Bool
abbrev RegT := Int × Int × Int × Int × Int × Int × Int × FlgT × Int × Int
abbrev CpuT := Int × RegT × Bool × Bool × Bool × Int × Bool × Bool × Bool × Bool × Bool × Bool × Bool
abbrev InsT := QT5
def opC (c : CpuT) (inj : Bool) (k : Int) : Cyc := bif inj then (9, pcOf c, 0, 3) else (2, IntKind.wrap .u16 (pcOf c + IntKind.wrap .u16 k), 0, 3)
def Zcz (c : CpuT) (w : Int) : List Cyc := [(5, IntKind.wrap .u16 (spOf c - 1), IntKind.wrap .u8 (shrI .u16 w 8), 3), (5, IntKind.wrap .u16 (spOf c - 2), IntKind.wrap .u8 w, 3)]
def popX (c : CpuT) : List Cyc := [(4, spOf c, 0, 3), (4, IntKind.wrap .u16 (spOf c + 1), 0, 3)]
def ZK (c : CpuT) (inj : Bool) (i : InsT) : Int := bif inj then pcOf c else IntKind.wrap .u16 (pcOf c + IntKind.wrap .u16 i.2.1)
def Zbe (c : CpuT) (i : InsT) : Bool := Zd1 i.2.2.2.2.2.2.1 c.2.1.2.2.2.2.2.2.2.1
def Zix (a : Int) : List Cyc := [(2, a, 0, 3), (2, IntKind.wrap .u16 (a + 1), 0, 3)]
def Zem (c : CpuT) (a : Int) : List Cyc := [(3, a, c.2.1.2.2.2.2.2.2.1, 3), (3, IntKind.wrap .u16 (a + 1), c.2.1.2.2.2.2.2.1, 3)]
def Zcw (c : CpuT) (inj : Bool) (i : InsT) : List Cyc := bif c.1 == 2 && !Zbe c i then [opC c inj 1] else [opC c inj 1, opC c inj 2]
def ZaY (g : List Int) (n : Nat) : Int := Zcp (g.getD (n + 1) 0) (g.getD n 0)
def Zha (c : CpuT) : Cyc := (11, pcOf c, 0, 3)
def Zfc (c : CpuT) (i : InsT) (v : Int) : Int := bif i.1 == 14 then (rInr c.1 v c.2.1.2.2.2.2.2.2.2.1).1 else (rDcr c.1 v c.2.1.2.2.2.2.2.2.2.1).1
def ZjX (c : CpuT) (inj : Bool) (g : List Int) (i : InsT) : List Cyc :=
 let hl := Zai c.2.1 2
 let dst := i.2.2.1
 let src := i.2.2.2.1
 let pr := i.2.2.2.2.1
 bif i.1 == 2 then (bif src == 6 then [(2, hl, 0, 3)] else bif dst == 6 then [(3, hl, rGet c.2.1 src, 3)] else []) else
 bif i.1 == 3 then opC c inj 1 :: (bif dst == 6 then [(3, hl, g.getD 1 0, 3)] else []) else
 bif i.1 == 4 then [opC c inj 1, opC c inj 2] else
 bif i.1 == 5 then [opC c inj 1, opC c inj 2, (2, ZaY g 1, 0, 3)] else
 bif i.1 == 6 then [opC c inj 1, opC c inj 2, (3, ZaY g 1, c.2.1.1, 3)] else
 bif i.1 == 7 then opC c inj 1 :: opC c inj 2 :: Zix (ZaY g 1) else
 bif i.1 == 8 then opC c inj 1 :: opC c inj 2 :: Zem c (ZaY g 1) else
 bif i.1 == 9 then [(2, Zai c.2.1 pr, 0, 3)] else
 bif i.1 == 10 then [(3, Zai c.2.1 pr, c.2.1.1, 3)] else
 bif i.1 == 12 then (bif src == 6 then [(2, hl, 0, 3)] else []) else
 bif i.1 == 13 then [opC c inj 1] else
 bif i.1 == 14 || i.1 == 15 then (bif dst == 6 then [(2, hl, 0, 3), (3, hl, Zfc c i (g.getD 1 0), 3)] else []) else
 bif i.1 == 18 || i.1 == 40 || i.1 == 42 then [Zha c, Zha c] else
 bif i.1 == 24 then Zcw c inj i else
 bif i.1 == 25 then Zcw c inj i ++ (bif Zbe c i then Zcz c (ZK c inj i) else []) else
 bif i.1 == 26 then (bif Zbe c i then popX c else []) else
 bif i.1 == 27 then Zcz c (ZK c inj i) else
 bif i.1 == 45 then (bif Zbe c i then Zcz c (ZK c inj i) else []) else
 bif i.1 == 30 then Zcz c (bif pr == 3 then rPSW c.1 c.2.1 else Zai c.2.1 pr) else
 bif i.1 == 31 then popX c else
 bif i.1 == 32 then popX c ++ [(5, IntKind.wrap .u16 (spOf c + 1), c.2.1.2.2.2.2.2.1, 3), (5, spOf c, c.2.1.2.2.2.2.2.2.1, bif c.1 == 2 then 3 else 5)] else
 bif i.1 == 33 then [opC c inj 1, (6, Zcp (g.getD 1 0) (g.getD 1 0), 0, 3)] else
 bif i.1 == 34 then [opC c inj 1, (7, Zcp (g.getD 1 0) (g.getD 1 0), c.2.1.1, 3)] else
 bif i.1 == 37 then (bif c.1 == 2 then [] else [(10, pcOf c, 0, 3)]) else
 bif i.1 == 41 then [Zha c] else
 bif i.1 == 43 || i.1 == 44 then [opC c inj 1, Zha c] else
 bif i.1 == 46 then Zem c (Zai c.2.1 1) else
 bif i.1 == 47 then Zix (Zai c.2.1 1) else
 []
def ZiI (c : CpuT) (s : Int) (g : List Int) : List Cyc :=
 bif Zb s then (12, pcOf c, 0, 6) :: Zcz c (pcOf c)
 else (bif s == 5 then 8 else 1, pcOf c, 0, 4) :: match g with
  | [] => []
  | o :: _ => ZjX c (s == 5) g (Za c.1 o)
def Zl (c : CpuT) (s : Int) (g : List Int) : Cyc × Bool := pick (ZiI c s g) g.length
def sk (x : Cyc) : Cyc := (x.1, 0, 0, x.2.2.2)
def ZNp (c op : Int) : Bool := decide (1 ≤ (Za c op).1) && decide ((Za c op).1 ≤ 47)
theorem ZtF (c op : Int) (h : inR .u8 op) : 1 ≤ (Za c op).1 ∧ (Za c op).1 ≤ 47 := by
 have fin : ZNp c op = true → 1 ≤ (Za c op).1 ∧ (Za c op).1 ≤ 47 := by
  intro hc; simpa [ZNp] using hc
 by_cases hc : c = 2
 ·subst hc; exact fin (Ze7 (ZNp 2) (by kernel_rfl) op h)
 ·have h0 := Ze7 (ZNp 0) (by kernel_rfl) op h
  have e : Za c op = Za 0 op := by unfold Za; rw [ZkT c op hc]
  refine fin ?_
  simp only [ZNp, e] at h0 ⊢; exact h0
theorem ZtI {g : List Int} (h : (R.sl (.int .u8)).ok g) : inR .u8 (g.getD 0 0) := by
 cases g with
 | nil => rw [ZfY]; simp
 | cons x l => exact h.2 x (by simp)
theorem ZtE {n : Int} (h1 : 1 ≤ n) (h2 : n ≤ 47) : n = 1 ∨ n = 2 ∨ n = 3 ∨ n = 4 ∨ n = 5 ∨ n = 6 ∨ n = 7 ∨ n = 8 ∨ n = 9 ∨ n = 10 ∨ n = 11 ∨ n = 12 ∨ n = 13 ∨ n = 14 ∨ n = 15 ∨ n = 16 ∨ n = 17 ∨ n = 18 ∨ n = 19 ∨ n = 20 ∨ n = 21 ∨ n = 22 ∨ n = 23 ∨ n = 24 ∨ n = 25 ∨ n = 26 ∨ n = 27 ∨ n = 28 ∨ n = 29 ∨ n = 30 ∨ n = 31 ∨ n = 32 ∨ n = 33 ∨ n = 34 ∨ n = 35 ∨ n = 36 ∨ n = 37 ∨ n = 38 ∨ n = 39 ∨ n = 40 ∨ n = 41 ∨ n = 42 ∨ n = 43 ∨ n = 44 ∨ n = 45 ∨ n = 46 ∨ n = 47 := by omega
def Zc1 (k : Int) : Entry := .tree (ZP (envX Tryz.prog [(182, ZvY k), (222, qAtE)] [] 255 8) Tryz.f178)
theorem Ze0 (k : Int) : Zc Tryz.prog 178 (Zc1 k) := Zab (P := Tryz.prog) (n := 255) (k := 8) (l := [(182, ZvY k), (222, qAtE)]) (ol := []) ⟨(ZDQ k), ZhS, trivial⟩ Tryz.func178 rfl (by kernel_rfl) Tryz.call178 trivial
def Zr : Entry := .tree (ZP (envX Tryz.prog [] [] 255 8) Tryz.f230)
theorem ZX : Zc Tryz.prog 230 Zr := Zab (P := Tryz.prog) (n := 255) (k := 8) (l := []) (ol := []) trivial Tryz.func230 rfl (by kernel_rfl) Tryz.call230 trivial
def Za7 : Entry := .tree (ZP (envX Tryz.prog [(230, Zr)] [] 15 8) Tryz.f180)
theorem Zcs : Zc Tryz.prog 180 Za7 := Zab (P := Tryz.prog) (n := 15) (k := 8) (l := [(230, Zr)]) (ol := []) ⟨ZX, trivial⟩ Tryz.func180 rfl (by kernel_rfl) Tryz.call180 trivial
def ZC : Entry := .tree (ZP (envX Tryz.prog [(230, Zr)] [] 31 8) Tryz.f233)
theorem Zam : Zc Tryz.prog 233 ZC := Zab (P := Tryz.prog) (n := 31) (k := 8) (l := [(230, Zr)]) (ol := []) ⟨ZX, trivial⟩ Tryz.func233 rfl (by kernel_rfl) Tryz.call233 trivial
def Zat : Entry := .tree (ZP (envX Tryz.prog [(230, Zr)] [] 63 8) Tryz.f237)
theorem Zcm : Zc Tryz.prog 237 Zat := Zab (P := Tryz.prog) (n := 63) (k := 8) (l := [(230, Zr)]) (ol := []) ⟨ZX, trivial⟩ Tryz.func237 rfl (by kernel_rfl) Tryz.call237 trivial
def ZaV : Entry := .tree (ZP (envX Tryz.prog [(230, Zr), (233, ZC), (237, Zat), (270, Zl0)] [] 268570631 8) Tryz.f235)
theorem Zdl : Zc Tryz.prog 235 ZaV := Zab (P := Tryz.prog) (n := 268570631) (k := 8) (l := [(230, Zr), (233, ZC), (237, Zat), (270, Zl0)]) (ol := []) ⟨ZX, Zam, Zcm, ZrI, trivial⟩ Tryz.func235 rfl (by kernel_rfl) Tryz.call235 trivial
def ZbT : Entry := .tree (ZP (envX Tryz.prog [(233, ZC), (280, Zg0)] [] 15 8) Tryz.f288)
theorem Zfi : Zc Tryz.prog 288 ZbT := Zab (P := Tryz.prog) (n := 15) (k := 8) (l := [(233, ZC), (280, Zg0)]) (ol := []) ⟨Zam, ZlY, trivial⟩ Tryz.func288 rfl (by kernel_rfl) Tryz.call288 trivial
def Zb1 : Entry := .tree (ZP (envX Tryz.prog [(230, Zr)] [] 3 8) Tryz.f289)
theorem ZfZ : Zc Tryz.prog 289 Zb1 := Zab (P := Tryz.prog) (n := 3) (k := 8) (l := [(230, Zr)]) (ol := []) ⟨ZX, trivial⟩ Tryz.func289 rfl (by kernel_rfl) Tryz.call289 trivial
def ZbU : Entry := .tree (ZP (envX Tryz.prog [(230, Zr)] [] 15 8) Tryz.f291)
theorem Zfj : Zc Tryz.prog 291 ZbU := Zab (P := Tryz.prog) (n := 15) (k := 8) (l := [(230, Zr)]) (ol := []) ⟨ZX, trivial⟩ Tryz.func291 rfl (by kernel_rfl) Tryz.call291 trivial
def ZaQ : Entry := .tree (ZP (envX Tryz.prog [(180, Za7), (223, ZhR), (230, Zr), (231, ZfG), (233, ZC), (280, Zg0), (288, ZbT), (289, Zb1), (290, ZLE), (291, ZbU)] [] 1517844491342638470129438826421819271357141255 8) Tryz.f238)
theorem Zc5 : Zc Tryz.prog 238 ZaQ := Zab (P := Tryz.prog) (n := 1517844491342638470129438826421819271357141255) (k := 8) (l := [(180, Za7), (223, ZhR), (230, Zr), (231, ZfG), (233, ZC), (280, Zg0), (288, ZbT), (289, Zb1), (290, ZLE), (291, ZbU)]) (ol := []) ⟨Zcs, Zpe, ZX, ZhM, Zam, ZlY, Zfi, ZfZ, ZPR, Zfj, trivial⟩ Tryz.func238 rfl (by kernel_rfl) Tryz.call238 trivial
def Zdc : Entry := .tree (ZP (envX Tryz.prog [(222, qAtE), (230, Zr), (231, ZfG), (232, Zvr), (233, ZC), (234, Zl1), (235, ZaV), (236, Zsp), (237, Zat), (238, ZaQ)] [] 2854495396045824897803138545268610783927869455 8) Tryz.f181)
theorem Zfk : Zc Tryz.prog 181 Zdc := Zab (P := Tryz.prog) (n := 2854495396045824897803138545268610783927869455) (k := 8) (l := [(222, qAtE), (230, Zr), (231, ZfG), (232, Zvr), (233, ZC), (234, Zl1), (235, ZaV), (236, Zsp), (237, Zat), (238, ZaQ)]) (ol := []) ⟨ZhS, ZX, ZhM, ZrH, Zam, Zy9, Zdl, ZvT, Zcm, Zc5, trivial⟩ Tryz.func181 rfl (by kernel_rfl) Tryz.call181 trivial
abbrev Zk : List Sh := [Sh.agg Zx, Sh.one (R.int i64), Sh.one (R.sl (R.int u8))]
abbrev ZF : Rs := Rs.tup [Sh.agg (RY), Sh.one R.bool]
def Z1 (k : Int) : List (FuncId × Entry) := [(176, ZiL), (178, Zc1 k), (180, Za7), (181, Zdc)]
theorem ZLM (k : Int) : ZdU Tryz.prog (Z1 k) := ⟨Zjr, (Ze0 k), Zcs, Zfk, trivial⟩
def Zt : Entry := .tree (ZP (envX Tryz.prog [] [] 255 8) Tryz.f162)
theorem Z3 : Zc Tryz.prog 162 Zt := Zab (P := Tryz.prog) (n := 255) (k := 8) (l := []) (ol := []) trivial Tryz.func162 rfl (by kernel_rfl) Tryz.call162 trivial
def Zak : Entry := .tree (ZP (envX Tryz.prog [(162, Zt)] [] 15 8) Tryz.f105)
theorem Zbm : Zc Tryz.prog 105 Zak := Zab (P := Tryz.prog) (n := 15) (k := 8) (l := [(162, Zt)]) (ol := []) ⟨Z3, trivial⟩ Tryz.func105 rfl (by kernel_rfl) Tryz.call105 trivial
def ZR : Entry := .tree (ZP (envX Tryz.prog [(162, Zt)] [] 31 8) Tryz.f164)
theorem Za0 : Zc Tryz.prog 164 ZR := Zab (P := Tryz.prog) (n := 31) (k := 8) (l := [(162, Zt)]) (ol := []) ⟨Z3, trivial⟩ Tryz.func164 rfl (by kernel_rfl) Tryz.call164 trivial
def ZaP : Entry := .tree (ZP (envX Tryz.prog [(162, Zt)] [] 31 8) Tryz.f167)
theorem Zc3 : Zc Tryz.prog 167 ZaP := Zab (P := Tryz.prog) (n := 31) (k := 8) (l := [(162, Zt)]) (ol := []) ⟨Z3, trivial⟩ Tryz.func167 rfl (by kernel_rfl) Tryz.call167 trivial
def ZaC : Entry := .tree (ZP (envX Tryz.prog [(146, rOnE), (164, ZR), (169, Zg8)] [] 15 8) Tryz.f168)
theorem ZcH : Zc Tryz.prog 168 ZaC := Zab (P := Tryz.prog) (n := 15) (k := 8) (l := [(146, rOnE), (164, ZR), (169, Zg8)]) (ol := []) ⟨ZdF, Za0, Znr, trivial⟩ Tryz.func168 rfl (by kernel_rfl) Tryz.call168 trivial
def ZaU : Entry := .tree (ZP (envX Tryz.prog [(162, Zt)] [] 3 8) Tryz.f170)
theorem Zdk : Zc Tryz.prog 170 ZaU := Zab (P := Tryz.prog) (n := 3) (k := 8) (l := [(162, Zt)]) (ol := []) ⟨Z3, trivial⟩ Tryz.func170 rfl (by kernel_rfl) Tryz.call170 trivial
def ZbC : Entry := .tree (ZP (envX Tryz.prog [(105, Zak), (146, rOnE), (153, mAtE), (157, Zgq), (158, Zfz), (162, Zt), (163, ZlU), (164, ZR), (165, Znq), (166, Zfu), (167, ZaP), (168, ZaC), (169, Zg8), (170, ZaU), (171, ZJT), (172, ZlR)] [] 546879438939764547011187383507185256060619065560359097919357232620146805215141852592455017411118079 8) Tryz.f106)
theorem Zc4 : Zc Tryz.prog 106 ZbC := Zab (P := Tryz.prog) (n := 546879438939764547011187383507185256060619065560359097919357232620146805215141852592455017411118079) (k := 8) (l := [(105, Zak), (146, rOnE), (153, mAtE), (157, Zgq), (158, Zfz), (162, Zt), (163, ZlU), (164, ZR), (165, Znq), (166, Zfu), (167, ZaP), (168, ZaC), (169, Zg8), (170, ZaU), (171, ZJT), (172, ZlR)]) (ol := []) ⟨Zbm, ZdF, ZwA, ZiY, ZhH, Z3, ZqX, Za0, Ztx, Zk1, Zc3, ZcH, Znr, Zdk, ZPc, ZhJ, trivial⟩ Tryz.func106 rfl (by kernel_rfl) Tryz.call106 trivial
abbrev Zj : List Sh := [Sh.agg Zx, Sh.one (R.int i64), Sh.one (R.sl (R.int u8))]
abbrev ZE : Rs := Rs.tup [Sh.agg (RY), Sh.one R.bool]
def ZZ (k : Int) : List (FuncId × Entry) := [(104, Zgh), (105, Zak), (106, ZbC), (107, ZKC k)]
theorem ZJ3 (k : Int) : ZdU Tryz.prog (ZZ k) := ⟨ZfC, Zbm, Zc4, (ZC7 k), trivial⟩
def Zsj (c : TC) (s : Int) (g : List Int) : RT (Option (TY × Bool)) :=
 let x1 : QT1 := (c, s == 5, g, (0, 0, 0, 0, 0, 0, 0, 0), [])
 let x2 := qAtC x1 0
 let x3 := !x2 || (Za c.1 (qAt x1 0)).1 == 1
 let x4 : List TY := [] ++ [(12, pcOf c, 0, 6)] ++ [(5, u16.wrap ((spOf c) - 1), u8.wrap (shrI u16 (pcOf c) 8), 3)] ++ [(5, u16.wrap ((spOf c) - 2), u8.wrap (pcOf c), 3)]
 let x6 : QT6 := ((pcOf c), 0, 4)
 let x7 : List TY := [] ++ [(bif s == 5 then 8 else 1, x6)]
 let x9 : List TY := [] ++ [(1, x6)]
 .br (!x3 || x2) (.br (x3) (.br (Ze s) (fin3 g x4) (.br (iN (List.length g) == 0) (fin3 g x7) (fin3 g x9))) (.leaf none)) (.leaf none)
theorem ZGq (a : HL Zk) : Zh (envX Tryz.prog (Z1 1) [] 1125900980585471 8) Tryz.f113 Zk ZF a = Zsj a.1 a.2.1 a.2.2 := by kernel_rfl
def Zsf (c : TC) (s : Int) (g : List Int) : RT (Option (TY × Bool)) :=
 let x1 : QT1 := (c, s == 5, g, (0, 0, 0, 0, 0, 0, 0, 0), [])
 let x2 := qAtC x1 0
 let x3 := Za c.1 (qAt x1 0)
 let x4 := !x2 || x3.1 == 5
 let x5 : QT6 := ((pcOf c), 0, 4)
 let x6 : List TY := [] ++ [(1, x5)]
 let x7 : List TY := [(9, pcOf c, 0, 3)]
 let x8 : List TY := bif s == 5 then x6 ++ x7 else x6 ++ [(2, u16.wrap ((pcOf c) + u16.wrap 1), 0, 3)]
 let x9 : List TY := bif s == 5 then x8 ++ x7 else x8 ++ [(2, u16.wrap ((pcOf c) + u16.wrap (i64.wrap (1 + 1))), 0, 3)]
 let x10 : QT1 := (c, s == 5, g, (5, x3.2), x9)
 let x11 : List TY := [] ++ [(12, pcOf c, 0, 6)] ++ [(5, u16.wrap ((spOf c) - 1), u8.wrap (shrI u16 (pcOf c) 8), 3)] ++ [(5, u16.wrap ((spOf c) - 2), u8.wrap (pcOf c), 3)]
 let x13 : List TY := [] ++ [(bif s == 5 then 8 else 1, x5)]
 let x15 : List TY := x9 ++ [(2, ZfI x10 1, 0, 3)]
 .br (!x4 || x2) (.br (x4) (.br (Ze s || (iN (List.length g) == 0 || Zcq x10 1)) (.br (Ze s) (fin3 g x11) (.br (iN (List.length g) == 0) (fin3 g x13) (fin3 g x15))) (.leaf none)) (.leaf none)) (.leaf none)
theorem ZGm (a : HL Zk) : Zh (envX Tryz.prog (Z1 5) [] 1125900980585471 8) Tryz.f113 Zk ZF a = Zsf a.1 a.2.1 a.2.2 := by kernel_rfl
def Zsb (c : TC) (s : Int) (g : List Int) : RT (Option (TY × Bool)) :=
 let x1 : QT1 := (c, s == 5, g, (0, 0, 0, 0, 0, 0, 0, 0), [])
 let x2 := qAtC x1 0
 let x3 := Za c.1 (qAt x1 0)
 let x4 := !x2 || x3.1 == 9
 let x5 : List TY := [] ++ [(12, pcOf c, 0, 6)] ++ [(5, u16.wrap ((spOf c) - 1), u8.wrap (shrI u16 (pcOf c) 8), 3)] ++ [(5, u16.wrap ((spOf c) - 2), u8.wrap (pcOf c), 3)]
 let x7 : QT6 := ((pcOf c), 0, 4)
 let x8 : List TY := [] ++ [(bif s == 5 then 8 else 1, x7)]
 let x10 : List TY := [] ++ [(1, x7)]
 let x11 := x3.2
 let x12 : List TY := x10 ++ [(2, ZdG (c, s == 5, g, (9, x11), x10) x11.2.2.2.1, 0, 3)]
 .br (!x4 || x2) (.br (x4) (.br (Ze s) (fin3 g x5) (.br (iN (List.length g) == 0) (fin3 g x8) (fin3 g x12))) (.leaf none)) (.leaf none)
theorem ZGi (a : HL Zk) : Zh (envX Tryz.prog (Z1 9) [] 1125900980585471 8) Tryz.f113 Zk ZF a = Zsb a.1 a.2.1 a.2.2 := by kernel_rfl
def ZmR (c : TC) (s : Int) (g : List Int) : RT (Option (TY × Bool)) :=
 let x1 : QT1 := (c, s == 5, g, (0, 0, 0, 0, 0, 0, 0, 0), [])
 let x2 := qAtC x1 0
 let x3 := !x2 || (Za c.1 (qAt x1 0)).1 == 13
 let x4 : List TY := [] ++ [(12, pcOf c, 0, 6)] ++ [(5, u16.wrap ((spOf c) - 1), u8.wrap (shrI u16 (pcOf c) 8), 3)] ++ [(5, u16.wrap ((spOf c) - 2), u8.wrap (pcOf c), 3)]
 let x6 : QT6 := ((pcOf c), 0, 4)
 let x7 : List TY := [] ++ [(bif s == 5 then 8 else 1, x6)]
 let x9 : List TY := [] ++ [(1, x6)]
 let x10 : List TY := bif s == 5 then x9 ++ [(9, pcOf c, 0, 3)] else x9 ++ [(2, u16.wrap ((pcOf c) + u16.wrap 1), 0, 3)]
 .br (!x3 || x2) (.br (x3) (.br (Ze s) (fin3 g x4) (.br (iN (List.length g) == 0) (fin3 g x7) (fin3 g x10))) (.leaf none)) (.leaf none)
theorem ZAc (a : HL Zk) : Zh (envX Tryz.prog (Z1 13) [] 1125900980585471 8) Tryz.f113 Zk ZF a = ZmR a.1 a.2.1 a.2.2 := by kernel_rfl
def ZmN (c : TC) (s : Int) (g : List Int) : RT (Option (TY × Bool)) :=
 let x1 : QT1 := (c, s == 5, g, (0, 0, 0, 0, 0, 0, 0, 0), [])
 let x2 := qAtC x1 0
 let x3 := !x2 || (Za c.1 (qAt x1 0)).1 == 17
 let x4 : List TY := [] ++ [(12, pcOf c, 0, 6)] ++ [(5, u16.wrap ((spOf c) - 1), u8.wrap (shrI u16 (pcOf c) 8), 3)] ++ [(5, u16.wrap ((spOf c) - 2), u8.wrap (pcOf c), 3)]
 let x6 : QT6 := ((pcOf c), 0, 4)
 let x7 : List TY := [] ++ [(bif s == 5 then 8 else 1, x6)]
 let x9 : List TY := [] ++ [(1, x6)]
 .br (!x3 || x2) (.br (x3) (.br (Ze s) (fin3 g x4) (.br (iN (List.length g) == 0) (fin3 g x7) (fin3 g x9))) (.leaf none)) (.leaf none)
theorem Zz8 (a : HL Zk) : Zh (envX Tryz.prog (Z1 17) [] 1125900980585471 8) Tryz.f113 Zk ZF a = ZmN a.1 a.2.1 a.2.2 := by kernel_rfl
def ZmJ (c : TC) (s : Int) (g : List Int) : RT (Option (TY × Bool)) :=
 let x1 : QT1 := (c, s == 5, g, (0, 0, 0, 0, 0, 0, 0, 0), [])
 let x2 := qAtC x1 0
 let x3 := !x2 || (Za c.1 (qAt x1 0)).1 == 21
 let x4 : List TY := [] ++ [(12, pcOf c, 0, 6)] ++ [(5, u16.wrap ((spOf c) - 1), u8.wrap (shrI u16 (pcOf c) 8), 3)] ++ [(5, u16.wrap ((spOf c) - 2), u8.wrap (pcOf c), 3)]
 let x6 : QT6 := ((pcOf c), 0, 4)
 let x7 : List TY := [] ++ [(bif s == 5 then 8 else 1, x6)]
 let x9 : List TY := [] ++ [(1, x6)]
 .br (!x3 || x2) (.br (x3) (.br (Ze s) (fin3 g x4) (.br (iN (List.length g) == 0) (fin3 g x7) (fin3 g x9))) (.leaf none)) (.leaf none)
theorem Zz4 (a : HL Zk) : Zh (envX Tryz.prog (Z1 21) [] 1125900980585471 8) Tryz.f113 Zk ZF a = ZmJ a.1 a.2.1 a.2.2 := by kernel_rfl
def ZmF (c : TC) (s : Int) (g : List Int) : RT (Option (TY × Bool)) :=
 let x1 : QT1 := (c, s == 5, g, (0, 0, 0, 0, 0, 0, 0, 0), [])
 let x2 := qAtC x1 0
 let x3 := Za c.1 (qAt x1 0)
 let x4 := !x2 || x3.1 == 25
 let x5 := u16.wrap ((spOf c) - 1)
 let x6 := u16.wrap ((spOf c) - 2)
 let x7 : List TY := [] ++ [(12, pcOf c, 0, 6)] ++ [(5, x5, u8.wrap (shrI u16 (pcOf c) 8), 3)] ++ [(5, x6, u8.wrap (pcOf c), 3)]
 let x9 : QT6 := ((pcOf c), 0, 4)
 let x10 : List TY := [] ++ [(bif s == 5 then 8 else 1, x9)]
 let x12 : QT5 := (25, x3.2)
 let x13 : List TY := [] ++ [(1, x9)]
 let x14 := ZgJ (c, s == 5, g, x12, x13)
 let x15 : List TY := [(9, pcOf c, 0, 3)]
 let x16 : List TY := bif s == 5 then x13 ++ x15 else x13 ++ [(2, u16.wrap ((pcOf c) + u16.wrap 1), 0, 3)]
 let x17 : List TY := bif !x14 && c.1 == 2 then x16 else bif s == 5 then x16 ++ x15 else x16 ++ [(2, u16.wrap ((pcOf c) + u16.wrap (i64.wrap (1 + 1))), 0, 3)]
 let x18 := ZD (c, s == 5, g, x12, x17)
 let x19 : List TY := bif x14 then x17 ++ [(5, x5, u8.wrap (shrI u16 x18 8), 3)] ++ [(5, x6, u8.wrap x18, 3)] else x17
 .br (!x4 || x2) (.br (x4) (.br (Ze s) (fin3 g x7) (.br (iN (List.length g) == 0) (fin3 g x10) (fin3 g x19))) (.leaf none)) (.leaf none)
theorem Zz0 (a : HL Zk) : Zh (envX Tryz.prog (Z1 25) [] 1125900980585471 8) Tryz.f113 Zk ZF a = ZmF a.1 a.2.1 a.2.2 := by kernel_rfl
def ZmB (c : TC) (s : Int) (g : List Int) : RT (Option (TY × Bool)) :=
 let x1 : QT1 := (c, s == 5, g, (0, 0, 0, 0, 0, 0, 0, 0), [])
 let x2 := qAtC x1 0
 let x3 := !x2 || (Za c.1 (qAt x1 0)).1 == 29
 let x4 : List TY := [] ++ [(12, pcOf c, 0, 6)] ++ [(5, u16.wrap ((spOf c) - 1), u8.wrap (shrI u16 (pcOf c) 8), 3)] ++ [(5, u16.wrap ((spOf c) - 2), u8.wrap (pcOf c), 3)]
 let x6 : QT6 := ((pcOf c), 0, 4)
 let x7 : List TY := [] ++ [(bif s == 5 then 8 else 1, x6)]
 let x9 : List TY := [] ++ [(1, x6)]
 .br (!x3 || x2) (.br (x3) (.br (Ze s) (fin3 g x4) (.br (iN (List.length g) == 0) (fin3 g x7) (fin3 g x9))) (.leaf none)) (.leaf none)
theorem ZzW (a : HL Zk) : Zh (envX Tryz.prog (Z1 29) [] 1125900980585471 8) Tryz.f113 Zk ZF a = ZmB a.1 a.2.1 a.2.2 := by kernel_rfl
def Zmx (c : TC) (s : Int) (g : List Int) : RT (Option (TY × Bool)) :=
 let x1 : QT1 := (c, s == 5, g, (0, 0, 0, 0, 0, 0, 0, 0), [])
 let x2 := qAtC x1 0
 let x3 := Za c.1 (qAt x1 0)
 let x4 := !x2 || x3.1 == 33
 let x5 : QT6 := ((pcOf c), 0, 4)
 let x6 : List TY := [] ++ [(1, x5)]
 let x7 : List TY := bif s == 5 then x6 ++ [(9, pcOf c, 0, 3)] else x6 ++ [(2, u16.wrap ((pcOf c) + u16.wrap 1), 0, 3)]
 let x8 : QT1 := (c, s == 5, g, (33, x3.2), x7)
 let x9 := qAtC x8 1
 let x10 := !x9 || x9
 let x11 := !x10 || x9
 let x12 := Ze s || (iN (List.length g) == 0 || (!x11 || x10))
 let x13 : List TY := [] ++ [(12, pcOf c, 0, 6)] ++ [(5, u16.wrap ((spOf c) - 1), u8.wrap (shrI u16 (pcOf c) 8), 3)] ++ [(5, u16.wrap ((spOf c) - 2), u8.wrap (pcOf c), 3)]
 let x15 : List TY := [] ++ [(bif s == 5 then 8 else 1, x5)]
 let x17 := qAt x8 1
 let x18 : List TY := x7 ++ [(6, Zcp x17 x17, 0, 3)]
 .br (!x4 || x2) (.br (x4) (.br (!x12 || (Ze s || (iN (List.length g) == 0 || x11))) (.br (x12) (.br (Ze s) (fin3 g x13) (.br (iN (List.length g) == 0) (fin3 g x15) (fin3 g x18))) (.leaf none)) (.leaf none)) (.leaf none)) (.leaf none)
theorem ZzS (a : HL Zk) : Zh (envX Tryz.prog (Z1 33) [] 1125900980585471 8) Tryz.f113 Zk ZF a = Zmx a.1 a.2.1 a.2.2 := by kernel_rfl
def Zmt (c : TC) (s : Int) (g : List Int) : RT (Option (TY × Bool)) :=
 let x1 : QT1 := (c, s == 5, g, (0, 0, 0, 0, 0, 0, 0, 0), [])
 let x2 := qAtC x1 0
 let x3 := !x2 || (Za c.1 (qAt x1 0)).1 == 37
 let x4 : List TY := [] ++ [(12, pcOf c, 0, 6)] ++ [(5, u16.wrap ((spOf c) - 1), u8.wrap (shrI u16 (pcOf c) 8), 3)] ++ [(5, u16.wrap ((spOf c) - 2), u8.wrap (pcOf c), 3)]
 let x6 : QT6 := ((pcOf c), 0, 4)
 let x7 : List TY := [] ++ [(bif s == 5 then 8 else 1, x6)]
 let x9 : List TY := [] ++ [(1, x6)]
 let x10 : List TY := bif c.1 != 2 then x9 ++ [(10, pcOf c, 0, 3)] else x9
 .br (!x3 || x2) (.br (x3) (.br (Ze s) (fin3 g x4) (.br (iN (List.length g) == 0) (fin3 g x7) (fin3 g x10))) (.leaf none)) (.leaf none)
theorem ZzO (a : HL Zk) : Zh (envX Tryz.prog (Z1 37) [] 1125900980585471 8) Tryz.f113 Zk ZF a = Zmt a.1 a.2.1 a.2.2 := by kernel_rfl
def Zmp (c : TC) (s : Int) (g : List Int) : RT (Option (TY × Bool)) :=
 let x1 : QT1 := (c, s == 5, g, (0, 0, 0, 0, 0, 0, 0, 0), [])
 let x2 := qAtC x1 0
 let x3 := !x2 || (Za c.1 (qAt x1 0)).1 == 41
 let x4 : List TY := [] ++ [(12, pcOf c, 0, 6)] ++ [(5, u16.wrap ((spOf c) - 1), u8.wrap (shrI u16 (pcOf c) 8), 3)] ++ [(5, u16.wrap ((spOf c) - 2), u8.wrap (pcOf c), 3)]
 let x6 : QT6 := ((pcOf c), 0, 4)
 let x7 : List TY := [] ++ [(bif s == 5 then 8 else 1, x6)]
 let x9 : List TY := [] ++ [(1, x6)] ++ [(11, pcOf c, 0, 3)]
 .br (!x3 || x2) (.br (x3) (.br (Ze s) (fin3 g x4) (.br (iN (List.length g) == 0) (fin3 g x7) (fin3 g x9))) (.leaf none)) (.leaf none)
theorem ZzK (a : HL Zk) : Zh (envX Tryz.prog (Z1 41) [] 1125900980585471 8) Tryz.f113 Zk ZF a = Zmp a.1 a.2.1 a.2.2 := by kernel_rfl
def Zml (c : TC) (s : Int) (g : List Int) : RT (Option (TY × Bool)) :=
 let x1 : QT1 := (c, s == 5, g, (0, 0, 0, 0, 0, 0, 0, 0), [])
 let x2 := qAtC x1 0
 let x3 := Za c.1 (qAt x1 0)
 let x4 := !x2 || x3.1 == 45
 let x5 := u16.wrap ((spOf c) - 1)
 let x6 := u16.wrap ((spOf c) - 2)
 let x7 : List TY := [] ++ [(12, pcOf c, 0, 6)] ++ [(5, x5, u8.wrap (shrI u16 (pcOf c) 8), 3)] ++ [(5, x6, u8.wrap (pcOf c), 3)]
 let x9 : QT6 := ((pcOf c), 0, 4)
 let x10 : List TY := [] ++ [(bif s == 5 then 8 else 1, x9)]
 let x12 : List TY := [] ++ [(1, x9)]
 let x13 : QT1 := (c, s == 5, g, (45, x3.2), x12)
 let x14 := ZD x13
 let x15 : List TY := bif ZgJ x13 then x12 ++ [(5, x5, u8.wrap (shrI u16 x14 8), 3)] ++ [(5, x6, u8.wrap x14, 3)] else x12
 .br (!x4 || x2) (.br (x4) (.br (Ze s) (fin3 g x7) (.br (iN (List.length g) == 0) (fin3 g x10) (fin3 g x15))) (.leaf none)) (.leaf none)
theorem ZzG (a : HL Zk) : Zh (envX Tryz.prog (Z1 45) [] 1125900980585471 8) Tryz.f113 Zk ZF a = Zml a.1 a.2.1 a.2.2 := by kernel_rfl
def ZqT (c : TC) (s : Int) (g : List Int) : RT (Option (TY × Bool)) :=
 let x1 : List TY := [(12, pcOf c, 0, 6)] ++ [(5, u16.wrap ((spOf c) - 1), u8.wrap (shrI u16 (pcOf c) 8), 3)] ++ [(5, u16.wrap ((spOf c) - 2), u8.wrap (pcOf c), 3)]
 let x3 : List TY := [(bif s == 5 then 8 else 1, pcOf c, 0, 4)]
 let x4 : List TY := x3 ++ [(2, Zai c.2.1 2, 0, 3)]
 let x6 : List TY := x3 ++ [(3, Zai c.2.1 2, rGet c.2.1 (Za c.1 (R.get (R.int u8) g 0)).2.2.2.1, 3)]
 let x8 : Nat := List.length x3
 let x9 := decide (iN (List.length g) ≥ iN x8)
 let x10 := Zg (iN (List.length g)) x8
 let x11 : TY × Bool := (R.get (RY) x3 (iN (List.length g)), true)
 .br (Zb s || (!decide (iN (List.length g) > 0) || (!Zg 0 (List.length g) || (Za c.1 (R.get (R.int u8) g 0)).1 == 2))) (.br (Zb s || (!decide (iN (List.length g) > 0) || Zg 0 (List.length g))) (.br (Zb s) (fin3 g x1) (.br (decide (iN (List.length g) > 0)) (.br ((Za c.1 (R.get (R.int u8) g 0)).2.2.2.1 == 6) (fin3 g x4) (.br ((Za c.1 (R.get (R.int u8) g 0)).2.2.1 == 6) (fin3 g x6) (.br (x9) (.leaf (some (((0, 0, 0, 0), false)))) (.br (x10) (.leaf (some (x11))) (.leaf none))))) (.br (x9) (.leaf (some (((0, 0, 0, 0), false)))) (.br (x10) (.leaf (some (x11))) (.leaf none))))) (.leaf none)) (.leaf none)
theorem ZFl (a : HL Zj) : Zh (envX Tryz.prog (ZZ 2) [] 2047 8) Tryz.f42 Zj ZE a = ZqT a.1 a.2.1 a.2.2 := by kernel_rfl
def ZqP (c : TC) (s : Int) (g : List Int) : RT (Option (TY × Bool)) :=
 let x1 : List TY := [(bif s == 5 then 8 else 1, pcOf c, 0, 4)]
 let x2 : List TY := [(9, pcOf c, 0, 3)]
 let x3 : List TY := x1 ++ x2
 let x4 : List TY := [(2, u16.wrap ((pcOf c) + u16.wrap (i64.wrap (1 + 1))), 0, 3)]
 let x5 : List TY := bif s == 5 then x3 ++ x2 else x3 ++ x4
 let x6 : QT4 := (c, s == 5, g, x5)
 let x7 := !s == 5 || ZbX x6 1
 let x8 : List TY := x1 ++ [(2, u16.wrap ((pcOf c) + u16.wrap 1), 0, 3)]
 let x9 : List TY := bif s == 5 then x8 ++ x2 else x8 ++ x4
 let x10 : QT4 := (c, s == 5, g, x9)
 let x11 : List TY := [(12, pcOf c, 0, 6)] ++ [(5, u16.wrap ((spOf c) - 1), u8.wrap (shrI u16 (pcOf c) 8), 3)] ++ [(5, u16.wrap ((spOf c) - 2), u8.wrap (pcOf c), 3)]
 let x13 : List TY := x5 ++ [(3, Zei x6 1, c.2.1.1, 3)]
 let x15 : List TY := x9 ++ [(3, Zei x10 1, c.2.1.1, 3)]
 .br (Zb s || (!decide (iN (List.length g) > 0) || (!Zg 0 (List.length g) || (!(Za c.1 (R.get (R.int u8) g 0)).1 == 6 || (!x7 || (s == 5 || ZbX x10 1)))))) (.br (Zb s || (!decide (iN (List.length g) > 0) || (!Zg 0 (List.length g) || (!(Za c.1 (R.get (R.int u8) g 0)).1 == 6 || x7)))) (.br (Zb s || (!decide (iN (List.length g) > 0) || (!Zg 0 (List.length g) || (Za c.1 (R.get (R.int u8) g 0)).1 == 6))) (.br (Zb s || (!decide (iN (List.length g) > 0) || Zg 0 (List.length g))) (.br (Zb s) (fin3 g x11) (.br (decide (iN (List.length g) > 0)) (.br (s == 5) (fin3 g x13) (fin3 g x15)) (fin3 g x1))) (.leaf none)) (.leaf none)) (.leaf none)) (.leaf none)
theorem ZFh (a : HL Zj) : Zh (envX Tryz.prog (ZZ 6) [] 2047 8) Tryz.f42 Zj ZE a = ZqP a.1 a.2.1 a.2.2 := by kernel_rfl
def ZlM (c : TC) (s : Int) (g : List Int) : RT (Option (TY × Bool)) :=
 let x1 : List TY := [(12, pcOf c, 0, 6)] ++ [(5, u16.wrap ((spOf c) - 1), u8.wrap (shrI u16 (pcOf c) 8), 3)] ++ [(5, u16.wrap ((spOf c) - 2), u8.wrap (pcOf c), 3)]
 let x3 : List TY := [(bif s == 5 then 8 else 1, pcOf c, 0, 4)]
 let x4 : List TY := x3 ++ [(3, Zai c.2.1 (Za c.1 (R.get (R.int u8) g 0)).2.2.2.2.1, c.2.1.1, 3)]
 .br (Zb s || (!decide (iN (List.length g) > 0) || (!Zg 0 (List.length g) || (Za c.1 (R.get (R.int u8) g 0)).1 == 10))) (.br (Zb s || (!decide (iN (List.length g) > 0) || Zg 0 (List.length g))) (.br (Zb s) (fin3 g x1) (.br (decide (iN (List.length g) > 0)) (fin3 g x4) (fin3 g x3))) (.leaf none)) (.leaf none)
theorem ZyJ (a : HL Zj) : Zh (envX Tryz.prog (ZZ 10) [] 2047 8) Tryz.f42 Zj ZE a = ZlM a.1 a.2.1 a.2.2 := by kernel_rfl
def ZlI (c : TC) (s : Int) (g : List Int) : RT (Option (TY × Bool)) :=
 let x1 : List TY := [(bif s == 5 then 8 else 1, pcOf c, 0, 4)]
 let x2 : QT4 := (c, s == 5, g, x1)
 let x3 : List TY := [(12, pcOf c, 0, 6)] ++ [(5, u16.wrap ((spOf c) - 1), u8.wrap (shrI u16 (pcOf c) 8), 3)] ++ [(5, u16.wrap ((spOf c) - 2), u8.wrap (pcOf c), 3)]
 let x5 : List TY := x1 ++ [(2, Zai c.2.1 2, 0, 3)] ++ [(3, Zai c.2.1 2, (Zge c (14, (Za c.1 (R.get (R.int u8) g 0)).2) (mAt x2 1)).1, 3)]
 let x7 : Nat := List.length x1
 let x8 := decide (iN (List.length g) ≥ iN x7)
 let x9 := Zg (iN (List.length g)) x7
 let x10 : TY × Bool := (R.get (RY) x1 (iN (List.length g)), true)
 .br (Zb s || (!decide (iN (List.length g) > 0) || (!Zg 0 (List.length g) || (!(Za c.1 (R.get (R.int u8) g 0)).1 == 14 || (!(Za c.1 (R.get (R.int u8) g 0)).2.2.1 == 6 || mAtC x2 1))))) (.br (Zb s || (!decide (iN (List.length g) > 0) || (!Zg 0 (List.length g) || (Za c.1 (R.get (R.int u8) g 0)).1 == 14))) (.br (Zb s || (!decide (iN (List.length g) > 0) || Zg 0 (List.length g))) (.br (Zb s) (fin3 g x3) (.br (decide (iN (List.length g) > 0)) (.br ((Za c.1 (R.get (R.int u8) g 0)).2.2.1 == 6) (fin3 g x5) (.br (x8) (.leaf (some (((0, 0, 0, 0), false)))) (.br (x9) (.leaf (some (x10))) (.leaf none)))) (.br (x8) (.leaf (some (((0, 0, 0, 0), false)))) (.br (x9) (.leaf (some (x10))) (.leaf none))))) (.leaf none)) (.leaf none)) (.leaf none)
theorem ZyF (a : HL Zj) : Zh (envX Tryz.prog (ZZ 14) [] 2047 8) Tryz.f42 Zj ZE a = ZlI a.1 a.2.1 a.2.2 := by kernel_rfl
def ZlE (c : TC) (s : Int) (g : List Int) : RT (Option (TY × Bool)) :=
 let x1 : List TY := [(12, pcOf c, 0, 6)] ++ [(5, u16.wrap ((spOf c) - 1), u8.wrap (shrI u16 (pcOf c) 8), 3)] ++ [(5, u16.wrap ((spOf c) - 2), u8.wrap (pcOf c), 3)]
 let x3 : List TY := [(bif s == 5 then 8 else 1, pcOf c, 0, 4)]
 let x4 : List TY := [(11, pcOf c, 0, 3)]
 let x5 : List TY := x3 ++ x4 ++ x4
 .br (Zb s || (!decide (iN (List.length g) > 0) || (!Zg 0 (List.length g) || (Za c.1 (R.get (R.int u8) g 0)).1 == 18))) (.br (Zb s || (!decide (iN (List.length g) > 0) || Zg 0 (List.length g))) (.br (Zb s) (fin3 g x1) (.br (decide (iN (List.length g) > 0)) (fin3 g x5) (fin3 g x3))) (.leaf none)) (.leaf none)
theorem ZyB (a : HL Zj) : Zh (envX Tryz.prog (ZZ 18) [] 2047 8) Tryz.f42 Zj ZE a = ZlE a.1 a.2.1 a.2.2 := by kernel_rfl
def ZlA (c : TC) (s : Int) (g : List Int) : RT (Option (TY × Bool)) :=
 let x1 : List TY := [(12, pcOf c, 0, 6)] ++ [(5, u16.wrap ((spOf c) - 1), u8.wrap (shrI u16 (pcOf c) 8), 3)] ++ [(5, u16.wrap ((spOf c) - 2), u8.wrap (pcOf c), 3)]
 let x3 : List TY := [(bif s == 5 then 8 else 1, pcOf c, 0, 4)]
 .br (Zb s || (!decide (iN (List.length g) > 0) || (!Zg 0 (List.length g) || (Za c.1 (R.get (R.int u8) g 0)).1 == 22))) (.br (Zb s || (!decide (iN (List.length g) > 0) || Zg 0 (List.length g))) (.br (Zb s) (fin3 g x1) (fin3 g x3)) (.leaf none)) (.leaf none)
theorem Zyx (a : HL Zj) : Zh (envX Tryz.prog (ZZ 22) [] 2047 8) Tryz.f42 Zj ZE a = ZlA a.1 a.2.1 a.2.2 := by kernel_rfl
def Zlw (c : TC) (s : Int) (g : List Int) : RT (Option (TY × Bool)) :=
 let x1 : List TY := [(12, pcOf c, 0, 6)] ++ [(5, u16.wrap ((spOf c) - 1), u8.wrap (shrI u16 (pcOf c) 8), 3)] ++ [(5, u16.wrap ((spOf c) - 2), u8.wrap (pcOf c), 3)]
 let x3 : List TY := [(bif s == 5 then 8 else 1, pcOf c, 0, 4)]
 let x4 : List TY := x3 ++ [(4, spOf c, 0, 3)] ++ [(4, u16.wrap ((spOf c) + 1), 0, 3)]
 let x6 : Nat := List.length x3
 let x7 := decide (iN (List.length g) ≥ iN x6)
 let x8 := Zg (iN (List.length g)) x6
 let x9 : TY × Bool := (R.get (RY) x3 (iN (List.length g)), true)
 .br (Zb s || (!decide (iN (List.length g) > 0) || (!Zg 0 (List.length g) || (Za c.1 (R.get (R.int u8) g 0)).1 == 26))) (.br (Zb s || (!decide (iN (List.length g) > 0) || Zg 0 (List.length g))) (.br (Zb s) (fin3 g x1) (.br (decide (iN (List.length g) > 0)) (.br (Zd6 (c, s == 5, g, x3) (26, (Za c.1 (R.get (R.int u8) g 0)).2)) (fin3 g x4) (.br (x7) (.leaf (some (((0, 0, 0, 0), false)))) (.br (x8) (.leaf (some (x9))) (.leaf none)))) (.br (x7) (.leaf (some (((0, 0, 0, 0), false)))) (.br (x8) (.leaf (some (x9))) (.leaf none))))) (.leaf none)) (.leaf none)
theorem Zyt (a : HL Zj) : Zh (envX Tryz.prog (ZZ 26) [] 2047 8) Tryz.f42 Zj ZE a = Zlw a.1 a.2.1 a.2.2 := by kernel_rfl
def Zls (c : TC) (s : Int) (g : List Int) : RT (Option (TY × Bool)) :=
 let x1 := u16.wrap ((spOf c) - 1)
 let x2 := u16.wrap ((spOf c) - 2)
 let x3 : List TY := [(12, pcOf c, 0, 6)] ++ [(5, x1, u8.wrap (shrI u16 (pcOf c) 8), 3)] ++ [(5, x2, u8.wrap (pcOf c), 3)]
 let x5 : List TY := [(bif s == 5 then 8 else 1, pcOf c, 0, 4)]
 let x6 : Int := bif (Za c.1 (R.get (R.int u8) g 0)).2.2.2.2.1 == 3 then rPSW c.1 c.2.1 else Zai c.2.1 (Za c.1 (R.get (R.int u8) g 0)).2.2.2.2.1
 let x7 : List TY := x5 ++ [(5, x1, u8.wrap (shrI u16 x6 8), 3)] ++ [(5, x2, u8.wrap x6, 3)]
 .br (Zb s || (!decide (iN (List.length g) > 0) || (!Zg 0 (List.length g) || (Za c.1 (R.get (R.int u8) g 0)).1 == 30))) (.br (Zb s || (!decide (iN (List.length g) > 0) || Zg 0 (List.length g))) (.br (Zb s) (fin3 g x3) (.br (decide (iN (List.length g) > 0)) (fin3 g x7) (fin3 g x5))) (.leaf none)) (.leaf none)
theorem Zyp (a : HL Zj) : Zh (envX Tryz.prog (ZZ 30) [] 2047 8) Tryz.f42 Zj ZE a = Zls a.1 a.2.1 a.2.2 := by kernel_rfl
def Zlo (c : TC) (s : Int) (g : List Int) : RT (Option (TY × Bool)) :=
 let x1 : List TY := [(bif s == 5 then 8 else 1, pcOf c, 0, 4)]
 let x2 : List TY := x1 ++ [(9, pcOf c, 0, 3)]
 let x3 : QT4 := (c, s == 5, g, x2)
 let x4 := mAtC x3 1
 let x5 := !x4 || x4
 let x6 := !s == 5 || (!x5 || x4)
 let x7 := !x6
 let x8 := !s == 5 || x5
 let x9 := !x8
 let x10 : List TY := x1 ++ [(2, u16.wrap ((pcOf c) + u16.wrap 1), 0, 3)]
 let x11 : QT4 := (c, s == 5, g, x10)
 let x12 := mAtC x11 1
 let x13 := !x12 || x12
 let x14 := s == 5 || (!x13 || x12)
 let x15 : List TY := [(12, pcOf c, 0, 6)] ++ [(5, u16.wrap ((spOf c) - 1), u8.wrap (shrI u16 (pcOf c) 8), 3)] ++ [(5, u16.wrap ((spOf c) - 2), u8.wrap (pcOf c), 3)]
 let x17 := mAt x3 1
 let x18 : List TY := x2 ++ [(7, Zcp x17 x17, c.2.1.1, 3)]
 let x20 := mAt x11 1
 let x21 : List TY := x10 ++ [(7, Zcp x20 x20, c.2.1.1, 3)]
 .br (Zb s || (!decide (iN (List.length g) > 0) || (!Zg 0 (List.length g) || (!(Za c.1 (R.get (R.int u8) g 0)).1 == 34 || (x7 || (x9 || (!x14 || (s == 5 || x13)))))))) (.br (Zb s || (!decide (iN (List.length g) > 0) || (!Zg 0 (List.length g) || (!(Za c.1 (R.get (R.int u8) g 0)).1 == 34 || (x7 || (x9 || x14)))))) (.br (Zb s || (!decide (iN (List.length g) > 0) || (!Zg 0 (List.length g) || (!(Za c.1 (R.get (R.int u8) g 0)).1 == 34 || (x7 || x8))))) (.br (Zb s || (!decide (iN (List.length g) > 0) || (!Zg 0 (List.length g) || (!(Za c.1 (R.get (R.int u8) g 0)).1 == 34 || x6)))) (.br (Zb s || (!decide (iN (List.length g) > 0) || (!Zg 0 (List.length g) || (Za c.1 (R.get (R.int u8) g 0)).1 == 34))) (.br (Zb s || (!decide (iN (List.length g) > 0) || Zg 0 (List.length g))) (.br (Zb s) (fin3 g x15) (.br (decide (iN (List.length g) > 0)) (.br (s == 5) (fin3 g x18) (fin3 g x21)) (fin3 g x1))) (.leaf none)) (.leaf none)) (.leaf none)) (.leaf none)) (.leaf none)) (.leaf none)
theorem Zyl (a : HL Zj) : Zh (envX Tryz.prog (ZZ 34) [] 2047 8) Tryz.f42 Zj ZE a = Zlo a.1 a.2.1 a.2.2 := by kernel_rfl
def Zlk (c : TC) (s : Int) (g : List Int) : RT (Option (TY × Bool)) :=
 let x1 : List TY := [(12, pcOf c, 0, 6)] ++ [(5, u16.wrap ((spOf c) - 1), u8.wrap (shrI u16 (pcOf c) 8), 3)] ++ [(5, u16.wrap ((spOf c) - 2), u8.wrap (pcOf c), 3)]
 let x3 : List TY := [(bif s == 5 then 8 else 1, pcOf c, 0, 4)]
 .br (Zb s || (!decide (iN (List.length g) > 0) || (!Zg 0 (List.length g) || (Za c.1 (R.get (R.int u8) g 0)).1 == 38))) (.br (Zb s || (!decide (iN (List.length g) > 0) || Zg 0 (List.length g))) (.br (Zb s) (fin3 g x1) (fin3 g x3)) (.leaf none)) (.leaf none)
theorem Zyh (a : HL Zj) : Zh (envX Tryz.prog (ZZ 38) [] 2047 8) Tryz.f42 Zj ZE a = Zlk a.1 a.2.1 a.2.2 := by kernel_rfl
def Zlg (c : TC) (s : Int) (g : List Int) : RT (Option (TY × Bool)) :=
 let x1 : List TY := [(12, pcOf c, 0, 6)] ++ [(5, u16.wrap ((spOf c) - 1), u8.wrap (shrI u16 (pcOf c) 8), 3)] ++ [(5, u16.wrap ((spOf c) - 2), u8.wrap (pcOf c), 3)]
 let x3 : List TY := [(bif s == 5 then 8 else 1, pcOf c, 0, 4)]
 let x4 : List TY := [(11, pcOf c, 0, 3)]
 let x5 : List TY := x3 ++ x4 ++ x4
 .br (Zb s || (!decide (iN (List.length g) > 0) || (!Zg 0 (List.length g) || (Za c.1 (R.get (R.int u8) g 0)).1 == 42))) (.br (Zb s || (!decide (iN (List.length g) > 0) || Zg 0 (List.length g))) (.br (Zb s) (fin3 g x1) (.br (decide (iN (List.length g) > 0)) (fin3 g x5) (fin3 g x3))) (.leaf none)) (.leaf none)
theorem Zyd (a : HL Zj) : Zh (envX Tryz.prog (ZZ 42) [] 2047 8) Tryz.f42 Zj ZE a = Zlg a.1 a.2.1 a.2.2 := by kernel_rfl
def Zlc (c : TC) (s : Int) (g : List Int) : RT (Option (TY × Bool)) :=
 let x1 : List TY := [(12, pcOf c, 0, 6)] ++ [(5, u16.wrap ((spOf c) - 1), u8.wrap (shrI u16 (pcOf c) 8), 3)] ++ [(5, u16.wrap ((spOf c) - 2), u8.wrap (pcOf c), 3)]
 let x3 : List TY := [(bif s == 5 then 8 else 1, pcOf c, 0, 4)]
 let x4 : List TY := x3 ++ [(3, Zai c.2.1 1, c.2.1.2.2.2.2.2.2.1, 3)] ++ [(3, u16.wrap (Zai c.2.1 1 + 1), c.2.1.2.2.2.2.2.1, 3)]
 .br (Zb s || (!decide (iN (List.length g) > 0) || (!Zg 0 (List.length g) || (Za c.1 (R.get (R.int u8) g 0)).1 == 46))) (.br (Zb s || (!decide (iN (List.length g) > 0) || Zg 0 (List.length g))) (.br (Zb s) (fin3 g x1) (.br (decide (iN (List.length g) > 0)) (fin3 g x4) (fin3 g x3))) (.leaf none)) (.leaf none)
theorem Zx9 (a : HL Zj) : Zh (envX Tryz.prog (ZZ 46) [] 2047 8) Tryz.f42 Zj ZE a = Zlc a.1 a.2.1 a.2.2 := by kernel_rfl
def Zsi (c : TC) (s : Int) (g : List Int) : RT (Option (TY × Bool)) :=
 let x1 : QT1 := (c, s == 5, g, (0, 0, 0, 0, 0, 0, 0, 0), [])
 let x2 := qAtC x1 0
 let x3 := Za c.1 (qAt x1 0)
 let x4 := !x2 || x3.1 == 2
 let x5 : List TY := [] ++ [(12, pcOf c, 0, 6)] ++ [(5, u16.wrap ((spOf c) - 1), u8.wrap (shrI u16 (pcOf c) 8), 3)] ++ [(5, u16.wrap ((spOf c) - 2), u8.wrap (pcOf c), 3)]
 let x7 : QT6 := ((pcOf c), 0, 4)
 let x8 : List TY := [] ++ [(bif s == 5 then 8 else 1, x7)]
 let x10 := x3.2
 let x11 := x10.2
 let x12 := x11.2.1
 let x13 : List TY := [] ++ [(1, x7)]
 let x14 : QT1 := (c, s == 5, g, (2, x10), x13)
 let x15 := ZdG x14 2
 let x16 : List TY := bif x12 == 6 then x13 ++ [(2, x15, 0, 3)] else bif x11.1 == 6 then x13 ++ [(3, x15, qReg x14 x12, 3)] else x13
 .br (!x4 || x2) (.br (x4) (.br (Ze s) (fin3 g x5) (.br (iN (List.length g) == 0) (fin3 g x8) (fin3 g x16))) (.leaf none)) (.leaf none)
theorem ZGp (a : HL Zk) : Zh (envX Tryz.prog (Z1 2) [] 1125900980585471 8) Tryz.f113 Zk ZF a = Zsi a.1 a.2.1 a.2.2 := by kernel_rfl
def Zse (c : TC) (s : Int) (g : List Int) : RT (Option (TY × Bool)) :=
 let x1 : QT1 := (c, s == 5, g, (0, 0, 0, 0, 0, 0, 0, 0), [])
 let x2 := qAtC x1 0
 let x3 := Za c.1 (qAt x1 0)
 let x4 := !x2 || x3.1 == 6
 let x5 : QT6 := ((pcOf c), 0, 4)
 let x6 : List TY := [] ++ [(1, x5)]
 let x7 : List TY := [(9, pcOf c, 0, 3)]
 let x8 : List TY := bif s == 5 then x6 ++ x7 else x6 ++ [(2, u16.wrap ((pcOf c) + u16.wrap 1), 0, 3)]
 let x9 : List TY := bif s == 5 then x8 ++ x7 else x8 ++ [(2, u16.wrap ((pcOf c) + u16.wrap (i64.wrap (1 + 1))), 0, 3)]
 let x10 : QT1 := (c, s == 5, g, (6, x3.2), x9)
 let x11 : List TY := [] ++ [(12, pcOf c, 0, 6)] ++ [(5, u16.wrap ((spOf c) - 1), u8.wrap (shrI u16 (pcOf c) 8), 3)] ++ [(5, u16.wrap ((spOf c) - 2), u8.wrap (pcOf c), 3)]
 let x13 : List TY := [] ++ [(bif s == 5 then 8 else 1, x5)]
 let x15 : List TY := x9 ++ [(3, ZfI x10 1, c.2.1.1, 3)]
 .br (!x4 || x2) (.br (x4) (.br (Ze s || (iN (List.length g) == 0 || Zcq x10 1)) (.br (Ze s) (fin3 g x11) (.br (iN (List.length g) == 0) (fin3 g x13) (fin3 g x15))) (.leaf none)) (.leaf none)) (.leaf none)
theorem ZGl (a : HL Zk) : Zh (envX Tryz.prog (Z1 6) [] 1125900980585471 8) Tryz.f113 Zk ZF a = Zse a.1 a.2.1 a.2.2 := by kernel_rfl
def ZmU (c : TC) (s : Int) (g : List Int) : RT (Option (TY × Bool)) :=
 let x1 : QT1 := (c, s == 5, g, (0, 0, 0, 0, 0, 0, 0, 0), [])
 let x2 := qAtC x1 0
 let x3 := Za c.1 (qAt x1 0)
 let x4 := !x2 || x3.1 == 10
 let x5 : List TY := [] ++ [(12, pcOf c, 0, 6)] ++ [(5, u16.wrap ((spOf c) - 1), u8.wrap (shrI u16 (pcOf c) 8), 3)] ++ [(5, u16.wrap ((spOf c) - 2), u8.wrap (pcOf c), 3)]
 let x7 : QT6 := ((pcOf c), 0, 4)
 let x8 : List TY := [] ++ [(bif s == 5 then 8 else 1, x7)]
 let x10 : List TY := [] ++ [(1, x7)]
 let x11 := x3.2
 let x12 : List TY := x10 ++ [(3, ZdG (c, s == 5, g, (10, x11), x10) x11.2.2.2.1, c.2.1.1, 3)]
 .br (!x4 || x2) (.br (x4) (.br (Ze s) (fin3 g x5) (.br (iN (List.length g) == 0) (fin3 g x8) (fin3 g x12))) (.leaf none)) (.leaf none)
theorem ZAf (a : HL Zk) : Zh (envX Tryz.prog (Z1 10) [] 1125900980585471 8) Tryz.f113 Zk ZF a = ZmU a.1 a.2.1 a.2.2 := by kernel_rfl
def ZmQ (c : TC) (s : Int) (g : List Int) : RT (Option (TY × Bool)) :=
 let x1 : QT1 := (c, s == 5, g, (0, 0, 0, 0, 0, 0, 0, 0), [])
 let x2 := qAtC x1 0
 let x3 := Za c.1 (qAt x1 0)
 let x4 := !x2 || x3.1 == 14
 let x5 := x3.2
 let x6 := x5.2.1 == 6
 let x7 : QT5 := (14, x5)
 let x8 : QT6 := ((pcOf c), 0, 4)
 let x9 : List TY := [] ++ [(1, x8)]
 let x10 := ZdG (c, s == 5, g, x7, x9) 2
 let x11 : List TY := x9 ++ [(2, x10, 0, 3)]
 let x12 : QT1 := (c, s == 5, g, x7, x11)
 let x13 : List TY := [] ++ [(12, pcOf c, 0, 6)] ++ [(5, u16.wrap ((spOf c) - 1), u8.wrap (shrI u16 (pcOf c) 8), 3)] ++ [(5, u16.wrap ((spOf c) - 2), u8.wrap (pcOf c), 3)]
 let x15 : List TY := [] ++ [(bif s == 5 then 8 else 1, x8)]
 let x17 : List TY := bif x6 then x11 ++ [(3, x10, ZhQ x12, 3)] else x9
 .br (!x4 || x2) (.br (x4) (.br (Ze s || (iN (List.length g) == 0 || (!x6 || ZfJ x12))) (.br (Ze s) (fin3 g x13) (.br (iN (List.length g) == 0) (fin3 g x15) (fin3 g x17))) (.leaf none)) (.leaf none)) (.leaf none)
theorem ZAb (a : HL Zk) : Zh (envX Tryz.prog (Z1 14) [] 1125900980585471 8) Tryz.f113 Zk ZF a = ZmQ a.1 a.2.1 a.2.2 := by kernel_rfl
def ZmM (c : TC) (s : Int) (g : List Int) : RT (Option (TY × Bool)) :=
 let x1 : QT1 := (c, s == 5, g, (0, 0, 0, 0, 0, 0, 0, 0), [])
 let x2 := qAtC x1 0
 let x3 := !x2 || (Za c.1 (qAt x1 0)).1 == 18
 let x4 : List TY := [] ++ [(12, pcOf c, 0, 6)] ++ [(5, u16.wrap ((spOf c) - 1), u8.wrap (shrI u16 (pcOf c) 8), 3)] ++ [(5, u16.wrap ((spOf c) - 2), u8.wrap (pcOf c), 3)]
 let x6 : QT6 := ((pcOf c), 0, 4)
 let x7 : List TY := [] ++ [(bif s == 5 then 8 else 1, x6)]
 let x9 : List TY := [(11, pcOf c, 0, 3)]
 let x10 : List TY := [] ++ [(1, x6)] ++ x9 ++ x9
 .br (!x3 || x2) (.br (x3) (.br (Ze s) (fin3 g x4) (.br (iN (List.length g) == 0) (fin3 g x7) (fin3 g x10))) (.leaf none)) (.leaf none)
theorem Zz7 (a : HL Zk) : Zh (envX Tryz.prog (Z1 18) [] 1125900980585471 8) Tryz.f113 Zk ZF a = ZmM a.1 a.2.1 a.2.2 := by kernel_rfl
def ZmI (c : TC) (s : Int) (g : List Int) : RT (Option (TY × Bool)) :=
 let x1 : QT1 := (c, s == 5, g, (0, 0, 0, 0, 0, 0, 0, 0), [])
 let x2 := qAtC x1 0
 let x3 := !x2 || (Za c.1 (qAt x1 0)).1 == 22
 let x4 : List TY := [] ++ [(12, pcOf c, 0, 6)] ++ [(5, u16.wrap ((spOf c) - 1), u8.wrap (shrI u16 (pcOf c) 8), 3)] ++ [(5, u16.wrap ((spOf c) - 2), u8.wrap (pcOf c), 3)]
 let x6 : QT6 := ((pcOf c), 0, 4)
 let x7 : List TY := [] ++ [(bif s == 5 then 8 else 1, x6)]
 let x9 : List TY := [] ++ [(1, x6)]
 .br (!x3 || x2) (.br (x3) (.br (Ze s) (fin3 g x4) (.br (iN (List.length g) == 0) (fin3 g x7) (fin3 g x9))) (.leaf none)) (.leaf none)
theorem Zz3 (a : HL Zk) : Zh (envX Tryz.prog (Z1 22) [] 1125900980585471 8) Tryz.f113 Zk ZF a = ZmI a.1 a.2.1 a.2.2 := by kernel_rfl
def ZmE (c : TC) (s : Int) (g : List Int) : RT (Option (TY × Bool)) :=
 let x1 : QT1 := (c, s == 5, g, (0, 0, 0, 0, 0, 0, 0, 0), [])
 let x2 := qAtC x1 0
 let x3 := Za c.1 (qAt x1 0)
 let x4 := !x2 || x3.1 == 26
 let x5 : List TY := [] ++ [(12, pcOf c, 0, 6)] ++ [(5, u16.wrap ((spOf c) - 1), u8.wrap (shrI u16 (pcOf c) 8), 3)] ++ [(5, u16.wrap ((spOf c) - 2), u8.wrap (pcOf c), 3)]
 let x7 : QT6 := ((pcOf c), 0, 4)
 let x8 : List TY := [] ++ [(bif s == 5 then 8 else 1, x7)]
 let x10 : List TY := [] ++ [(1, x7)]
 let x11 : List TY := bif ZgJ (c, s == 5, g, (26, x3.2), x10) then x10 ++ [(4, spOf c, 0, 3)] ++ [(4, u16.wrap ((spOf c) + 1), 0, 3)] else x10
 .br (!x4 || x2) (.br (x4) (.br (Ze s) (fin3 g x5) (.br (iN (List.length g) == 0) (fin3 g x8) (fin3 g x11))) (.leaf none)) (.leaf none)
theorem ZzZ (a : HL Zk) : Zh (envX Tryz.prog (Z1 26) [] 1125900980585471 8) Tryz.f113 Zk ZF a = ZmE a.1 a.2.1 a.2.2 := by kernel_rfl
def ZmA (c : TC) (s : Int) (g : List Int) : RT (Option (TY × Bool)) :=
 let x1 : QT1 := (c, s == 5, g, (0, 0, 0, 0, 0, 0, 0, 0), [])
 let x2 := qAtC x1 0
 let x3 := Za c.1 (qAt x1 0)
 let x4 := !x2 || x3.1 == 30
 let x5 := u16.wrap ((spOf c) - 1)
 let x6 := u16.wrap ((spOf c) - 2)
 let x7 : List TY := [] ++ [(12, pcOf c, 0, 6)] ++ [(5, x5, u8.wrap (shrI u16 (pcOf c) 8), 3)] ++ [(5, x6, u8.wrap (pcOf c), 3)]
 let x9 : QT6 := ((pcOf c), 0, 4)
 let x10 : List TY := [] ++ [(bif s == 5 then 8 else 1, x9)]
 let x12 : List TY := [] ++ [(1, x9)]
 let x13 := x3.2
 let x14 := x13.2.2.2.1
 let x15 : Int := bif x14 == 3 then rPSW c.1 c.2.1 else ZdG (c, s == 5, g, (30, x13), x12) x14
 let x16 : List TY := x12 ++ [(5, x5, u8.wrap (shrI u16 x15 8), 3)] ++ [(5, x6, u8.wrap x15, 3)]
 .br (!x4 || x2) (.br (x4) (.br (Ze s) (fin3 g x7) (.br (iN (List.length g) == 0) (fin3 g x10) (fin3 g x16))) (.leaf none)) (.leaf none)
theorem ZzV (a : HL Zk) : Zh (envX Tryz.prog (Z1 30) [] 1125900980585471 8) Tryz.f113 Zk ZF a = ZmA a.1 a.2.1 a.2.2 := by kernel_rfl
def Zmw (c : TC) (s : Int) (g : List Int) : RT (Option (TY × Bool)) :=
 let x1 : QT1 := (c, s == 5, g, (0, 0, 0, 0, 0, 0, 0, 0), [])
 let x2 := qAtC x1 0
 let x3 := Za c.1 (qAt x1 0)
 let x4 := !x2 || x3.1 == 34
 let x5 : QT6 := ((pcOf c), 0, 4)
 let x6 : List TY := [] ++ [(1, x5)]
 let x7 : List TY := bif s == 5 then x6 ++ [(9, pcOf c, 0, 3)] else x6 ++ [(2, u16.wrap ((pcOf c) + u16.wrap 1), 0, 3)]
 let x8 : QT1 := (c, s == 5, g, (34, x3.2), x7)
 let x9 := qAtC x8 1
 let x10 := !x9 || x9
 let x11 := !x10 || x9
 let x12 := Ze s || (iN (List.length g) == 0 || (!x11 || x10))
 let x13 : List TY := [] ++ [(12, pcOf c, 0, 6)] ++ [(5, u16.wrap ((spOf c) - 1), u8.wrap (shrI u16 (pcOf c) 8), 3)] ++ [(5, u16.wrap ((spOf c) - 2), u8.wrap (pcOf c), 3)]
 let x15 : List TY := [] ++ [(bif s == 5 then 8 else 1, x5)]
 let x17 := qAt x8 1
 let x18 : List TY := x7 ++ [(7, Zcp x17 x17, c.2.1.1, 3)]
 .br (!x4 || x2) (.br (x4) (.br (!x12 || (Ze s || (iN (List.length g) == 0 || x11))) (.br (x12) (.br (Ze s) (fin3 g x13) (.br (iN (List.length g) == 0) (fin3 g x15) (fin3 g x18))) (.leaf none)) (.leaf none)) (.leaf none)) (.leaf none)
theorem ZzR (a : HL Zk) : Zh (envX Tryz.prog (Z1 34) [] 1125900980585471 8) Tryz.f113 Zk ZF a = Zmw a.1 a.2.1 a.2.2 := by kernel_rfl
def Zms (c : TC) (s : Int) (g : List Int) : RT (Option (TY × Bool)) :=
 let x1 : QT1 := (c, s == 5, g, (0, 0, 0, 0, 0, 0, 0, 0), [])
 let x2 := qAtC x1 0
 let x3 := !x2 || (Za c.1 (qAt x1 0)).1 == 38
 let x4 : List TY := [] ++ [(12, pcOf c, 0, 6)] ++ [(5, u16.wrap ((spOf c) - 1), u8.wrap (shrI u16 (pcOf c) 8), 3)] ++ [(5, u16.wrap ((spOf c) - 2), u8.wrap (pcOf c), 3)]
 let x6 : QT6 := ((pcOf c), 0, 4)
 let x7 : List TY := [] ++ [(bif s == 5 then 8 else 1, x6)]
 let x9 : List TY := [] ++ [(1, x6)]
 .br (!x3 || x2) (.br (x3) (.br (Ze s) (fin3 g x4) (.br (iN (List.length g) == 0) (fin3 g x7) (fin3 g x9))) (.leaf none)) (.leaf none)
theorem ZzN (a : HL Zk) : Zh (envX Tryz.prog (Z1 38) [] 1125900980585471 8) Tryz.f113 Zk ZF a = Zms a.1 a.2.1 a.2.2 := by kernel_rfl
def Zmo (c : TC) (s : Int) (g : List Int) : RT (Option (TY × Bool)) :=
 let x1 : QT1 := (c, s == 5, g, (0, 0, 0, 0, 0, 0, 0, 0), [])
 let x2 := qAtC x1 0
 let x3 := !x2 || (Za c.1 (qAt x1 0)).1 == 42
 let x4 : List TY := [] ++ [(12, pcOf c, 0, 6)] ++ [(5, u16.wrap ((spOf c) - 1), u8.wrap (shrI u16 (pcOf c) 8), 3)] ++ [(5, u16.wrap ((spOf c) - 2), u8.wrap (pcOf c), 3)]
 let x6 : QT6 := ((pcOf c), 0, 4)
 let x7 : List TY := [] ++ [(bif s == 5 then 8 else 1, x6)]
 let x9 : List TY := [(11, pcOf c, 0, 3)]
 let x10 : List TY := [] ++ [(1, x6)] ++ x9 ++ x9
 .br (!x3 || x2) (.br (x3) (.br (Ze s) (fin3 g x4) (.br (iN (List.length g) == 0) (fin3 g x7) (fin3 g x10))) (.leaf none)) (.leaf none)
theorem ZzJ (a : HL Zk) : Zh (envX Tryz.prog (Z1 42) [] 1125900980585471 8) Tryz.f113 Zk ZF a = Zmo a.1 a.2.1 a.2.2 := by kernel_rfl
def Zmk (c : TC) (s : Int) (g : List Int) : RT (Option (TY × Bool)) :=
 let x1 : QT1 := (c, s == 5, g, (0, 0, 0, 0, 0, 0, 0, 0), [])
 let x2 := qAtC x1 0
 let x3 := Za c.1 (qAt x1 0)
 let x4 := !x2 || x3.1 == 46
 let x5 : List TY := [] ++ [(12, pcOf c, 0, 6)] ++ [(5, u16.wrap ((spOf c) - 1), u8.wrap (shrI u16 (pcOf c) 8), 3)] ++ [(5, u16.wrap ((spOf c) - 2), u8.wrap (pcOf c), 3)]
 let x7 : QT6 := ((pcOf c), 0, 4)
 let x8 : List TY := [] ++ [(bif s == 5 then 8 else 1, x7)]
 let x10 : List TY := [] ++ [(1, x7)]
 let x11 := ZdG (c, s == 5, g, (46, x3.2), x10) 1
 let x12 : List TY := x10 ++ [(3, x11, c.2.1.2.2.2.2.2.2.1, 3)] ++ [(3, u16.wrap (x11 + 1), c.2.1.2.2.2.2.2.1, 3)]
 .br (!x4 || x2) (.br (x4) (.br (Ze s) (fin3 g x5) (.br (iN (List.length g) == 0) (fin3 g x8) (fin3 g x12))) (.leaf none)) (.leaf none)
theorem ZzF (a : HL Zk) : Zh (envX Tryz.prog (Z1 46) [] 1125900980585471 8) Tryz.f113 Zk ZF a = Zmk a.1 a.2.1 a.2.2 := by kernel_rfl
def ZqS (c : TC) (s : Int) (g : List Int) : RT (Option (TY × Bool)) :=
 let x1 := !(Za c.1 (R.get (R.int u8) g 0)).2.2.1 == 6
 let x2 : List TY := [(bif s == 5 then 8 else 1, pcOf c, 0, 4)]
 let x3 : List TY := x2 ++ [(9, pcOf c, 0, 3)]
 let x4 : QT4 := (c, s == 5, g, x3)
 let x5 := !s == 5 || (x1 || mAtC x4 1)
 let x6 : List TY := x2 ++ [(2, u16.wrap ((pcOf c) + u16.wrap 1), 0, 3)]
 let x7 : QT4 := (c, s == 5, g, x6)
 let x8 : List TY := [(12, pcOf c, 0, 6)] ++ [(5, u16.wrap ((spOf c) - 1), u8.wrap (shrI u16 (pcOf c) 8), 3)] ++ [(5, u16.wrap ((spOf c) - 2), u8.wrap (pcOf c), 3)]
 let x10 : List TY := bif (Za c.1 (R.get (R.int u8) g 0)).2.2.1 == 6 then x3 ++ [(3, Zai c.2.1 2, mAt x4 1, 3)] else x3
 let x12 : List TY := bif (Za c.1 (R.get (R.int u8) g 0)).2.2.1 == 6 then x6 ++ [(3, Zai c.2.1 2, mAt x7 1, 3)] else x6
 .br (Zb s || (!decide (iN (List.length g) > 0) || (!Zg 0 (List.length g) || (!(Za c.1 (R.get (R.int u8) g 0)).1 == 3 || (!x5 || (s == 5 || (x1 || mAtC x7 1))))))) (.br (Zb s || (!decide (iN (List.length g) > 0) || (!Zg 0 (List.length g) || (!(Za c.1 (R.get (R.int u8) g 0)).1 == 3 || x5)))) (.br (Zb s || (!decide (iN (List.length g) > 0) || (!Zg 0 (List.length g) || (Za c.1 (R.get (R.int u8) g 0)).1 == 3))) (.br (Zb s || (!decide (iN (List.length g) > 0) || Zg 0 (List.length g))) (.br (Zb s) (fin3 g x8) (.br (decide (iN (List.length g) > 0)) (.br (s == 5) (fin3 g x10) (fin3 g x12)) (fin3 g x2))) (.leaf none)) (.leaf none)) (.leaf none)) (.leaf none)
theorem ZFk (a : HL Zj) : Zh (envX Tryz.prog (ZZ 3) [] 2047 8) Tryz.f42 Zj ZE a = ZqS a.1 a.2.1 a.2.2 := by kernel_rfl
def ZqO (c : TC) (s : Int) (g : List Int) : RT (Option (TY × Bool)) :=
 let x1 : List TY := [(bif s == 5 then 8 else 1, pcOf c, 0, 4)]
 let x2 : List TY := [(9, pcOf c, 0, 3)]
 let x3 : List TY := x1 ++ x2
 let x4 : List TY := [(2, u16.wrap ((pcOf c) + u16.wrap (i64.wrap (1 + 1))), 0, 3)]
 let x5 : List TY := bif s == 5 then x3 ++ x2 else x3 ++ x4
 let x6 : QT4 := (c, s == 5, g, x5)
 let x7 := ZbX x6 1
 let x8 : List TY := x5 ++ [(2, Zei x6 1, 0, 3)]
 let x9 : QT4 := (c, s == 5, g, x8)
 let x10 := !s == 5 || (!x7 || ZbX x9 1)
 let x11 := !x10
 let x12 := !s == 5 || x7
 let x13 := !x12
 let x14 : List TY := x1 ++ [(2, u16.wrap ((pcOf c) + u16.wrap 1), 0, 3)]
 let x15 : List TY := bif s == 5 then x14 ++ x2 else x14 ++ x4
 let x16 : QT4 := (c, s == 5, g, x15)
 let x17 := ZbX x16 1
 let x18 : List TY := x15 ++ [(2, Zei x16 1, 0, 3)]
 let x19 : QT4 := (c, s == 5, g, x18)
 let x20 := s == 5 || (!x17 || ZbX x19 1)
 let x21 : List TY := [(12, pcOf c, 0, 6)] ++ [(5, u16.wrap ((spOf c) - 1), u8.wrap (shrI u16 (pcOf c) 8), 3)] ++ [(5, u16.wrap ((spOf c) - 2), u8.wrap (pcOf c), 3)]
 let x23 : List TY := x8 ++ [(2, u16.wrap (Zei x9 1 + 1), 0, 3)]
 let x25 : List TY := x18 ++ [(2, u16.wrap (Zei x19 1 + 1), 0, 3)]
 .br (Zb s || (!decide (iN (List.length g) > 0) || (!Zg 0 (List.length g) || (!(Za c.1 (R.get (R.int u8) g 0)).1 == 7 || (x11 || (x13 || (!x20 || (s == 5 || x17)))))))) (.br (Zb s || (!decide (iN (List.length g) > 0) || (!Zg 0 (List.length g) || (!(Za c.1 (R.get (R.int u8) g 0)).1 == 7 || (x11 || (x13 || x20)))))) (.br (Zb s || (!decide (iN (List.length g) > 0) || (!Zg 0 (List.length g) || (!(Za c.1 (R.get (R.int u8) g 0)).1 == 7 || (x11 || x12))))) (.br (Zb s || (!decide (iN (List.length g) > 0) || (!Zg 0 (List.length g) || (!(Za c.1 (R.get (R.int u8) g 0)).1 == 7 || x10)))) (.br (Zb s || (!decide (iN (List.length g) > 0) || (!Zg 0 (List.length g) || (Za c.1 (R.get (R.int u8) g 0)).1 == 7))) (.br (Zb s || (!decide (iN (List.length g) > 0) || Zg 0 (List.length g))) (.br (Zb s) (fin3 g x21) (.br (decide (iN (List.length g) > 0)) (.br (s == 5) (fin3 g x23) (fin3 g x25)) (fin3 g x1))) (.leaf none)) (.leaf none)) (.leaf none)) (.leaf none)) (.leaf none)) (.leaf none)
theorem ZFg (a : HL Zj) : Zh (envX Tryz.prog (ZZ 7) [] 2047 8) Tryz.f42 Zj ZE a = ZqO a.1 a.2.1 a.2.2 := by kernel_rfl
def ZlL (c : TC) (s : Int) (g : List Int) : RT (Option (TY × Bool)) :=
 let x1 : List TY := [(12, pcOf c, 0, 6)] ++ [(5, u16.wrap ((spOf c) - 1), u8.wrap (shrI u16 (pcOf c) 8), 3)] ++ [(5, u16.wrap ((spOf c) - 2), u8.wrap (pcOf c), 3)]
 let x3 : List TY := [(bif s == 5 then 8 else 1, pcOf c, 0, 4)]
 .br (Zb s || (!decide (iN (List.length g) > 0) || (!Zg 0 (List.length g) || (Za c.1 (R.get (R.int u8) g 0)).1 == 11))) (.br (Zb s || (!decide (iN (List.length g) > 0) || Zg 0 (List.length g))) (.br (Zb s) (fin3 g x1) (fin3 g x3)) (.leaf none)) (.leaf none)
theorem ZyI (a : HL Zj) : Zh (envX Tryz.prog (ZZ 11) [] 2047 8) Tryz.f42 Zj ZE a = ZlL a.1 a.2.1 a.2.2 := by kernel_rfl
def ZlH (c : TC) (s : Int) (g : List Int) : RT (Option (TY × Bool)) :=
 let x1 : List TY := [(bif s == 5 then 8 else 1, pcOf c, 0, 4)]
 let x2 : QT4 := (c, s == 5, g, x1)
 let x3 : List TY := [(12, pcOf c, 0, 6)] ++ [(5, u16.wrap ((spOf c) - 1), u8.wrap (shrI u16 (pcOf c) 8), 3)] ++ [(5, u16.wrap ((spOf c) - 2), u8.wrap (pcOf c), 3)]
 let x5 : List TY := x1 ++ [(2, Zai c.2.1 2, 0, 3)] ++ [(3, Zai c.2.1 2, (Zge c (15, (Za c.1 (R.get (R.int u8) g 0)).2) (mAt x2 1)).1, 3)]
 let x7 : Nat := List.length x1
 let x8 := decide (iN (List.length g) ≥ iN x7)
 let x9 := Zg (iN (List.length g)) x7
 let x10 : TY × Bool := (R.get (RY) x1 (iN (List.length g)), true)
 .br (Zb s || (!decide (iN (List.length g) > 0) || (!Zg 0 (List.length g) || (!(Za c.1 (R.get (R.int u8) g 0)).1 == 15 || (!(Za c.1 (R.get (R.int u8) g 0)).2.2.1 == 6 || mAtC x2 1))))) (.br (Zb s || (!decide (iN (List.length g) > 0) || (!Zg 0 (List.length g) || (Za c.1 (R.get (R.int u8) g 0)).1 == 15))) (.br (Zb s || (!decide (iN (List.length g) > 0) || Zg 0 (List.length g))) (.br (Zb s) (fin3 g x3) (.br (decide (iN (List.length g) > 0)) (.br ((Za c.1 (R.get (R.int u8) g 0)).2.2.1 == 6) (fin3 g x5) (.br (x8) (.leaf (some (((0, 0, 0, 0), false)))) (.br (x9) (.leaf (some (x10))) (.leaf none)))) (.br (x8) (.leaf (some (((0, 0, 0, 0), false)))) (.br (x9) (.leaf (some (x10))) (.leaf none))))) (.leaf none)) (.leaf none)) (.leaf none)
theorem ZyE (a : HL Zj) : Zh (envX Tryz.prog (ZZ 15) [] 2047 8) Tryz.f42 Zj ZE a = ZlH a.1 a.2.1 a.2.2 := by kernel_rfl
def ZlD (c : TC) (s : Int) (g : List Int) : RT (Option (TY × Bool)) :=
 let x1 : List TY := [(12, pcOf c, 0, 6)] ++ [(5, u16.wrap ((spOf c) - 1), u8.wrap (shrI u16 (pcOf c) 8), 3)] ++ [(5, u16.wrap ((spOf c) - 2), u8.wrap (pcOf c), 3)]
 let x3 : List TY := [(bif s == 5 then 8 else 1, pcOf c, 0, 4)]
 .br (Zb s || (!decide (iN (List.length g) > 0) || (!Zg 0 (List.length g) || (Za c.1 (R.get (R.int u8) g 0)).1 == 19))) (.br (Zb s || (!decide (iN (List.length g) > 0) || Zg 0 (List.length g))) (.br (Zb s) (fin3 g x1) (fin3 g x3)) (.leaf none)) (.leaf none)
theorem ZyA (a : HL Zj) : Zh (envX Tryz.prog (ZZ 19) [] 2047 8) Tryz.f42 Zj ZE a = ZlD a.1 a.2.1 a.2.2 := by kernel_rfl
def Zlz (c : TC) (s : Int) (g : List Int) : RT (Option (TY × Bool)) :=
 let x1 : List TY := [(12, pcOf c, 0, 6)] ++ [(5, u16.wrap ((spOf c) - 1), u8.wrap (shrI u16 (pcOf c) 8), 3)] ++ [(5, u16.wrap ((spOf c) - 2), u8.wrap (pcOf c), 3)]
 let x3 : List TY := [(bif s == 5 then 8 else 1, pcOf c, 0, 4)]
 .br (Zb s || (!decide (iN (List.length g) > 0) || (!Zg 0 (List.length g) || (Za c.1 (R.get (R.int u8) g 0)).1 == 23))) (.br (Zb s || (!decide (iN (List.length g) > 0) || Zg 0 (List.length g))) (.br (Zb s) (fin3 g x1) (fin3 g x3)) (.leaf none)) (.leaf none)
theorem Zyw (a : HL Zj) : Zh (envX Tryz.prog (ZZ 23) [] 2047 8) Tryz.f42 Zj ZE a = Zlz a.1 a.2.1 a.2.2 := by kernel_rfl
def Zlv (c : TC) (s : Int) (g : List Int) : RT (Option (TY × Bool)) :=
 let x1 := u16.wrap ((spOf c) - 1)
 let x2 := u16.wrap ((spOf c) - 2)
 let x3 : List TY := [(12, pcOf c, 0, 6)] ++ [(5, x1, u8.wrap (shrI u16 (pcOf c) 8), 3)] ++ [(5, x2, u8.wrap (pcOf c), 3)]
 let x5 : List TY := [(bif s == 5 then 8 else 1, pcOf c, 0, 4)]
 let x6 := ZA (c, s == 5, g, x5) (Za c.1 (R.get (R.int u8) g 0)).2.1
 let x7 : List TY := x5 ++ [(5, x1, u8.wrap (shrI u16 x6 8), 3)] ++ [(5, x2, u8.wrap x6, 3)]
 .br (Zb s || (!decide (iN (List.length g) > 0) || (!Zg 0 (List.length g) || (Za c.1 (R.get (R.int u8) g 0)).1 == 27))) (.br (Zb s || (!decide (iN (List.length g) > 0) || Zg 0 (List.length g))) (.br (Zb s) (fin3 g x3) (.br (decide (iN (List.length g) > 0)) (fin3 g x7) (fin3 g x5))) (.leaf none)) (.leaf none)
theorem Zys (a : HL Zj) : Zh (envX Tryz.prog (ZZ 27) [] 2047 8) Tryz.f42 Zj ZE a = Zlv a.1 a.2.1 a.2.2 := by kernel_rfl
def Zlr (c : TC) (s : Int) (g : List Int) : RT (Option (TY × Bool)) :=
 let x1 : List TY := [(12, pcOf c, 0, 6)] ++ [(5, u16.wrap ((spOf c) - 1), u8.wrap (shrI u16 (pcOf c) 8), 3)] ++ [(5, u16.wrap ((spOf c) - 2), u8.wrap (pcOf c), 3)]
 let x3 : List TY := [(bif s == 5 then 8 else 1, pcOf c, 0, 4)]
 let x4 : List TY := x3 ++ [(4, spOf c, 0, 3)] ++ [(4, u16.wrap ((spOf c) + 1), 0, 3)]
 .br (Zb s || (!decide (iN (List.length g) > 0) || (!Zg 0 (List.length g) || (Za c.1 (R.get (R.int u8) g 0)).1 == 31))) (.br (Zb s || (!decide (iN (List.length g) > 0) || Zg 0 (List.length g))) (.br (Zb s) (fin3 g x1) (.br (decide (iN (List.length g) > 0)) (fin3 g x4) (fin3 g x3))) (.leaf none)) (.leaf none)
theorem Zyo (a : HL Zj) : Zh (envX Tryz.prog (ZZ 31) [] 2047 8) Tryz.f42 Zj ZE a = Zlr a.1 a.2.1 a.2.2 := by kernel_rfl
def Zln (c : TC) (s : Int) (g : List Int) : RT (Option (TY × Bool)) :=
 let x1 : List TY := [(12, pcOf c, 0, 6)] ++ [(5, u16.wrap ((spOf c) - 1), u8.wrap (shrI u16 (pcOf c) 8), 3)] ++ [(5, u16.wrap ((spOf c) - 2), u8.wrap (pcOf c), 3)]
 let x3 : List TY := [(bif s == 5 then 8 else 1, pcOf c, 0, 4)]
 .br (Zb s || (!decide (iN (List.length g) > 0) || (!Zg 0 (List.length g) || (Za c.1 (R.get (R.int u8) g 0)).1 == 35))) (.br (Zb s || (!decide (iN (List.length g) > 0) || Zg 0 (List.length g))) (.br (Zb s) (fin3 g x1) (fin3 g x3)) (.leaf none)) (.leaf none)
theorem Zyk (a : HL Zj) : Zh (envX Tryz.prog (ZZ 35) [] 2047 8) Tryz.f42 Zj ZE a = Zln a.1 a.2.1 a.2.2 := by kernel_rfl
def Zlj (c : TC) (s : Int) (g : List Int) : RT (Option (TY × Bool)) :=
 let x1 : List TY := [(12, pcOf c, 0, 6)] ++ [(5, u16.wrap ((spOf c) - 1), u8.wrap (shrI u16 (pcOf c) 8), 3)] ++ [(5, u16.wrap ((spOf c) - 2), u8.wrap (pcOf c), 3)]
 let x3 : List TY := [(bif s == 5 then 8 else 1, pcOf c, 0, 4)]
 .br (Zb s || (!decide (iN (List.length g) > 0) || (!Zg 0 (List.length g) || (Za c.1 (R.get (R.int u8) g 0)).1 == 39))) (.br (Zb s || (!decide (iN (List.length g) > 0) || Zg 0 (List.length g))) (.br (Zb s) (fin3 g x1) (fin3 g x3)) (.leaf none)) (.leaf none)
theorem Zyg (a : HL Zj) : Zh (envX Tryz.prog (ZZ 39) [] 2047 8) Tryz.f42 Zj ZE a = Zlj a.1 a.2.1 a.2.2 := by kernel_rfl
def Zlf (c : TC) (s : Int) (g : List Int) : RT (Option (TY × Bool)) :=
 let x1 : List TY := [(12, pcOf c, 0, 6)] ++ [(5, u16.wrap ((spOf c) - 1), u8.wrap (shrI u16 (pcOf c) 8), 3)] ++ [(5, u16.wrap ((spOf c) - 2), u8.wrap (pcOf c), 3)]
 let x3 : List TY := [(bif s == 5 then 8 else 1, pcOf c, 0, 4)]
 let x4 : QT6 := ((pcOf c), 0, 3)
 let x5 : List TY := [(11, x4)]
 let x6 : List TY := x3 ++ [(9, x4)] ++ x5
 let x8 : List TY := x3 ++ [(2, u16.wrap ((pcOf c) + u16.wrap 1), 0, 3)] ++ x5
 .br (Zb s || (!decide (iN (List.length g) > 0) || (!Zg 0 (List.length g) || (Za c.1 (R.get (R.int u8) g 0)).1 == 43))) (.br (Zb s || (!decide (iN (List.length g) > 0) || Zg 0 (List.length g))) (.br (Zb s) (fin3 g x1) (.br (decide (iN (List.length g) > 0)) (.br (s == 5) (fin3 g x6) (fin3 g x8)) (fin3 g x3))) (.leaf none)) (.leaf none)
theorem Zyc (a : HL Zj) : Zh (envX Tryz.prog (ZZ 43) [] 2047 8) Tryz.f42 Zj ZE a = Zlf a.1 a.2.1 a.2.2 := by kernel_rfl
def Zlb (c : TC) (s : Int) (g : List Int) : RT (Option (TY × Bool)) :=
 let x1 : List TY := [(12, pcOf c, 0, 6)] ++ [(5, u16.wrap ((spOf c) - 1), u8.wrap (shrI u16 (pcOf c) 8), 3)] ++ [(5, u16.wrap ((spOf c) - 2), u8.wrap (pcOf c), 3)]
 let x3 : List TY := [(bif s == 5 then 8 else 1, pcOf c, 0, 4)]
 let x4 : List TY := x3 ++ [(2, Zai c.2.1 1, 0, 3)] ++ [(2, u16.wrap (Zai c.2.1 1 + 1), 0, 3)]
 .br (Zb s || (!decide (iN (List.length g) > 0) || (!Zg 0 (List.length g) || (Za c.1 (R.get (R.int u8) g 0)).1 == 47))) (.br (Zb s || (!decide (iN (List.length g) > 0) || Zg 0 (List.length g))) (.br (Zb s) (fin3 g x1) (.br (decide (iN (List.length g) > 0)) (fin3 g x4) (fin3 g x3))) (.leaf none)) (.leaf none)
theorem Zx8 (a : HL Zj) : Zh (envX Tryz.prog (ZZ 47) [] 2047 8) Tryz.f42 Zj ZE a = Zlb a.1 a.2.1 a.2.2 := by kernel_rfl
end
end Go.Proofs.YtghoimllhpjkjaaGreat
