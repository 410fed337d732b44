/-
  Contracts of functions; each found by the symbolic executor and checked by the kernel. Conditions: none.
-/
import Derived.Test.YtghoimllhpjkjaaGreatPinsEq
import Derived.Test.YtghoimllhpjkjaaGreatS3Nil
import Derived.Test.YtghoimllhpjkjaaGreatS3D
import Derived.Test.YtghoimllhpjkjaaGreatProg
set_option linter.unusedVariables false
set_option linter.unusedSimpArgs false
open Go Go.S3 Go.Proofs
set_option maxRecDepth 100000
namespace Go.Proofs.YtghoimllhpjkjaaGreat
noncomputable section
end
end Go.Proofs.YtghoimllhpjkjaaGreat
open Go.IntKind (u8 u16 i64)
namespace Go.Proofs.YtghoimllhpjkjaaGreat
noncomputable section
abbrev Cyc := Int × Int × Int × Int
abbrev cycR : R := R.pair (R.int i64) (R.pair (R.int u16) (R.pair (R.int u8) (R.int i64)))
theorem Zcf (st) (n : Int) (h : 0 ≤ n) : qAtC st n = true ∧ qAt st n = st.2.2.1.getD n.toNat 0 := by
 by_cases hn : n < (st.2.2.1.length : Int)
 ·simp [qAtC, qAt, qAtT, RT.val, iN, Ze, h, hn, okB, getO, R.get, R.dflt]
 ·have : st.2.2.1.length ≤ n.toNat := by omega
  simp [qAtC, qAt, qAtT, RT.val, iN, Ze, h, hn, okB, getO, R.get, R.dflt, List.getD_eq_getElem?_getD, List.getElem?_eq_none this]
theorem ZcV (st) (n : Int) (h : 0 ≤ n) : mAtC st n = true ∧ mAt st n = st.2.2.1.getD n.toNat 0 := by
 by_cases hn : n < (st.2.2.1.length : Int)
 ·simp [mAtC, mAt, mAtT, RT.val, iN, Ze, h, hn, okB, getO, R.get, R.dflt]
 ·have : st.2.2.1.length ≤ n.toNat := by omega
  simp [mAtC, mAt, mAtT, RT.val, iN, Ze, h, hn, okB, getO, R.get, R.dflt, List.getD_eq_getElem?_getD, List.getElem?_eq_none this]
theorem qat0 (st) : qAtC st 0 = true ∧ qAt st 0 = st.2.2.1.getD 0 0 := Zcf st 0 (by decide)
theorem qat1 (st) : qAtC st 1 = true ∧ qAt st 1 = st.2.2.1.getD 1 0 := Zcf st 1 (by decide)
theorem mat0 (st) : mAtC st 0 = true ∧ mAt st 0 = st.2.2.1.getD 0 0 := ZcV st 0 (by decide)
theorem mat1 (st) : mAtC st 1 = true ∧ mAt st 1 = st.2.2.1.getD 1 0 := ZcV st 1 (by decide)
theorem rg0 (g : List Int) : R.get (.int .u8) g 0 = g.getD 0 0 := rfl
def pick (l : List Cyc) (n : Nat) : Cyc × Bool := (l.getD n (0, 0, 0, 0), decide (n < l.length))
theorem pk (l : List Cyc) (n : Nat) : (cond (decide (iN n ≥ iN l.length)) (some (((0, 0, 0, 0) : Cyc), false)) (cond (Ze (iN n) l.length) (some (R.get cycR l (iN n), true)) none)) = some (pick l n) := by
 by_cases h : n < l.length
 ·have h1 : ¬ (l.length : Int) ≤ n := by omega
  simp [pick, h, h1, Ze, iN, R.get, R.dflt]
 ·have h1 : (l.length : Int) ≤ n := by omega
  simp [pick, h, h1, Ze, iN]
theorem ZaU (x : Cyc) (l) (n : Nat) : pick (x :: l) (n + 1) = pick l n := by simp [pick]
theorem ZaT (x : Cyc) (l) : pick (x :: l) 0 = (x, true) := by simp [pick]
theorem Zy (s : Int) : Zd s = Za s := rfl
theorem len0 (g : List Int) (a : Int) : (iN (a :: g).length == 0) = false ∧ decide (iN (a :: g).length > 0) = true ∧ Ze 0 (a :: g).length = true := by
 have : ((g.length : Int) + 1 == 0) = false := by simp; omega
 simp [iN, Ze, this]
theorem ZjW : (iN ([] : List Int).length == 0) = true ∧ decide (iN ([] : List Int).length > 0) = false ∧ Ze 0 ([] : List Int).length = false := by decide
theorem Z1 (s) (n) : ZcE s n = ZaN s.1.2.1 n := rfl
theorem Zas (s) (n) : qReg s n = rGet s.1.2.1 n := rfl
theorem ZR (s) : ZeY s = Zde s.2.2.2.1.2.2.2.2.2.2.1 s.1.2.1.2.2.2.2.2.2.2.1 := rfl
theorem ZS (s i) : Zf2 s i = Zde i.2.2.2.2.2.2.1 s.1.2.1.2.2.2.2.2.2.2.1 := rfl
theorem ZI (s) : Zr s = cond s.2.1 s.1.2.1.2.2.2.2.2.2.2.2.2 (IntKind.wrap .u16 (s.1.2.1.2.2.2.2.2.2.2.2.2 + IntKind.wrap .u16 s.2.2.2.1.2.1)) := rfl
theorem ZJ (s n) : Zfi s n = cond s.2.1 s.1.2.1.2.2.2.2.2.2.2.2.2 (IntKind.wrap .u16 (s.1.2.1.2.2.2.2.2.2.2.2.2 + IntKind.wrap .u16 n)) := rfl
theorem Zcl : IntKind.wrap .i64 2 = 2 ∧ IntKind.wrap .i64 4 = 4 := by decide
theorem Zbf (s) : ZbI s 1 = true ∧ Zea s 1 = ZaH (s.2.2.1.getD 2 0) (s.2.2.1.getD 1 0) := by
 simp [ZbI, Zea, Zpn, RT.val, Zcl, Zcf s 2 (by decide), Zcf s 1 (by decide), okB, getO]
theorem Ze0 (s) : ZbI s 3 = true ∧ Zea s 3 = ZaH (s.2.2.1.getD 4 0) (s.2.2.1.getD 3 0) := by
 simp [ZbI, Zea, Zpn, RT.val, Zcl, Zcf s 4 (by decide), Zcf s 3 (by decide), okB, getO]
theorem Zbh (s) : ZcW s 1 = true ∧ Zf1 s 1 = ZaH (s.2.2.1.getD 2 0) (s.2.2.1.getD 1 0) := by
 simp [ZcW, Zf1, ZAB, RT.val, Zcl, ZcV s 2 (by decide), ZcV s 1 (by decide), okB, getO]
theorem Zan (s) : Zeb s = true ∧ ZfK s = cond (s.2.2.2.1.1 == 14) (rInr s.1.1 (s.2.2.1.getD 1 0) s.1.2.1.2.2.2.2.2.2.2.1).1 (rDcr s.1.1 (s.2.2.1.getD 1 0) s.1.2.1.2.2.2.2.2.2.2.1).1 := by
 simp [Zeb, ZfK, ZfJ, RT.val, qat1, okB, getO]
theorem Zx (c i v) : ZlX c i v = cond (i.1 == 14) (rInr c.1 v c.2.1.2.2.2.2.2.2.2.1) (rDcr c.1 v c.2.1.2.2.2.2.2.2.2.1) := rfl
abbrev FlgT := Bool × Bool × Bool × Bool × Bool × Bool × Bool
abbrev RegT := Int × Int × Int × Int × Int × Int × Int × FlgT × Int × Int
abbrev CpuT := Int × RegT × Bool × Bool × Bool × Int × Bool × Bool × Bool × Bool × Bool × Bool × Bool
abbrev InsT := QT4
def opC (c : CpuT) (inj : Bool) (k : Int) : Cyc := bif inj then (9, pcOf c, 0, 3) else (2, IntKind.wrap .u16 (pcOf c + IntKind.wrap .u16 k), 0, 3)
def Zbs (c : CpuT) (w : Int) : List Cyc := [(5, IntKind.wrap .u16 (spOf c - 1), IntKind.wrap .u8 (shrI .u16 w 8), 3), (5, IntKind.wrap .u16 (spOf c - 2), IntKind.wrap .u8 w, 3)]
def popX (c : CpuT) : List Cyc := [(4, spOf c, 0, 3), (4, IntKind.wrap .u16 (spOf c + 1), 0, 3)]
def ZK (c : CpuT) (inj : Bool) (i : InsT) : Int := bif inj then pcOf c else IntKind.wrap .u16 (pcOf c + IntKind.wrap .u16 i.2.1)
def Zah (c : CpuT) (i : InsT) : Bool := Zde i.2.2.2.2.2.2.1 c.2.1.2.2.2.2.2.2.2.1
def ZfA (a : Int) : List Cyc := [(2, a, 0, 3), (2, IntKind.wrap .u16 (a + 1), 0, 3)]
def ZcR (c : CpuT) (a : Int) : List Cyc := [(3, a, c.2.1.2.2.2.2.2.2.1, 3), (3, IntKind.wrap .u16 (a + 1), c.2.1.2.2.2.2.2.1, 3)]
def Zbv (c : CpuT) (inj : Bool) (i : InsT) : List Cyc := bif c.1 == 2 && !Zah c i then [opC c inj 1] else [opC c inj 1, opC c inj 2]
def Za8 (g : List Int) (n : Nat) : Int := ZaH (g.getD (n + 1) 0) (g.getD n 0)
def Zfk (c : CpuT) : Cyc := (11, pcOf c, 0, 3)
def ZdM (c : CpuT) (i : InsT) (v : Int) : Int := bif i.1 == 14 then (rInr c.1 v c.2.1.2.2.2.2.2.2.2.1).1 else (rDcr c.1 v c.2.1.2.2.2.2.2.2.2.1).1
def ZbF (c : CpuT) (inj : Bool) (g : List Int) (i : InsT) : List Cyc :=
 let hl := ZaN c.2.1 2
 let dst := i.2.2.1
 let src := i.2.2.2.1
 let pr := i.2.2.2.2.1
 bif i.1 == 2 then (bif src == 6 then [(2, hl, 0, 3)] else bif dst == 6 then [(3, hl, rGet c.2.1 src, 3)] else []) else
 bif i.1 == 3 then opC c inj 1 :: (bif dst == 6 then [(3, hl, g.getD 1 0, 3)] else []) else
 bif i.1 == 4 then [opC c inj 1, opC c inj 2] else
 bif i.1 == 5 then [opC c inj 1, opC c inj 2, (2, Za8 g 1, 0, 3)] else
 bif i.1 == 6 then [opC c inj 1, opC c inj 2, (3, Za8 g 1, c.2.1.1, 3)] else
 bif i.1 == 7 then opC c inj 1 :: opC c inj 2 :: ZfA (Za8 g 1) else
 bif i.1 == 8 then opC c inj 1 :: opC c inj 2 :: ZcR c (Za8 g 1) else
 bif i.1 == 9 then [(2, ZaN c.2.1 pr, 0, 3)] else
 bif i.1 == 10 then [(3, ZaN c.2.1 pr, c.2.1.1, 3)] else
 bif i.1 == 12 then (bif src == 6 then [(2, hl, 0, 3)] else []) else
 bif i.1 == 13 then [opC c inj 1] else
 bif i.1 == 14 || i.1 == 15 then (bif dst == 6 then [(2, hl, 0, 3), (3, hl, ZdM c i (g.getD 1 0), 3)] else []) else
 bif i.1 == 18 || i.1 == 40 || i.1 == 42 then [Zfk c, Zfk c] else
 bif i.1 == 24 then Zbv c inj i else
 bif i.1 == 25 then Zbv c inj i ++ (bif Zah c i then Zbs c (ZK c inj i) else []) else
 bif i.1 == 26 then (bif Zah c i then popX c else []) else
 bif i.1 == 27 then Zbs c (ZK c inj i) else
 bif i.1 == 45 then (bif Zah c i then Zbs c (ZK c inj i) else []) else
 bif i.1 == 30 then Zbs c (bif pr == 3 then rPSW c.1 c.2.1 else ZaN c.2.1 pr) else
 bif i.1 == 31 then popX c else
 bif i.1 == 32 then popX c ++ [(5, IntKind.wrap .u16 (spOf c + 1), c.2.1.2.2.2.2.2.1, 3), (5, spOf c, c.2.1.2.2.2.2.2.2.1, bif c.1 == 2 then 3 else 5)] else
 bif i.1 == 33 then [opC c inj 1, (6, ZaH (g.getD 1 0) (g.getD 1 0), 0, 3)] else
 bif i.1 == 34 then [opC c inj 1, (7, ZaH (g.getD 1 0) (g.getD 1 0), c.2.1.1, 3)] else
 bif i.1 == 37 then (bif c.1 == 2 then [] else [(10, pcOf c, 0, 3)]) else
 bif i.1 == 41 then [Zfk c] else
 bif i.1 == 43 || i.1 == 44 then [opC c inj 1, Zfk c] else
 bif i.1 == 46 then ZcR c (ZaN c.2.1 1) else
 bif i.1 == 47 then ZfA (ZaN c.2.1 1) else
 []
def ZfO (c : CpuT) (s : Int) (g : List Int) : List Cyc :=
 bif Za s then (12, pcOf c, 0, 6) :: Zbs c (pcOf c)
 else (bif s == 5 then 8 else 1, pcOf c, 0, 4) :: match g with
  | [] => []
  | o :: _ => ZbF c (s == 5) g (Zb c.1 o)
def Zj (c : CpuT) (s : Int) (g : List Int) : Cyc × Bool := pick (ZfO c s g) g.length
def sk (x : Cyc) : Cyc := (x.1, 0, 0, x.2.2.2)
def ZAQ (c op : Int) : Bool := decide (1 ≤ (Zb c op).1) && decide ((Zb c op).1 ≤ 47)
theorem ZAP (c op : Int) (h : inR .u8 op) : 1 ≤ (Zb c op).1 ∧ (Zb c op).1 ≤ 47 := by
 have fin : ZAQ c op = true → 1 ≤ (Zb c op).1 ∧ (Zb c op).1 ≤ 47 := by
  intro hc; simpa [ZAQ] using hc
 by_cases hc : c = 2
 ·subst hc; exact fin (Zgi (ZAQ 2) (by kernel_rfl) op h)
 ·have h0 := Zgi (ZAQ 0) (by kernel_rfl) op h
  have e : Zb c op = Zb 0 op := by unfold Zb; rw [Zin c op hc]
  refine fin ?_
  simp only [ZAQ, e] at h0 ⊢; exact h0
theorem ZBc {g : List Int} (h : (R.sl (.int .u8)).ok g) : inR .u8 (g.getD 0 0) := by
 cases g with
 | nil => rw [Zj5]; simp
 | cons x l => exact h.2 x (by simp)
theorem ZAO {n : Int} (h1 : 1 ≤ n) (h2 : n ≤ 47) : n = 1 ∨ n = 2 ∨ n = 3 ∨ n = 4 ∨ n = 5 ∨ n = 6 ∨ n = 7 ∨ n = 8 ∨ n = 9 ∨ n = 10 ∨ n = 11 ∨ n = 12 ∨ n = 13 ∨ n = 14 ∨ n = 15 ∨ n = 16 ∨ n = 17 ∨ n = 18 ∨ n = 19 ∨ n = 20 ∨ n = 21 ∨ n = 22 ∨ n = 23 ∨ n = 24 ∨ n = 25 ∨ n = 26 ∨ n = 27 ∨ n = 28 ∨ n = 29 ∨ n = 30 ∨ n = 31 ∨ n = 32 ∨ n = 33 ∨ n = 34 ∨ n = 35 ∨ n = 36 ∨ n = 37 ∨ n = 38 ∨ n = 39 ∨ n = 40 ∨ n = 41 ∨ n = 42 ∨ n = 43 ∨ n = 44 ∨ n = 45 ∨ n = 46 ∨ n = 47 := by omega
def Zb7 (k : Int) : Entry := .tree (ZQ (envX Tryz.prog [(182, ZpK k), (222, qAtE)] [] 255 8) Tryz.f178)
theorem Zdz (k : Int) : Zc Tryz.prog 178 (Zb7 k) := ZaF (P := Tryz.prog) (n := 255) (k := 8) (l := [(182, ZpK k), (222, qAtE)]) (ol := []) ⟨(ZuG k), ZfM, trivial⟩ Tryz.func178 rfl (by kernel_rfl) Tryz.call178 trivial
def Zi : Entry := .tree (ZQ (envX Tryz.prog [] [] 255 8) Tryz.f230)
theorem ZE : Zc Tryz.prog 230 Zi := ZaF (P := Tryz.prog) (n := 255) (k := 8) (l := []) (ol := []) trivial Tryz.func230 rfl (by kernel_rfl) Tryz.call230 trivial
def ZaC : Entry := .tree (ZQ (envX Tryz.prog [(230, Zi)] [] 15 8) Tryz.f180)
theorem ZbL : Zc Tryz.prog 180 ZaC := ZaF (P := Tryz.prog) (n := 15) (k := 8) (l := [(230, Zi)]) (ol := []) ⟨ZE, trivial⟩ Tryz.func180 rfl (by kernel_rfl) Tryz.call180 trivial
def Zp : Entry := .tree (ZQ (envX Tryz.prog [(230, Zi)] [] 31 8) Tryz.f233)
theorem ZX : Zc Tryz.prog 233 Zp := ZaF (P := Tryz.prog) (n := 31) (k := 8) (l := [(230, Zi)]) (ol := []) ⟨ZE, trivial⟩ Tryz.func233 rfl (by kernel_rfl) Tryz.call233 trivial
def Z5 : Entry := .tree (ZQ (envX Tryz.prog [(230, Zi)] [] 63 8) Tryz.f237)
theorem ZbB : Zc Tryz.prog 237 Z5 := ZaF (P := Tryz.prog) (n := 63) (k := 8) (l := [(230, Zi)]) (ol := []) ⟨ZE, trivial⟩ Tryz.func237 rfl (by kernel_rfl) Tryz.call237 trivial
def Zat : Entry := .tree (ZQ (envX Tryz.prog [(230, Zi), (233, Zp), (237, Z5), (270, Ziy)] [] 268570631 8) Tryz.f235)
theorem Zcr : Zc Tryz.prog 235 Zat := ZaF (P := Tryz.prog) (n := 268570631) (k := 8) (l := [(230, Zi), (233, Zp), (237, Z5), (270, Ziy)]) (ol := []) ⟨ZE, ZX, ZbB, Zmc, trivial⟩ Tryz.func235 rfl (by kernel_rfl) Tryz.call235 trivial
def Zbb : Entry := .tree (ZQ (envX Tryz.prog [(233, Zp), (280, Zfc)] [] 15 8) Tryz.f288)
theorem ZdS : Zc Tryz.prog 288 Zbb := ZaF (P := Tryz.prog) (n := 15) (k := 8) (l := [(233, Zp), (280, Zfc)]) (ol := []) ⟨ZX, Ziv, trivial⟩ Tryz.func288 rfl (by kernel_rfl) Tryz.call288 trivial
def Zbo : Entry := .tree (ZQ (envX Tryz.prog [(230, Zi)] [] 3 8) Tryz.f289)
theorem Zeo : Zc Tryz.prog 289 Zbo := ZaF (P := Tryz.prog) (n := 3) (k := 8) (l := [(230, Zi)]) (ol := []) ⟨ZE, trivial⟩ Tryz.func289 rfl (by kernel_rfl) Tryz.call289 trivial
def Zbc : Entry := .tree (ZQ (envX Tryz.prog [(230, Zi)] [] 15 8) Tryz.f291)
theorem ZdT : Zc Tryz.prog 291 Zbc := ZaF (P := Tryz.prog) (n := 15) (k := 8) (l := [(230, Zi)]) (ol := []) ⟨ZE, trivial⟩ Tryz.func291 rfl (by kernel_rfl) Tryz.call291 trivial
def Zao : Entry := .tree (ZQ (envX Tryz.prog [(180, ZaC), (223, ZfL), (230, Zi), (231, Zd8), (233, Zp), (280, Zfc), (288, Zbb), (289, Zbo), (290, Zzr), (291, Zbc)] [] 1517844491342638470129438826421819271357141255 8) Tryz.f238)
theorem Zcc : Zc Tryz.prog 238 Zao := ZaF (P := Tryz.prog) (n := 1517844491342638470129438826421819271357141255) (k := 8) (l := [(180, ZaC), (223, ZfL), (230, Zi), (231, Zd8), (233, Zp), (280, Zfc), (288, Zbb), (289, Zbo), (290, Zzr), (291, Zbc)]) (ol := []) ⟨ZbL, Zk2, ZE, ZfG, ZX, Ziv, ZdS, Zeo, ZCQ, ZdT, trivial⟩ Tryz.func238 rfl (by kernel_rfl) Tryz.call238 trivial
def Zcj : Entry := .tree (ZQ (envX Tryz.prog [(222, qAtE), (230, Zi), (231, Zd8), (232, Zpm), (233, Zp), (234, Ziz), (235, Zat), (236, ZmL), (237, Z5), (238, Zao)] [] 2854495396045824897803138545268610783927869455 8) Tryz.f181)
theorem ZdU : Zc Tryz.prog 181 Zcj := ZaF (P := Tryz.prog) (n := 2854495396045824897803138545268610783927869455) (k := 8) (l := [(222, qAtE), (230, Zi), (231, Zd8), (232, Zpm), (233, Zp), (234, Ziz), (235, Zat), (236, ZmL), (237, Z5), (238, Zao)]) (ol := []) ⟨ZfM, ZE, ZfG, Zmb, ZX, Zra, Zcr, ZpH, ZbB, Zcc, trivial⟩ Tryz.func181 rfl (by kernel_rfl) Tryz.call181 trivial
abbrev Zg : List Sh := [Sh.agg ZbQ, Sh.one (R.int i64), Sh.one (R.sl (R.int u8))]
abbrev Zs : Rs := Rs.tup [Sh.agg (RY), Sh.one R.bool]
def ZM (k : Int) : List (FuncId × Entry) := [(176, ZgE), (178, Zb7 k), (180, ZaC), (181, Zcj)]
theorem Zzz (k : Int) : Zc8 Tryz.prog (ZM k) := ⟨Zha, (Zdz k), ZbL, ZdU, trivial⟩
def ZmI (c : TC) (s : Int) (g : List Int) : RT (Option (TY × Bool)) :=
 let x1 : QT0 := (c, s == 5, g, (0, 0, 0, 0, 0, 0, 0, 0), [])
 let x2 := qAtC x1 0
 let x3 := !x2 || (Zb c.1 (qAt x1 0)).1 == 1
 let x4 : List TY := [] ++ [(12, pcOf c, 0, 6)] ++ [(5, u16.wrap ((spOf c) - 1), u8.wrap (shrI u16 (pcOf c) 8), 3)] ++ [(5, u16.wrap ((spOf c) - 2), u8.wrap (pcOf c), 3)]
 let x6 : QT7 := ((pcOf c), 0, 4)
 let x7 : List TY := [] ++ [(bif s == 5 then 8 else 1, x6)]
 let x9 : List TY := [] ++ [(1, x6)]
 .br (!x3 || x2) (.br (x3) (.br (Zd s) (fin3 g x4) (.br (iN (List.length g) == 0) (fin3 g x7) (fin3 g x9))) (.leaf none)) (.leaf none)
theorem Zv9 (a : HL Zg) : Zo (envX Tryz.prog (ZM 1) [] 1125900980585471 8) Tryz.f113 Zg Zs a = ZmI a.1 a.2.1 a.2.2 := by kernel_rfl
def ZmE (c : TC) (s : Int) (g : List Int) : RT (Option (TY × Bool)) :=
 let x1 : QT0 := (c, s == 5, g, (0, 0, 0, 0, 0, 0, 0, 0), [])
 let x2 := qAtC x1 0
 let x3 := Zb c.1 (qAt x1 0)
 let x4 := !x2 || x3.1 == 5
 let x5 : QT7 := ((pcOf c), 0, 4)
 let x6 : List TY := [] ++ [(1, x5)]
 let x7 : List TY := [(9, pcOf c, 0, 3)]
 let x8 : List TY := bif s == 5 then x6 ++ x7 else x6 ++ [(2, u16.wrap ((pcOf c) + u16.wrap 1), 0, 3)]
 let x9 : List TY := bif s == 5 then x8 ++ x7 else x8 ++ [(2, u16.wrap ((pcOf c) + u16.wrap (i64.wrap (1 + 1))), 0, 3)]
 let x10 : QT0 := (c, s == 5, g, (5, x3.2), x9)
 let x11 : List TY := [] ++ [(12, pcOf c, 0, 6)] ++ [(5, u16.wrap ((spOf c) - 1), u8.wrap (shrI u16 (pcOf c) 8), 3)] ++ [(5, u16.wrap ((spOf c) - 2), u8.wrap (pcOf c), 3)]
 let x13 : List TY := [] ++ [(bif s == 5 then 8 else 1, x5)]
 let x15 : List TY := x9 ++ [(2, Zea x10 1, 0, 3)]
 .br (!x4 || x2) (.br (x4) (.br (Zd s || (iN (List.length g) == 0 || ZbI x10 1)) (.br (Zd s) (fin3 g x11) (.br (iN (List.length g) == 0) (fin3 g x13) (fin3 g x15))) (.leaf none)) (.leaf none)) (.leaf none)
theorem Zv5 (a : HL Zg) : Zo (envX Tryz.prog (ZM 5) [] 1125900980585471 8) Tryz.f113 Zg Zs a = ZmE a.1 a.2.1 a.2.2 := by kernel_rfl
def ZmA (c : TC) (s : Int) (g : List Int) : RT (Option (TY × Bool)) :=
 let x1 : QT0 := (c, s == 5, g, (0, 0, 0, 0, 0, 0, 0, 0), [])
 let x2 := qAtC x1 0
 let x3 := Zb c.1 (qAt x1 0)
 let x4 := !x2 || x3.1 == 9
 let x5 : List TY := [] ++ [(12, pcOf c, 0, 6)] ++ [(5, u16.wrap ((spOf c) - 1), u8.wrap (shrI u16 (pcOf c) 8), 3)] ++ [(5, u16.wrap ((spOf c) - 2), u8.wrap (pcOf c), 3)]
 let x7 : QT7 := ((pcOf c), 0, 4)
 let x8 : List TY := [] ++ [(bif s == 5 then 8 else 1, x7)]
 let x10 : List TY := [] ++ [(1, x7)]
 let x11 := x3.2
 let x12 : List TY := x10 ++ [(2, ZcE (c, s == 5, g, (9, x11), x10) x11.2.2.2.1, 0, 3)]
 .br (!x4 || x2) (.br (x4) (.br (Zd s) (fin3 g x5) (.br (iN (List.length g) == 0) (fin3 g x8) (fin3 g x12))) (.leaf none)) (.leaf none)
theorem Zv1 (a : HL Zg) : Zo (envX Tryz.prog (ZM 9) [] 1125900980585471 8) Tryz.f113 Zg Zs a = ZmA a.1 a.2.1 a.2.2 := by kernel_rfl
def Zjn (c : TC) (s : Int) (g : List Int) : RT (Option (TY × Bool)) :=
 let x1 : QT0 := (c, s == 5, g, (0, 0, 0, 0, 0, 0, 0, 0), [])
 let x2 := qAtC x1 0
 let x3 := !x2 || (Zb c.1 (qAt x1 0)).1 == 13
 let x4 : List TY := [] ++ [(12, pcOf c, 0, 6)] ++ [(5, u16.wrap ((spOf c) - 1), u8.wrap (shrI u16 (pcOf c) 8), 3)] ++ [(5, u16.wrap ((spOf c) - 2), u8.wrap (pcOf c), 3)]
 let x6 : QT7 := ((pcOf c), 0, 4)
 let x7 : List TY := [] ++ [(bif s == 5 then 8 else 1, x6)]
 let x9 : List TY := [] ++ [(1, x6)]
 let x10 : List TY := bif s == 5 then x9 ++ [(9, pcOf c, 0, 3)] else x9 ++ [(2, u16.wrap ((pcOf c) + u16.wrap 1), 0, 3)]
 .br (!x3 || x2) (.br (x3) (.br (Zd s) (fin3 g x4) (.br (iN (List.length g) == 0) (fin3 g x7) (fin3 g x10))) (.leaf none)) (.leaf none)
theorem Zr5 (a : HL Zg) : Zo (envX Tryz.prog (ZM 13) [] 1125900980585471 8) Tryz.f113 Zg Zs a = Zjn a.1 a.2.1 a.2.2 := by kernel_rfl
def Zjj (c : TC) (s : Int) (g : List Int) : RT (Option (TY × Bool)) :=
 let x1 : QT0 := (c, s == 5, g, (0, 0, 0, 0, 0, 0, 0, 0), [])
 let x2 := qAtC x1 0
 let x3 := !x2 || (Zb c.1 (qAt x1 0)).1 == 17
 let x4 : List TY := [] ++ [(12, pcOf c, 0, 6)] ++ [(5, u16.wrap ((spOf c) - 1), u8.wrap (shrI u16 (pcOf c) 8), 3)] ++ [(5, u16.wrap ((spOf c) - 2), u8.wrap (pcOf c), 3)]
 let x6 : QT7 := ((pcOf c), 0, 4)
 let x7 : List TY := [] ++ [(bif s == 5 then 8 else 1, x6)]
 let x9 : List TY := [] ++ [(1, x6)]
 .br (!x3 || x2) (.br (x3) (.br (Zd s) (fin3 g x4) (.br (iN (List.length g) == 0) (fin3 g x7) (fin3 g x9))) (.leaf none)) (.leaf none)
theorem Zr1 (a : HL Zg) : Zo (envX Tryz.prog (ZM 17) [] 1125900980585471 8) Tryz.f113 Zg Zs a = Zjj a.1 a.2.1 a.2.2 := by kernel_rfl
def Zjf (c : TC) (s : Int) (g : List Int) : RT (Option (TY × Bool)) :=
 let x1 : QT0 := (c, s == 5, g, (0, 0, 0, 0, 0, 0, 0, 0), [])
 let x2 := qAtC x1 0
 let x3 := !x2 || (Zb c.1 (qAt x1 0)).1 == 21
 let x4 : List TY := [] ++ [(12, pcOf c, 0, 6)] ++ [(5, u16.wrap ((spOf c) - 1), u8.wrap (shrI u16 (pcOf c) 8), 3)] ++ [(5, u16.wrap ((spOf c) - 2), u8.wrap (pcOf c), 3)]
 let x6 : QT7 := ((pcOf c), 0, 4)
 let x7 : List TY := [] ++ [(bif s == 5 then 8 else 1, x6)]
 let x9 : List TY := [] ++ [(1, x6)]
 .br (!x3 || x2) (.br (x3) (.br (Zd s) (fin3 g x4) (.br (iN (List.length g) == 0) (fin3 g x7) (fin3 g x9))) (.leaf none)) (.leaf none)
theorem ZrX (a : HL Zg) : Zo (envX Tryz.prog (ZM 21) [] 1125900980585471 8) Tryz.f113 Zg Zs a = Zjf a.1 a.2.1 a.2.2 := by kernel_rfl
def Zjb (c : TC) (s : Int) (g : List Int) : RT (Option (TY × Bool)) :=
 let x1 : QT0 := (c, s == 5, g, (0, 0, 0, 0, 0, 0, 0, 0), [])
 let x2 := qAtC x1 0
 let x3 := Zb c.1 (qAt x1 0)
 let x4 := !x2 || x3.1 == 25
 let x5 := u16.wrap ((spOf c) - 1)
 let x6 := u16.wrap ((spOf c) - 2)
 let x7 : List TY := [] ++ [(12, pcOf c, 0, 6)] ++ [(5, x5, u8.wrap (shrI u16 (pcOf c) 8), 3)] ++ [(5, x6, u8.wrap (pcOf c), 3)]
 let x9 : QT7 := ((pcOf c), 0, 4)
 let x10 : List TY := [] ++ [(bif s == 5 then 8 else 1, x9)]
 let x12 : QT4 := (25, x3.2)
 let x13 : List TY := [] ++ [(1, x9)]
 let x14 := ZeY (c, s == 5, g, x12, x13)
 let x15 : List TY := [(9, pcOf c, 0, 3)]
 let x16 : List TY := bif s == 5 then x13 ++ x15 else x13 ++ [(2, u16.wrap ((pcOf c) + u16.wrap 1), 0, 3)]
 let x17 : List TY := bif !x14 && c.1 == 2 then x16 else bif s == 5 then x16 ++ x15 else x16 ++ [(2, u16.wrap ((pcOf c) + u16.wrap (i64.wrap (1 + 1))), 0, 3)]
 let x18 := Zr (c, s == 5, g, x12, x17)
 let x19 : List TY := bif x14 then x17 ++ [(5, x5, u8.wrap (shrI u16 x18 8), 3)] ++ [(5, x6, u8.wrap x18, 3)] else x17
 .br (!x4 || x2) (.br (x4) (.br (Zd s) (fin3 g x7) (.br (iN (List.length g) == 0) (fin3 g x10) (fin3 g x19))) (.leaf none)) (.leaf none)
theorem ZrT (a : HL Zg) : Zo (envX Tryz.prog (ZM 25) [] 1125900980585471 8) Tryz.f113 Zg Zs a = Zjb a.1 a.2.1 a.2.2 := by kernel_rfl
def Zi7 (c : TC) (s : Int) (g : List Int) : RT (Option (TY × Bool)) :=
 let x1 : QT0 := (c, s == 5, g, (0, 0, 0, 0, 0, 0, 0, 0), [])
 let x2 := qAtC x1 0
 let x3 := !x2 || (Zb c.1 (qAt x1 0)).1 == 29
 let x4 : List TY := [] ++ [(12, pcOf c, 0, 6)] ++ [(5, u16.wrap ((spOf c) - 1), u8.wrap (shrI u16 (pcOf c) 8), 3)] ++ [(5, u16.wrap ((spOf c) - 2), u8.wrap (pcOf c), 3)]
 let x6 : QT7 := ((pcOf c), 0, 4)
 let x7 : List TY := [] ++ [(bif s == 5 then 8 else 1, x6)]
 let x9 : List TY := [] ++ [(1, x6)]
 .br (!x3 || x2) (.br (x3) (.br (Zd s) (fin3 g x4) (.br (iN (List.length g) == 0) (fin3 g x7) (fin3 g x9))) (.leaf none)) (.leaf none)
theorem ZrP (a : HL Zg) : Zo (envX Tryz.prog (ZM 29) [] 1125900980585471 8) Tryz.f113 Zg Zs a = Zi7 a.1 a.2.1 a.2.2 := by kernel_rfl
def Zi3 (c : TC) (s : Int) (g : List Int) : RT (Option (TY × Bool)) :=
 let x1 : QT0 := (c, s == 5, g, (0, 0, 0, 0, 0, 0, 0, 0), [])
 let x2 := qAtC x1 0
 let x3 := Zb c.1 (qAt x1 0)
 let x4 := !x2 || x3.1 == 33
 let x5 : QT7 := ((pcOf c), 0, 4)
 let x6 : List TY := [] ++ [(1, x5)]
 let x7 : List TY := bif s == 5 then x6 ++ [(9, pcOf c, 0, 3)] else x6 ++ [(2, u16.wrap ((pcOf c) + u16.wrap 1), 0, 3)]
 let x8 : QT0 := (c, s == 5, g, (33, x3.2), x7)
 let x9 := qAtC x8 1
 let x10 := !x9 || x9
 let x11 := !x10 || x9
 let x12 := Zd s || (iN (List.length g) == 0 || (!x11 || x10))
 let x13 : List TY := [] ++ [(12, pcOf c, 0, 6)] ++ [(5, u16.wrap ((spOf c) - 1), u8.wrap (shrI u16 (pcOf c) 8), 3)] ++ [(5, u16.wrap ((spOf c) - 2), u8.wrap (pcOf c), 3)]
 let x15 : List TY := [] ++ [(bif s == 5 then 8 else 1, x5)]
 let x17 := qAt x8 1
 let x18 : List TY := x7 ++ [(6, ZaH x17 x17, 0, 3)]
 .br (!x4 || x2) (.br (x4) (.br (!x12 || (Zd s || (iN (List.length g) == 0 || x11))) (.br (x12) (.br (Zd s) (fin3 g x13) (.br (iN (List.length g) == 0) (fin3 g x15) (fin3 g x18))) (.leaf none)) (.leaf none)) (.leaf none)) (.leaf none)
theorem ZrL (a : HL Zg) : Zo (envX Tryz.prog (ZM 33) [] 1125900980585471 8) Tryz.f113 Zg Zs a = Zi3 a.1 a.2.1 a.2.2 := by kernel_rfl
def ZiZ (c : TC) (s : Int) (g : List Int) : RT (Option (TY × Bool)) :=
 let x1 : QT0 := (c, s == 5, g, (0, 0, 0, 0, 0, 0, 0, 0), [])
 let x2 := qAtC x1 0
 let x3 := !x2 || (Zb c.1 (qAt x1 0)).1 == 37
 let x4 : List TY := [] ++ [(12, pcOf c, 0, 6)] ++ [(5, u16.wrap ((spOf c) - 1), u8.wrap (shrI u16 (pcOf c) 8), 3)] ++ [(5, u16.wrap ((spOf c) - 2), u8.wrap (pcOf c), 3)]
 let x6 : QT7 := ((pcOf c), 0, 4)
 let x7 : List TY := [] ++ [(bif s == 5 then 8 else 1, x6)]
 let x9 : List TY := [] ++ [(1, x6)]
 let x10 : List TY := bif c.1 != 2 then x9 ++ [(10, pcOf c, 0, 3)] else x9
 .br (!x3 || x2) (.br (x3) (.br (Zd s) (fin3 g x4) (.br (iN (List.length g) == 0) (fin3 g x7) (fin3 g x10))) (.leaf none)) (.leaf none)
theorem ZrH (a : HL Zg) : Zo (envX Tryz.prog (ZM 37) [] 1125900980585471 8) Tryz.f113 Zg Zs a = ZiZ a.1 a.2.1 a.2.2 := by kernel_rfl
def ZiV (c : TC) (s : Int) (g : List Int) : RT (Option (TY × Bool)) :=
 let x1 : QT0 := (c, s == 5, g, (0, 0, 0, 0, 0, 0, 0, 0), [])
 let x2 := qAtC x1 0
 let x3 := !x2 || (Zb c.1 (qAt x1 0)).1 == 41
 let x4 : List TY := [] ++ [(12, pcOf c, 0, 6)] ++ [(5, u16.wrap ((spOf c) - 1), u8.wrap (shrI u16 (pcOf c) 8), 3)] ++ [(5, u16.wrap ((spOf c) - 2), u8.wrap (pcOf c), 3)]
 let x6 : QT7 := ((pcOf c), 0, 4)
 let x7 : List TY := [] ++ [(bif s == 5 then 8 else 1, x6)]
 let x9 : List TY := [] ++ [(1, x6)] ++ [(11, pcOf c, 0, 3)]
 .br (!x3 || x2) (.br (x3) (.br (Zd s) (fin3 g x4) (.br (iN (List.length g) == 0) (fin3 g x7) (fin3 g x9))) (.leaf none)) (.leaf none)
theorem ZrD (a : HL Zg) : Zo (envX Tryz.prog (ZM 41) [] 1125900980585471 8) Tryz.f113 Zg Zs a = ZiV a.1 a.2.1 a.2.2 := by kernel_rfl
def ZiR (c : TC) (s : Int) (g : List Int) : RT (Option (TY × Bool)) :=
 let x1 : QT0 := (c, s == 5, g, (0, 0, 0, 0, 0, 0, 0, 0), [])
 let x2 := qAtC x1 0
 let x3 := Zb c.1 (qAt x1 0)
 let x4 := !x2 || x3.1 == 45
 let x5 := u16.wrap ((spOf c) - 1)
 let x6 := u16.wrap ((spOf c) - 2)
 let x7 : List TY := [] ++ [(12, pcOf c, 0, 6)] ++ [(5, x5, u8.wrap (shrI u16 (pcOf c) 8), 3)] ++ [(5, x6, u8.wrap (pcOf c), 3)]
 let x9 : QT7 := ((pcOf c), 0, 4)
 let x10 : List TY := [] ++ [(bif s == 5 then 8 else 1, x9)]
 let x12 : List TY := [] ++ [(1, x9)]
 let x13 : QT0 := (c, s == 5, g, (45, x3.2), x12)
 let x14 := Zr x13
 let x15 : List TY := bif ZeY x13 then x12 ++ [(5, x5, u8.wrap (shrI u16 x14 8), 3)] ++ [(5, x6, u8.wrap x14, 3)] else x12
 .br (!x4 || x2) (.br (x4) (.br (Zd s) (fin3 g x7) (.br (iN (List.length g) == 0) (fin3 g x10) (fin3 g x15))) (.leaf none)) (.leaf none)
theorem Zrz (a : HL Zg) : Zo (envX Tryz.prog (ZM 45) [] 1125900980585471 8) Tryz.f113 Zg Zs a = ZiR a.1 a.2.1 a.2.2 := by kernel_rfl
def Zt1 (c : TC) (s : Int) (g : List Int) : RT (Option (TY × Bool)) :=
 let x1 : List TY := [(12, pcOf c, 0, 6)] ++ [(5, u16.wrap ((spOf c) - 1), u8.wrap (shrI u16 (pcOf c) 8), 3)] ++ [(5, u16.wrap ((spOf c) - 2), u8.wrap (pcOf c), 3)]
 let x3 : List TY := [(bif s == 5 then 8 else 1, pcOf c, 0, 4)]
 let x4 : List TY := x3 ++ [(2, ZaN c.2.1 2, 0, 3)]
 let x6 : List TY := x3 ++ [(3, ZaN c.2.1 2, rGet c.2.1 (Zb c.1 (R.get (R.int u8) g 0)).2.2.2.1, 3)]
 let x8 : Nat := List.length x3
 let x9 := decide (iN (List.length g) ≥ iN x8)
 let x10 := Ze (iN (List.length g)) x8
 let x11 : TY × Bool := (R.get (RY) x3 (iN (List.length g)), true)
 .br (Za s || (!decide (iN (List.length g) > 0) || (!Ze 0 (List.length g) || (Zb c.1 (R.get (R.int u8) g 0)).1 == 2))) (.br (Za s || (!decide (iN (List.length g) > 0) || Ze 0 (List.length g))) (.br (Za s) (fin3 g x1) (.br (decide (iN (List.length g) > 0)) (.br ((Zb c.1 (R.get (R.int u8) g 0)).2.2.2.1 == 6) (fin3 g x4) (.br ((Zb c.1 (R.get (R.int u8) g 0)).2.2.1 == 6) (fin3 g x6) (.br (x9) (.leaf (some (((0, 0, 0, 0), false)))) (.br (x10) (.leaf (some (x11))) (.leaf none))))) (.br (x9) (.leaf (some (((0, 0, 0, 0), false)))) (.br (x10) (.leaf (some (x11))) (.leaf none))))) (.leaf none)) (.leaf none)
def ZtX (c : TC) (s : Int) (g : List Int) : RT (Option (TY × Bool)) :=
 let x1 : List TY := [(bif s == 5 then 8 else 1, pcOf c, 0, 4)]
 let x2 : List TY := [(9, pcOf c, 0, 3)]
 let x3 : List TY := x1 ++ x2
 let x4 : List TY := [(2, u16.wrap ((pcOf c) + u16.wrap (i64.wrap (1 + 1))), 0, 3)]
 let x5 : List TY := bif s == 5 then x3 ++ x2 else x3 ++ x4
 let x6 : QT3 := (c, s == 5, g, x5)
 let x7 := !s == 5 || ZcW x6 1
 let x8 : List TY := x1 ++ [(2, u16.wrap ((pcOf c) + u16.wrap 1), 0, 3)]
 let x9 : List TY := bif s == 5 then x8 ++ x2 else x8 ++ x4
 let x10 : QT3 := (c, s == 5, g, x9)
 let x11 : List TY := [(12, pcOf c, 0, 6)] ++ [(5, u16.wrap ((spOf c) - 1), u8.wrap (shrI u16 (pcOf c) 8), 3)] ++ [(5, u16.wrap ((spOf c) - 2), u8.wrap (pcOf c), 3)]
 let x13 : List TY := x5 ++ [(3, Zf1 x6 1, c.2.1.1, 3)]
 let x15 : List TY := x9 ++ [(3, Zf1 x10 1, c.2.1.1, 3)]
 .br (Za s || (!decide (iN (List.length g) > 0) || (!Ze 0 (List.length g) || (!(Zb c.1 (R.get (R.int u8) g 0)).1 == 6 || (!x7 || (s == 5 || ZcW x10 1)))))) (.br (Za s || (!decide (iN (List.length g) > 0) || (!Ze 0 (List.length g) || (!(Zb c.1 (R.get (R.int u8) g 0)).1 == 6 || x7)))) (.br (Za s || (!decide (iN (List.length g) > 0) || (!Ze 0 (List.length g) || (Zb c.1 (R.get (R.int u8) g 0)).1 == 6))) (.br (Za s || (!decide (iN (List.length g) > 0) || Ze 0 (List.length g))) (.br (Za s) (fin3 g x11) (.br (decide (iN (List.length g) > 0)) (.br (s == 5) (fin3 g x13) (fin3 g x15)) (fin3 g x1))) (.leaf none)) (.leaf none)) (.leaf none)) (.leaf none)
def Zph (c : TC) (s : Int) (g : List Int) : RT (Option (TY × Bool)) :=
 let x1 : List TY := [(12, pcOf c, 0, 6)] ++ [(5, u16.wrap ((spOf c) - 1), u8.wrap (shrI u16 (pcOf c) 8), 3)] ++ [(5, u16.wrap ((spOf c) - 2), u8.wrap (pcOf c), 3)]
 let x3 : List TY := [(bif s == 5 then 8 else 1, pcOf c, 0, 4)]
 let x4 : List TY := x3 ++ [(3, ZaN c.2.1 (Zb c.1 (R.get (R.int u8) g 0)).2.2.2.2.1, c.2.1.1, 3)]
 .br (Za s || (!decide (iN (List.length g) > 0) || (!Ze 0 (List.length g) || (Zb c.1 (R.get (R.int u8) g 0)).1 == 10))) (.br (Za s || (!decide (iN (List.length g) > 0) || Ze 0 (List.length g))) (.br (Za s) (fin3 g x1) (.br (decide (iN (List.length g) > 0)) (fin3 g x4) (fin3 g x3))) (.leaf none)) (.leaf none)
def Zpd (c : TC) (s : Int) (g : List Int) : RT (Option (TY × Bool)) :=
 let x1 : List TY := [(bif s == 5 then 8 else 1, pcOf c, 0, 4)]
 let x2 : QT3 := (c, s == 5, g, x1)
 let x3 : List TY := [(12, pcOf c, 0, 6)] ++ [(5, u16.wrap ((spOf c) - 1), u8.wrap (shrI u16 (pcOf c) 8), 3)] ++ [(5, u16.wrap ((spOf c) - 2), u8.wrap (pcOf c), 3)]
 let x5 : List TY := x1 ++ [(2, ZaN c.2.1 2, 0, 3)] ++ [(3, ZaN c.2.1 2, (ZlX c (14, (Zb c.1 (R.get (R.int u8) g 0)).2) (mAt x2 1)).1, 3)]
 let x7 : Nat := List.length x1
 let x8 := decide (iN (List.length g) ≥ iN x7)
 let x9 := Ze (iN (List.length g)) x7
 let x10 : TY × Bool := (R.get (RY) x1 (iN (List.length g)), true)
 .br (Za s || (!decide (iN (List.length g) > 0) || (!Ze 0 (List.length g) || (!(Zb c.1 (R.get (R.int u8) g 0)).1 == 14 || (!(Zb c.1 (R.get (R.int u8) g 0)).2.2.1 == 6 || mAtC x2 1))))) (.br (Za s || (!decide (iN (List.length g) > 0) || (!Ze 0 (List.length g) || (Zb c.1 (R.get (R.int u8) g 0)).1 == 14))) (.br (Za s || (!decide (iN (List.length g) > 0) || Ze 0 (List.length g))) (.br (Za s) (fin3 g x3) (.br (decide (iN (List.length g) > 0)) (.br ((Zb c.1 (R.get (R.int u8) g 0)).2.2.1 == 6) (fin3 g x5) (.br (x8) (.leaf (some (((0, 0, 0, 0), false)))) (.br (x9) (.leaf (some (x10))) (.leaf none)))) (.br (x8) (.leaf (some (((0, 0, 0, 0), false)))) (.br (x9) (.leaf (some (x10))) (.leaf none))))) (.leaf none)) (.leaf none)) (.leaf none)
def Zo9 (c : TC) (s : Int) (g : List Int) : RT (Option (TY × Bool)) :=
 let x1 : List TY := [(12, pcOf c, 0, 6)] ++ [(5, u16.wrap ((spOf c) - 1), u8.wrap (shrI u16 (pcOf c) 8), 3)] ++ [(5, u16.wrap ((spOf c) - 2), u8.wrap (pcOf c), 3)]
 let x3 : List TY := [(bif s == 5 then 8 else 1, pcOf c, 0, 4)]
 let x4 : List TY := [(11, pcOf c, 0, 3)]
 let x5 : List TY := x3 ++ x4 ++ x4
 .br (Za s || (!decide (iN (List.length g) > 0) || (!Ze 0 (List.length g) || (Zb c.1 (R.get (R.int u8) g 0)).1 == 18))) (.br (Za s || (!decide (iN (List.length g) > 0) || Ze 0 (List.length g))) (.br (Za s) (fin3 g x1) (.br (decide (iN (List.length g) > 0)) (fin3 g x5) (fin3 g x3))) (.leaf none)) (.leaf none)
def Zo5 (c : TC) (s : Int) (g : List Int) : RT (Option (TY × Bool)) :=
 let x1 : List TY := [(12, pcOf c, 0, 6)] ++ [(5, u16.wrap ((spOf c) - 1), u8.wrap (shrI u16 (pcOf c) 8), 3)] ++ [(5, u16.wrap ((spOf c) - 2), u8.wrap (pcOf c), 3)]
 let x3 : List TY := [(bif s == 5 then 8 else 1, pcOf c, 0, 4)]
 .br (Za s || (!decide (iN (List.length g) > 0) || (!Ze 0 (List.length g) || (Zb c.1 (R.get (R.int u8) g 0)).1 == 22))) (.br (Za s || (!decide (iN (List.length g) > 0) || Ze 0 (List.length g))) (.br (Za s) (fin3 g x1) (fin3 g x3)) (.leaf none)) (.leaf none)
def Zo1 (c : TC) (s : Int) (g : List Int) : RT (Option (TY × Bool)) :=
 let x1 : List TY := [(12, pcOf c, 0, 6)] ++ [(5, u16.wrap ((spOf c) - 1), u8.wrap (shrI u16 (pcOf c) 8), 3)] ++ [(5, u16.wrap ((spOf c) - 2), u8.wrap (pcOf c), 3)]
 let x3 : List TY := [(bif s == 5 then 8 else 1, pcOf c, 0, 4)]
 let x4 : List TY := x3 ++ [(4, spOf c, 0, 3)] ++ [(4, u16.wrap ((spOf c) + 1), 0, 3)]
 let x6 : Nat := List.length x3
 let x7 := decide (iN (List.length g) ≥ iN x6)
 let x8 := Ze (iN (List.length g)) x6
 let x9 : TY × Bool := (R.get (RY) x3 (iN (List.length g)), true)
 .br (Za s || (!decide (iN (List.length g) > 0) || (!Ze 0 (List.length g) || (Zb c.1 (R.get (R.int u8) g 0)).1 == 26))) (.br (Za s || (!decide (iN (List.length g) > 0) || Ze 0 (List.length g))) (.br (Za s) (fin3 g x1) (.br (decide (iN (List.length g) > 0)) (.br (Zf2 (c, s == 5, g, x3) (26, (Zb c.1 (R.get (R.int u8) g 0)).2)) (fin3 g x4) (.br (x7) (.leaf (some (((0, 0, 0, 0), false)))) (.br (x8) (.leaf (some (x9))) (.leaf none)))) (.br (x7) (.leaf (some (((0, 0, 0, 0), false)))) (.br (x8) (.leaf (some (x9))) (.leaf none))))) (.leaf none)) (.leaf none)
def ZoX (c : TC) (s : Int) (g : List Int) : RT (Option (TY × Bool)) :=
 let x1 := u16.wrap ((spOf c) - 1)
 let x2 := u16.wrap ((spOf c) - 2)
 let x3 : List TY := [(12, pcOf c, 0, 6)] ++ [(5, x1, u8.wrap (shrI u16 (pcOf c) 8), 3)] ++ [(5, x2, u8.wrap (pcOf c), 3)]
 let x5 : List TY := [(bif s == 5 then 8 else 1, pcOf c, 0, 4)]
 let x6 : Int := bif (Zb c.1 (R.get (R.int u8) g 0)).2.2.2.2.1 == 3 then rPSW c.1 c.2.1 else ZaN c.2.1 (Zb c.1 (R.get (R.int u8) g 0)).2.2.2.2.1
 let x7 : List TY := x5 ++ [(5, x1, u8.wrap (shrI u16 x6 8), 3)] ++ [(5, x2, u8.wrap x6, 3)]
 .br (Za s || (!decide (iN (List.length g) > 0) || (!Ze 0 (List.length g) || (Zb c.1 (R.get (R.int u8) g 0)).1 == 30))) (.br (Za s || (!decide (iN (List.length g) > 0) || Ze 0 (List.length g))) (.br (Za s) (fin3 g x3) (.br (decide (iN (List.length g) > 0)) (fin3 g x7) (fin3 g x5))) (.leaf none)) (.leaf none)
def ZoT (c : TC) (s : Int) (g : List Int) : RT (Option (TY × Bool)) :=
 let x1 : List TY := [(bif s == 5 then 8 else 1, pcOf c, 0, 4)]
 let x2 : List TY := x1 ++ [(9, pcOf c, 0, 3)]
 let x3 : QT3 := (c, s == 5, g, x2)
 let x4 := mAtC x3 1
 let x5 := !x4 || x4
 let x6 := !s == 5 || (!x5 || x4)
 let x7 := !x6
 let x8 := !s == 5 || x5
 let x9 := !x8
 let x10 : List TY := x1 ++ [(2, u16.wrap ((pcOf c) + u16.wrap 1), 0, 3)]
 let x11 : QT3 := (c, s == 5, g, x10)
 let x12 := mAtC x11 1
 let x13 := !x12 || x12
 let x14 := s == 5 || (!x13 || x12)
 let x15 : List TY := [(12, pcOf c, 0, 6)] ++ [(5, u16.wrap ((spOf c) - 1), u8.wrap (shrI u16 (pcOf c) 8), 3)] ++ [(5, u16.wrap ((spOf c) - 2), u8.wrap (pcOf c), 3)]
 let x17 := mAt x3 1
 let x18 : List TY := x2 ++ [(7, ZaH x17 x17, c.2.1.1, 3)]
 let x20 := mAt x11 1
 let x21 : List TY := x10 ++ [(7, ZaH x20 x20, c.2.1.1, 3)]
 .br (Za s || (!decide (iN (List.length g) > 0) || (!Ze 0 (List.length g) || (!(Zb c.1 (R.get (R.int u8) g 0)).1 == 34 || (x7 || (x9 || (!x14 || (s == 5 || x13)))))))) (.br (Za s || (!decide (iN (List.length g) > 0) || (!Ze 0 (List.length g) || (!(Zb c.1 (R.get (R.int u8) g 0)).1 == 34 || (x7 || (x9 || x14)))))) (.br (Za s || (!decide (iN (List.length g) > 0) || (!Ze 0 (List.length g) || (!(Zb c.1 (R.get (R.int u8) g 0)).1 == 34 || (x7 || x8))))) (.br (Za s || (!decide (iN (List.length g) > 0) || (!Ze 0 (List.length g) || (!(Zb c.1 (R.get (R.int u8) g 0)).1 == 34 || x6)))) (.br (Za s || (!decide (iN (List.length g) > 0) || (!Ze 0 (List.length g) || (Zb c.1 (R.get (R.int u8) g 0)).1 == 34))) (.br (Za s || (!decide (iN (List.length g) > 0) || Ze 0 (List.length g))) (.br (Za s) (fin3 g x15) (.br (decide (iN (List.length g) > 0)) (.br (s == 5) (fin3 g x18) (fin3 g x21)) (fin3 g x1))) (.leaf none)) (.leaf none)) (.leaf none)) (.leaf none)) (.leaf none)) (.leaf none)
def ZoP (c : TC) (s : Int) (g : List Int) : RT (Option (TY × Bool)) :=
 let x1 : List TY := [(12, pcOf c, 0, 6)] ++ [(5, u16.wrap ((spOf c) - 1), u8.wrap (shrI u16 (pcOf c) 8), 3)] ++ [(5, u16.wrap ((spOf c) - 2), u8.wrap (pcOf c), 3)]
 let x3 : List TY := [(bif s == 5 then 8 else 1, pcOf c, 0, 4)]
 .br (Za s || (!decide (iN (List.length g) > 0) || (!Ze 0 (List.length g) || (Zb c.1 (R.get (R.int u8) g 0)).1 == 38))) (.br (Za s || (!decide (iN (List.length g) > 0) || Ze 0 (List.length g))) (.br (Za s) (fin3 g x1) (fin3 g x3)) (.leaf none)) (.leaf none)
def ZoL (c : TC) (s : Int) (g : List Int) : RT (Option (TY × Bool)) :=
 let x1 : List TY := [(12, pcOf c, 0, 6)] ++ [(5, u16.wrap ((spOf c) - 1), u8.wrap (shrI u16 (pcOf c) 8), 3)] ++ [(5, u16.wrap ((spOf c) - 2), u8.wrap (pcOf c), 3)]
 let x3 : List TY := [(bif s == 5 then 8 else 1, pcOf c, 0, 4)]
 let x4 : List TY := [(11, pcOf c, 0, 3)]
 let x5 : List TY := x3 ++ x4 ++ x4
 .br (Za s || (!decide (iN (List.length g) > 0) || (!Ze 0 (List.length g) || (Zb c.1 (R.get (R.int u8) g 0)).1 == 42))) (.br (Za s || (!decide (iN (List.length g) > 0) || Ze 0 (List.length g))) (.br (Za s) (fin3 g x1) (.br (decide (iN (List.length g) > 0)) (fin3 g x5) (fin3 g x3))) (.leaf none)) (.leaf none)
def ZoH (c : TC) (s : Int) (g : List Int) : RT (Option (TY × Bool)) :=
 let x1 : List TY := [(12, pcOf c, 0, 6)] ++ [(5, u16.wrap ((spOf c) - 1), u8.wrap (shrI u16 (pcOf c) 8), 3)] ++ [(5, u16.wrap ((spOf c) - 2), u8.wrap (pcOf c), 3)]
 let x3 : List TY := [(bif s == 5 then 8 else 1, pcOf c, 0, 4)]
 let x4 : List TY := x3 ++ [(3, ZaN c.2.1 1, c.2.1.2.2.2.2.2.2.1, 3)] ++ [(3, u16.wrap (ZaN c.2.1 1 + 1), c.2.1.2.2.2.2.2.1, 3)]
 .br (Za s || (!decide (iN (List.length g) > 0) || (!Ze 0 (List.length g) || (Zb c.1 (R.get (R.int u8) g 0)).1 == 46))) (.br (Za s || (!decide (iN (List.length g) > 0) || Ze 0 (List.length g))) (.br (Za s) (fin3 g x1) (.br (decide (iN (List.length g) > 0)) (fin3 g x4) (fin3 g x3))) (.leaf none)) (.leaf none)
def ZmH (c : TC) (s : Int) (g : List Int) : RT (Option (TY × Bool)) :=
 let x1 : QT0 := (c, s == 5, g, (0, 0, 0, 0, 0, 0, 0, 0), [])
 let x2 := qAtC x1 0
 let x3 := Zb c.1 (qAt x1 0)
 let x4 := !x2 || x3.1 == 2
 let x5 : List TY := [] ++ [(12, pcOf c, 0, 6)] ++ [(5, u16.wrap ((spOf c) - 1), u8.wrap (shrI u16 (pcOf c) 8), 3)] ++ [(5, u16.wrap ((spOf c) - 2), u8.wrap (pcOf c), 3)]
 let x7 : QT7 := ((pcOf c), 0, 4)
 let x8 : List TY := [] ++ [(bif s == 5 then 8 else 1, x7)]
 let x10 := x3.2
 let x11 := x10.2
 let x12 := x11.2.1
 let x13 : List TY := [] ++ [(1, x7)]
 let x14 : QT0 := (c, s == 5, g, (2, x10), x13)
 let x15 := ZcE x14 2
 let x16 : List TY := bif x12 == 6 then x13 ++ [(2, x15, 0, 3)] else bif x11.1 == 6 then x13 ++ [(3, x15, qReg x14 x12, 3)] else x13
 .br (!x4 || x2) (.br (x4) (.br (Zd s) (fin3 g x5) (.br (iN (List.length g) == 0) (fin3 g x8) (fin3 g x16))) (.leaf none)) (.leaf none)
theorem Zv8 (a : HL Zg) : Zo (envX Tryz.prog (ZM 2) [] 1125900980585471 8) Tryz.f113 Zg Zs a = ZmH a.1 a.2.1 a.2.2 := by kernel_rfl
def ZmD (c : TC) (s : Int) (g : List Int) : RT (Option (TY × Bool)) :=
 let x1 : QT0 := (c, s == 5, g, (0, 0, 0, 0, 0, 0, 0, 0), [])
 let x2 := qAtC x1 0
 let x3 := Zb c.1 (qAt x1 0)
 let x4 := !x2 || x3.1 == 6
 let x5 : QT7 := ((pcOf c), 0, 4)
 let x6 : List TY := [] ++ [(1, x5)]
 let x7 : List TY := [(9, pcOf c, 0, 3)]
 let x8 : List TY := bif s == 5 then x6 ++ x7 else x6 ++ [(2, u16.wrap ((pcOf c) + u16.wrap 1), 0, 3)]
 let x9 : List TY := bif s == 5 then x8 ++ x7 else x8 ++ [(2, u16.wrap ((pcOf c) + u16.wrap (i64.wrap (1 + 1))), 0, 3)]
 let x10 : QT0 := (c, s == 5, g, (6, x3.2), x9)
 let x11 : List TY := [] ++ [(12, pcOf c, 0, 6)] ++ [(5, u16.wrap ((spOf c) - 1), u8.wrap (shrI u16 (pcOf c) 8), 3)] ++ [(5, u16.wrap ((spOf c) - 2), u8.wrap (pcOf c), 3)]
 let x13 : List TY := [] ++ [(bif s == 5 then 8 else 1, x5)]
 let x15 : List TY := x9 ++ [(3, Zea x10 1, c.2.1.1, 3)]
 .br (!x4 || x2) (.br (x4) (.br (Zd s || (iN (List.length g) == 0 || ZbI x10 1)) (.br (Zd s) (fin3 g x11) (.br (iN (List.length g) == 0) (fin3 g x13) (fin3 g x15))) (.leaf none)) (.leaf none)) (.leaf none)
theorem Zv4 (a : HL Zg) : Zo (envX Tryz.prog (ZM 6) [] 1125900980585471 8) Tryz.f113 Zg Zs a = ZmD a.1 a.2.1 a.2.2 := by kernel_rfl
def Zjq (c : TC) (s : Int) (g : List Int) : RT (Option (TY × Bool)) :=
 let x1 : QT0 := (c, s == 5, g, (0, 0, 0, 0, 0, 0, 0, 0), [])
 let x2 := qAtC x1 0
 let x3 := Zb c.1 (qAt x1 0)
 let x4 := !x2 || x3.1 == 10
 let x5 : List TY := [] ++ [(12, pcOf c, 0, 6)] ++ [(5, u16.wrap ((spOf c) - 1), u8.wrap (shrI u16 (pcOf c) 8), 3)] ++ [(5, u16.wrap ((spOf c) - 2), u8.wrap (pcOf c), 3)]
 let x7 : QT7 := ((pcOf c), 0, 4)
 let x8 : List TY := [] ++ [(bif s == 5 then 8 else 1, x7)]
 let x10 : List TY := [] ++ [(1, x7)]
 let x11 := x3.2
 let x12 : List TY := x10 ++ [(3, ZcE (c, s == 5, g, (10, x11), x10) x11.2.2.2.1, c.2.1.1, 3)]
 .br (!x4 || x2) (.br (x4) (.br (Zd s) (fin3 g x5) (.br (iN (List.length g) == 0) (fin3 g x8) (fin3 g x12))) (.leaf none)) (.leaf none)
theorem Zr8 (a : HL Zg) : Zo (envX Tryz.prog (ZM 10) [] 1125900980585471 8) Tryz.f113 Zg Zs a = Zjq a.1 a.2.1 a.2.2 := by kernel_rfl
def Zjm (c : TC) (s : Int) (g : List Int) : RT (Option (TY × Bool)) :=
 let x1 : QT0 := (c, s == 5, g, (0, 0, 0, 0, 0, 0, 0, 0), [])
 let x2 := qAtC x1 0
 let x3 := Zb c.1 (qAt x1 0)
 let x4 := !x2 || x3.1 == 14
 let x5 := x3.2
 let x6 := x5.2.1 == 6
 let x7 : QT4 := (14, x5)
 let x8 : QT7 := ((pcOf c), 0, 4)
 let x9 : List TY := [] ++ [(1, x8)]
 let x10 := ZcE (c, s == 5, g, x7, x9) 2
 let x11 : List TY := x9 ++ [(2, x10, 0, 3)]
 let x12 : QT0 := (c, s == 5, g, x7, x11)
 let x13 : List TY := [] ++ [(12, pcOf c, 0, 6)] ++ [(5, u16.wrap ((spOf c) - 1), u8.wrap (shrI u16 (pcOf c) 8), 3)] ++ [(5, u16.wrap ((spOf c) - 2), u8.wrap (pcOf c), 3)]
 let x15 : List TY := [] ++ [(bif s == 5 then 8 else 1, x8)]
 let x17 : List TY := bif x6 then x11 ++ [(3, x10, ZfK x12, 3)] else x9
 .br (!x4 || x2) (.br (x4) (.br (Zd s || (iN (List.length g) == 0 || (!x6 || Zeb x12))) (.br (Zd s) (fin3 g x13) (.br (iN (List.length g) == 0) (fin3 g x15) (fin3 g x17))) (.leaf none)) (.leaf none)) (.leaf none)
theorem Zr4 (a : HL Zg) : Zo (envX Tryz.prog (ZM 14) [] 1125900980585471 8) Tryz.f113 Zg Zs a = Zjm a.1 a.2.1 a.2.2 := by kernel_rfl
def Zji (c : TC) (s : Int) (g : List Int) : RT (Option (TY × Bool)) :=
 let x1 : QT0 := (c, s == 5, g, (0, 0, 0, 0, 0, 0, 0, 0), [])
 let x2 := qAtC x1 0
 let x3 := !x2 || (Zb c.1 (qAt x1 0)).1 == 18
 let x4 : List TY := [] ++ [(12, pcOf c, 0, 6)] ++ [(5, u16.wrap ((spOf c) - 1), u8.wrap (shrI u16 (pcOf c) 8), 3)] ++ [(5, u16.wrap ((spOf c) - 2), u8.wrap (pcOf c), 3)]
 let x6 : QT7 := ((pcOf c), 0, 4)
 let x7 : List TY := [] ++ [(bif s == 5 then 8 else 1, x6)]
 let x9 : List TY := [(11, pcOf c, 0, 3)]
 let x10 : List TY := [] ++ [(1, x6)] ++ x9 ++ x9
 .br (!x3 || x2) (.br (x3) (.br (Zd s) (fin3 g x4) (.br (iN (List.length g) == 0) (fin3 g x7) (fin3 g x10))) (.leaf none)) (.leaf none)
theorem Zr0 (a : HL Zg) : Zo (envX Tryz.prog (ZM 18) [] 1125900980585471 8) Tryz.f113 Zg Zs a = Zji a.1 a.2.1 a.2.2 := by kernel_rfl
def Zje (c : TC) (s : Int) (g : List Int) : RT (Option (TY × Bool)) :=
 let x1 : QT0 := (c, s == 5, g, (0, 0, 0, 0, 0, 0, 0, 0), [])
 let x2 := qAtC x1 0
 let x3 := !x2 || (Zb c.1 (qAt x1 0)).1 == 22
 let x4 : List TY := [] ++ [(12, pcOf c, 0, 6)] ++ [(5, u16.wrap ((spOf c) - 1), u8.wrap (shrI u16 (pcOf c) 8), 3)] ++ [(5, u16.wrap ((spOf c) - 2), u8.wrap (pcOf c), 3)]
 let x6 : QT7 := ((pcOf c), 0, 4)
 let x7 : List TY := [] ++ [(bif s == 5 then 8 else 1, x6)]
 let x9 : List TY := [] ++ [(1, x6)]
 .br (!x3 || x2) (.br (x3) (.br (Zd s) (fin3 g x4) (.br (iN (List.length g) == 0) (fin3 g x7) (fin3 g x9))) (.leaf none)) (.leaf none)
theorem ZrW (a : HL Zg) : Zo (envX Tryz.prog (ZM 22) [] 1125900980585471 8) Tryz.f113 Zg Zs a = Zje a.1 a.2.1 a.2.2 := by kernel_rfl
def Zja (c : TC) (s : Int) (g : List Int) : RT (Option (TY × Bool)) :=
 let x1 : QT0 := (c, s == 5, g, (0, 0, 0, 0, 0, 0, 0, 0), [])
 let x2 := qAtC x1 0
 let x3 := Zb c.1 (qAt x1 0)
 let x4 := !x2 || x3.1 == 26
 let x5 : List TY := [] ++ [(12, pcOf c, 0, 6)] ++ [(5, u16.wrap ((spOf c) - 1), u8.wrap (shrI u16 (pcOf c) 8), 3)] ++ [(5, u16.wrap ((spOf c) - 2), u8.wrap (pcOf c), 3)]
 let x7 : QT7 := ((pcOf c), 0, 4)
 let x8 : List TY := [] ++ [(bif s == 5 then 8 else 1, x7)]
 let x10 : List TY := [] ++ [(1, x7)]
 let x11 : List TY := bif ZeY (c, s == 5, g, (26, x3.2), x10) then x10 ++ [(4, spOf c, 0, 3)] ++ [(4, u16.wrap ((spOf c) + 1), 0, 3)] else x10
 .br (!x4 || x2) (.br (x4) (.br (Zd s) (fin3 g x5) (.br (iN (List.length g) == 0) (fin3 g x8) (fin3 g x11))) (.leaf none)) (.leaf none)
theorem ZrS (a : HL Zg) : Zo (envX Tryz.prog (ZM 26) [] 1125900980585471 8) Tryz.f113 Zg Zs a = Zja a.1 a.2.1 a.2.2 := by kernel_rfl
def Zi6 (c : TC) (s : Int) (g : List Int) : RT (Option (TY × Bool)) :=
 let x1 : QT0 := (c, s == 5, g, (0, 0, 0, 0, 0, 0, 0, 0), [])
 let x2 := qAtC x1 0
 let x3 := Zb c.1 (qAt x1 0)
 let x4 := !x2 || x3.1 == 30
 let x5 := u16.wrap ((spOf c) - 1)
 let x6 := u16.wrap ((spOf c) - 2)
 let x7 : List TY := [] ++ [(12, pcOf c, 0, 6)] ++ [(5, x5, u8.wrap (shrI u16 (pcOf c) 8), 3)] ++ [(5, x6, u8.wrap (pcOf c), 3)]
 let x9 : QT7 := ((pcOf c), 0, 4)
 let x10 : List TY := [] ++ [(bif s == 5 then 8 else 1, x9)]
 let x12 : List TY := [] ++ [(1, x9)]
 let x13 := x3.2
 let x14 := x13.2.2.2.1
 let x15 : Int := bif x14 == 3 then rPSW c.1 c.2.1 else ZcE (c, s == 5, g, (30, x13), x12) x14
 let x16 : List TY := x12 ++ [(5, x5, u8.wrap (shrI u16 x15 8), 3)] ++ [(5, x6, u8.wrap x15, 3)]
 .br (!x4 || x2) (.br (x4) (.br (Zd s) (fin3 g x7) (.br (iN (List.length g) == 0) (fin3 g x10) (fin3 g x16))) (.leaf none)) (.leaf none)
theorem ZrO (a : HL Zg) : Zo (envX Tryz.prog (ZM 30) [] 1125900980585471 8) Tryz.f113 Zg Zs a = Zi6 a.1 a.2.1 a.2.2 := by kernel_rfl
def Zi2 (c : TC) (s : Int) (g : List Int) : RT (Option (TY × Bool)) :=
 let x1 : QT0 := (c, s == 5, g, (0, 0, 0, 0, 0, 0, 0, 0), [])
 let x2 := qAtC x1 0
 let x3 := Zb c.1 (qAt x1 0)
 let x4 := !x2 || x3.1 == 34
 let x5 : QT7 := ((pcOf c), 0, 4)
 let x6 : List TY := [] ++ [(1, x5)]
 let x7 : List TY := bif s == 5 then x6 ++ [(9, pcOf c, 0, 3)] else x6 ++ [(2, u16.wrap ((pcOf c) + u16.wrap 1), 0, 3)]
 let x8 : QT0 := (c, s == 5, g, (34, x3.2), x7)
 let x9 := qAtC x8 1
 let x10 := !x9 || x9
 let x11 := !x10 || x9
 let x12 := Zd s || (iN (List.length g) == 0 || (!x11 || x10))
 let x13 : List TY := [] ++ [(12, pcOf c, 0, 6)] ++ [(5, u16.wrap ((spOf c) - 1), u8.wrap (shrI u16 (pcOf c) 8), 3)] ++ [(5, u16.wrap ((spOf c) - 2), u8.wrap (pcOf c), 3)]
 let x15 : List TY := [] ++ [(bif s == 5 then 8 else 1, x5)]
 let x17 := qAt x8 1
 let x18 : List TY := x7 ++ [(7, ZaH x17 x17, c.2.1.1, 3)]
 .br (!x4 || x2) (.br (x4) (.br (!x12 || (Zd s || (iN (List.length g) == 0 || x11))) (.br (x12) (.br (Zd s) (fin3 g x13) (.br (iN (List.length g) == 0) (fin3 g x15) (fin3 g x18))) (.leaf none)) (.leaf none)) (.leaf none)) (.leaf none)
theorem ZrK (a : HL Zg) : Zo (envX Tryz.prog (ZM 34) [] 1125900980585471 8) Tryz.f113 Zg Zs a = Zi2 a.1 a.2.1 a.2.2 := by kernel_rfl
def ZiY (c : TC) (s : Int) (g : List Int) : RT (Option (TY × Bool)) :=
 let x1 : QT0 := (c, s == 5, g, (0, 0, 0, 0, 0, 0, 0, 0), [])
 let x2 := qAtC x1 0
 let x3 := !x2 || (Zb c.1 (qAt x1 0)).1 == 38
 let x4 : List TY := [] ++ [(12, pcOf c, 0, 6)] ++ [(5, u16.wrap ((spOf c) - 1), u8.wrap (shrI u16 (pcOf c) 8), 3)] ++ [(5, u16.wrap ((spOf c) - 2), u8.wrap (pcOf c), 3)]
 let x6 : QT7 := ((pcOf c), 0, 4)
 let x7 : List TY := [] ++ [(bif s == 5 then 8 else 1, x6)]
 let x9 : List TY := [] ++ [(1, x6)]
 .br (!x3 || x2) (.br (x3) (.br (Zd s) (fin3 g x4) (.br (iN (List.length g) == 0) (fin3 g x7) (fin3 g x9))) (.leaf none)) (.leaf none)
theorem ZrG (a : HL Zg) : Zo (envX Tryz.prog (ZM 38) [] 1125900980585471 8) Tryz.f113 Zg Zs a = ZiY a.1 a.2.1 a.2.2 := by kernel_rfl
def ZiU (c : TC) (s : Int) (g : List Int) : RT (Option (TY × Bool)) :=
 let x1 : QT0 := (c, s == 5, g, (0, 0, 0, 0, 0, 0, 0, 0), [])
 let x2 := qAtC x1 0
 let x3 := !x2 || (Zb c.1 (qAt x1 0)).1 == 42
 let x4 : List TY := [] ++ [(12, pcOf c, 0, 6)] ++ [(5, u16.wrap ((spOf c) - 1), u8.wrap (shrI u16 (pcOf c) 8), 3)] ++ [(5, u16.wrap ((spOf c) - 2), u8.wrap (pcOf c), 3)]
 let x6 : QT7 := ((pcOf c), 0, 4)
 let x7 : List TY := [] ++ [(bif s == 5 then 8 else 1, x6)]
 let x9 : List TY := [(11, pcOf c, 0, 3)]
 let x10 : List TY := [] ++ [(1, x6)] ++ x9 ++ x9
 .br (!x3 || x2) (.br (x3) (.br (Zd s) (fin3 g x4) (.br (iN (List.length g) == 0) (fin3 g x7) (fin3 g x10))) (.leaf none)) (.leaf none)
theorem ZrC (a : HL Zg) : Zo (envX Tryz.prog (ZM 42) [] 1125900980585471 8) Tryz.f113 Zg Zs a = ZiU a.1 a.2.1 a.2.2 := by kernel_rfl
def ZiQ (c : TC) (s : Int) (g : List Int) : RT (Option (TY × Bool)) :=
 let x1 : QT0 := (c, s == 5, g, (0, 0, 0, 0, 0, 0, 0, 0), [])
 let x2 := qAtC x1 0
 let x3 := Zb c.1 (qAt x1 0)
 let x4 := !x2 || x3.1 == 46
 let x5 : List TY := [] ++ [(12, pcOf c, 0, 6)] ++ [(5, u16.wrap ((spOf c) - 1), u8.wrap (shrI u16 (pcOf c) 8), 3)] ++ [(5, u16.wrap ((spOf c) - 2), u8.wrap (pcOf c), 3)]
 let x7 : QT7 := ((pcOf c), 0, 4)
 let x8 : List TY := [] ++ [(bif s == 5 then 8 else 1, x7)]
 let x10 : List TY := [] ++ [(1, x7)]
 let x11 := ZcE (c, s == 5, g, (46, x3.2), x10) 1
 let x12 : List TY := x10 ++ [(3, x11, c.2.1.2.2.2.2.2.2.1, 3)] ++ [(3, u16.wrap (x11 + 1), c.2.1.2.2.2.2.2.1, 3)]
 .br (!x4 || x2) (.br (x4) (.br (Zd s) (fin3 g x5) (.br (iN (List.length g) == 0) (fin3 g x8) (fin3 g x12))) (.leaf none)) (.leaf none)
theorem Zry (a : HL Zg) : Zo (envX Tryz.prog (ZM 46) [] 1125900980585471 8) Tryz.f113 Zg Zs a = ZiQ a.1 a.2.1 a.2.2 := by kernel_rfl
def Zt0 (c : TC) (s : Int) (g : List Int) : RT (Option (TY × Bool)) :=
 let x1 := !(Zb c.1 (R.get (R.int u8) g 0)).2.2.1 == 6
 let x2 : List TY := [(bif s == 5 then 8 else 1, pcOf c, 0, 4)]
 let x3 : List TY := x2 ++ [(9, pcOf c, 0, 3)]
 let x4 : QT3 := (c, s == 5, g, x3)
 let x5 := !s == 5 || (x1 || mAtC x4 1)
 let x6 : List TY := x2 ++ [(2, u16.wrap ((pcOf c) + u16.wrap 1), 0, 3)]
 let x7 : QT3 := (c, s == 5, g, x6)
 let x8 : List TY := [(12, pcOf c, 0, 6)] ++ [(5, u16.wrap ((spOf c) - 1), u8.wrap (shrI u16 (pcOf c) 8), 3)] ++ [(5, u16.wrap ((spOf c) - 2), u8.wrap (pcOf c), 3)]
 let x10 : List TY := bif (Zb c.1 (R.get (R.int u8) g 0)).2.2.1 == 6 then x3 ++ [(3, ZaN c.2.1 2, mAt x4 1, 3)] else x3
 let x12 : List TY := bif (Zb c.1 (R.get (R.int u8) g 0)).2.2.1 == 6 then x6 ++ [(3, ZaN c.2.1 2, mAt x7 1, 3)] else x6
 .br (Za s || (!decide (iN (List.length g) > 0) || (!Ze 0 (List.length g) || (!(Zb c.1 (R.get (R.int u8) g 0)).1 == 3 || (!x5 || (s == 5 || (x1 || mAtC x7 1))))))) (.br (Za s || (!decide (iN (List.length g) > 0) || (!Ze 0 (List.length g) || (!(Zb c.1 (R.get (R.int u8) g 0)).1 == 3 || x5)))) (.br (Za s || (!decide (iN (List.length g) > 0) || (!Ze 0 (List.length g) || (Zb c.1 (R.get (R.int u8) g 0)).1 == 3))) (.br (Za s || (!decide (iN (List.length g) > 0) || Ze 0 (List.length g))) (.br (Za s) (fin3 g x8) (.br (decide (iN (List.length g) > 0)) (.br (s == 5) (fin3 g x10) (fin3 g x12)) (fin3 g x2))) (.leaf none)) (.leaf none)) (.leaf none)) (.leaf none)
def ZtW (c : TC) (s : Int) (g : List Int) : RT (Option (TY × Bool)) :=
 let x1 : List TY := [(bif s == 5 then 8 else 1, pcOf c, 0, 4)]
 let x2 : List TY := [(9, pcOf c, 0, 3)]
 let x3 : List TY := x1 ++ x2
 let x4 : List TY := [(2, u16.wrap ((pcOf c) + u16.wrap (i64.wrap (1 + 1))), 0, 3)]
 let x5 : List TY := bif s == 5 then x3 ++ x2 else x3 ++ x4
 let x6 : QT3 := (c, s == 5, g, x5)
 let x7 := ZcW x6 1
 let x8 : List TY := x5 ++ [(2, Zf1 x6 1, 0, 3)]
 let x9 : QT3 := (c, s == 5, g, x8)
 let x10 := !s == 5 || (!x7 || ZcW x9 1)
 let x11 := !x10
 let x12 := !s == 5 || x7
 let x13 := !x12
 let x14 : List TY := x1 ++ [(2, u16.wrap ((pcOf c) + u16.wrap 1), 0, 3)]
 let x15 : List TY := bif s == 5 then x14 ++ x2 else x14 ++ x4
 let x16 : QT3 := (c, s == 5, g, x15)
 let x17 := ZcW x16 1
 let x18 : List TY := x15 ++ [(2, Zf1 x16 1, 0, 3)]
 let x19 : QT3 := (c, s == 5, g, x18)
 let x20 := s == 5 || (!x17 || ZcW x19 1)
 let x21 : List TY := [(12, pcOf c, 0, 6)] ++ [(5, u16.wrap ((spOf c) - 1), u8.wrap (shrI u16 (pcOf c) 8), 3)] ++ [(5, u16.wrap ((spOf c) - 2), u8.wrap (pcOf c), 3)]
 let x23 : List TY := x8 ++ [(2, u16.wrap (Zf1 x9 1 + 1), 0, 3)]
 let x25 : List TY := x18 ++ [(2, u16.wrap (Zf1 x19 1 + 1), 0, 3)]
 .br (Za s || (!decide (iN (List.length g) > 0) || (!Ze 0 (List.length g) || (!(Zb c.1 (R.get (R.int u8) g 0)).1 == 7 || (x11 || (x13 || (!x20 || (s == 5 || x17)))))))) (.br (Za s || (!decide (iN (List.length g) > 0) || (!Ze 0 (List.length g) || (!(Zb c.1 (R.get (R.int u8) g 0)).1 == 7 || (x11 || (x13 || x20)))))) (.br (Za s || (!decide (iN (List.length g) > 0) || (!Ze 0 (List.length g) || (!(Zb c.1 (R.get (R.int u8) g 0)).1 == 7 || (x11 || x12))))) (.br (Za s || (!decide (iN (List.length g) > 0) || (!Ze 0 (List.length g) || (!(Zb c.1 (R.get (R.int u8) g 0)).1 == 7 || x10)))) (.br (Za s || (!decide (iN (List.length g) > 0) || (!Ze 0 (List.length g) || (Zb c.1 (R.get (R.int u8) g 0)).1 == 7))) (.br (Za s || (!decide (iN (List.length g) > 0) || Ze 0 (List.length g))) (.br (Za s) (fin3 g x21) (.br (decide (iN (List.length g) > 0)) (.br (s == 5) (fin3 g x23) (fin3 g x25)) (fin3 g x1))) (.leaf none)) (.leaf none)) (.leaf none)) (.leaf none)) (.leaf none)) (.leaf none)
def Zpg (c : TC) (s : Int) (g : List Int) : RT (Option (TY × Bool)) :=
 let x1 : List TY := [(12, pcOf c, 0, 6)] ++ [(5, u16.wrap ((spOf c) - 1), u8.wrap (shrI u16 (pcOf c) 8), 3)] ++ [(5, u16.wrap ((spOf c) - 2), u8.wrap (pcOf c), 3)]
 let x3 : List TY := [(bif s == 5 then 8 else 1, pcOf c, 0, 4)]
 .br (Za s || (!decide (iN (List.length g) > 0) || (!Ze 0 (List.length g) || (Zb c.1 (R.get (R.int u8) g 0)).1 == 11))) (.br (Za s || (!decide (iN (List.length g) > 0) || Ze 0 (List.length g))) (.br (Za s) (fin3 g x1) (fin3 g x3)) (.leaf none)) (.leaf none)
def Zpc (c : TC) (s : Int) (g : List Int) : RT (Option (TY × Bool)) :=
 let x1 : List TY := [(bif s == 5 then 8 else 1, pcOf c, 0, 4)]
 let x2 : QT3 := (c, s == 5, g, x1)
 let x3 : List TY := [(12, pcOf c, 0, 6)] ++ [(5, u16.wrap ((spOf c) - 1), u8.wrap (shrI u16 (pcOf c) 8), 3)] ++ [(5, u16.wrap ((spOf c) - 2), u8.wrap (pcOf c), 3)]
 let x5 : List TY := x1 ++ [(2, ZaN c.2.1 2, 0, 3)] ++ [(3, ZaN c.2.1 2, (ZlX c (15, (Zb c.1 (R.get (R.int u8) g 0)).2) (mAt x2 1)).1, 3)]
 let x7 : Nat := List.length x1
 let x8 := decide (iN (List.length g) ≥ iN x7)
 let x9 := Ze (iN (List.length g)) x7
 let x10 : TY × Bool := (R.get (RY) x1 (iN (List.length g)), true)
 .br (Za s || (!decide (iN (List.length g) > 0) || (!Ze 0 (List.length g) || (!(Zb c.1 (R.get (R.int u8) g 0)).1 == 15 || (!(Zb c.1 (R.get (R.int u8) g 0)).2.2.1 == 6 || mAtC x2 1))))) (.br (Za s || (!decide (iN (List.length g) > 0) || (!Ze 0 (List.length g) || (Zb c.1 (R.get (R.int u8) g 0)).1 == 15))) (.br (Za s || (!decide (iN (List.length g) > 0) || Ze 0 (List.length g))) (.br (Za s) (fin3 g x3) (.br (decide (iN (List.length g) > 0)) (.br ((Zb c.1 (R.get (R.int u8) g 0)).2.2.1 == 6) (fin3 g x5) (.br (x8) (.leaf (some (((0, 0, 0, 0), false)))) (.br (x9) (.leaf (some (x10))) (.leaf none)))) (.br (x8) (.leaf (some (((0, 0, 0, 0), false)))) (.br (x9) (.leaf (some (x10))) (.leaf none))))) (.leaf none)) (.leaf none)) (.leaf none)
def Zo8 (c : TC) (s : Int) (g : List Int) : RT (Option (TY × Bool)) :=
 let x1 : List TY := [(12, pcOf c, 0, 6)] ++ [(5, u16.wrap ((spOf c) - 1), u8.wrap (shrI u16 (pcOf c) 8), 3)] ++ [(5, u16.wrap ((spOf c) - 2), u8.wrap (pcOf c), 3)]
 let x3 : List TY := [(bif s == 5 then 8 else 1, pcOf c, 0, 4)]
 .br (Za s || (!decide (iN (List.length g) > 0) || (!Ze 0 (List.length g) || (Zb c.1 (R.get (R.int u8) g 0)).1 == 19))) (.br (Za s || (!decide (iN (List.length g) > 0) || Ze 0 (List.length g))) (.br (Za s) (fin3 g x1) (fin3 g x3)) (.leaf none)) (.leaf none)
def Zo4 (c : TC) (s : Int) (g : List Int) : RT (Option (TY × Bool)) :=
 let x1 : List TY := [(12, pcOf c, 0, 6)] ++ [(5, u16.wrap ((spOf c) - 1), u8.wrap (shrI u16 (pcOf c) 8), 3)] ++ [(5, u16.wrap ((spOf c) - 2), u8.wrap (pcOf c), 3)]
 let x3 : List TY := [(bif s == 5 then 8 else 1, pcOf c, 0, 4)]
 .br (Za s || (!decide (iN (List.length g) > 0) || (!Ze 0 (List.length g) || (Zb c.1 (R.get (R.int u8) g 0)).1 == 23))) (.br (Za s || (!decide (iN (List.length g) > 0) || Ze 0 (List.length g))) (.br (Za s) (fin3 g x1) (fin3 g x3)) (.leaf none)) (.leaf none)
def Zo0 (c : TC) (s : Int) (g : List Int) : RT (Option (TY × Bool)) :=
 let x1 := u16.wrap ((spOf c) - 1)
 let x2 := u16.wrap ((spOf c) - 2)
 let x3 : List TY := [(12, pcOf c, 0, 6)] ++ [(5, x1, u8.wrap (shrI u16 (pcOf c) 8), 3)] ++ [(5, x2, u8.wrap (pcOf c), 3)]
 let x5 : List TY := [(bif s == 5 then 8 else 1, pcOf c, 0, 4)]
 let x6 := Zfi (c, s == 5, g, x5) (Zb c.1 (R.get (R.int u8) g 0)).2.1
 let x7 : List TY := x5 ++ [(5, x1, u8.wrap (shrI u16 x6 8), 3)] ++ [(5, x2, u8.wrap x6, 3)]
 .br (Za s || (!decide (iN (List.length g) > 0) || (!Ze 0 (List.length g) || (Zb c.1 (R.get (R.int u8) g 0)).1 == 27))) (.br (Za s || (!decide (iN (List.length g) > 0) || Ze 0 (List.length g))) (.br (Za s) (fin3 g x3) (.br (decide (iN (List.length g) > 0)) (fin3 g x7) (fin3 g x5))) (.leaf none)) (.leaf none)
def ZoW (c : TC) (s : Int) (g : List Int) : RT (Option (TY × Bool)) :=
 let x1 : List TY := [(12, pcOf c, 0, 6)] ++ [(5, u16.wrap ((spOf c) - 1), u8.wrap (shrI u16 (pcOf c) 8), 3)] ++ [(5, u16.wrap ((spOf c) - 2), u8.wrap (pcOf c), 3)]
 let x3 : List TY := [(bif s == 5 then 8 else 1, pcOf c, 0, 4)]
 let x4 : List TY := x3 ++ [(4, spOf c, 0, 3)] ++ [(4, u16.wrap ((spOf c) + 1), 0, 3)]
 .br (Za s || (!decide (iN (List.length g) > 0) || (!Ze 0 (List.length g) || (Zb c.1 (R.get (R.int u8) g 0)).1 == 31))) (.br (Za s || (!decide (iN (List.length g) > 0) || Ze 0 (List.length g))) (.br (Za s) (fin3 g x1) (.br (decide (iN (List.length g) > 0)) (fin3 g x4) (fin3 g x3))) (.leaf none)) (.leaf none)
def ZoS (c : TC) (s : Int) (g : List Int) : RT (Option (TY × Bool)) :=
 let x1 : List TY := [(12, pcOf c, 0, 6)] ++ [(5, u16.wrap ((spOf c) - 1), u8.wrap (shrI u16 (pcOf c) 8), 3)] ++ [(5, u16.wrap ((spOf c) - 2), u8.wrap (pcOf c), 3)]
 let x3 : List TY := [(bif s == 5 then 8 else 1, pcOf c, 0, 4)]
 .br (Za s || (!decide (iN (List.length g) > 0) || (!Ze 0 (List.length g) || (Zb c.1 (R.get (R.int u8) g 0)).1 == 35))) (.br (Za s || (!decide (iN (List.length g) > 0) || Ze 0 (List.length g))) (.br (Za s) (fin3 g x1) (fin3 g x3)) (.leaf none)) (.leaf none)
def ZoO (c : TC) (s : Int) (g : List Int) : RT (Option (TY × Bool)) :=
 let x1 : List TY := [(12, pcOf c, 0, 6)] ++ [(5, u16.wrap ((spOf c) - 1), u8.wrap (shrI u16 (pcOf c) 8), 3)] ++ [(5, u16.wrap ((spOf c) - 2), u8.wrap (pcOf c), 3)]
 let x3 : List TY := [(bif s == 5 then 8 else 1, pcOf c, 0, 4)]
 .br (Za s || (!decide (iN (List.length g) > 0) || (!Ze 0 (List.length g) || (Zb c.1 (R.get (R.int u8) g 0)).1 == 39))) (.br (Za s || (!decide (iN (List.length g) > 0) || Ze 0 (List.length g))) (.br (Za s) (fin3 g x1) (fin3 g x3)) (.leaf none)) (.leaf none)
def ZoK (c : TC) (s : Int) (g : List Int) : RT (Option (TY × Bool)) :=
 let x1 : List TY := [(12, pcOf c, 0, 6)] ++ [(5, u16.wrap ((spOf c) - 1), u8.wrap (shrI u16 (pcOf c) 8), 3)] ++ [(5, u16.wrap ((spOf c) - 2), u8.wrap (pcOf c), 3)]
 let x3 : List TY := [(bif s == 5 then 8 else 1, pcOf c, 0, 4)]
 let x4 : QT7 := ((pcOf c), 0, 3)
 let x5 : List TY := [(11, x4)]
 let x6 : List TY := x3 ++ [(9, x4)] ++ x5
 let x8 : List TY := x3 ++ [(2, u16.wrap ((pcOf c) + u16.wrap 1), 0, 3)] ++ x5
 .br (Za s || (!decide (iN (List.length g) > 0) || (!Ze 0 (List.length g) || (Zb c.1 (R.get (R.int u8) g 0)).1 == 43))) (.br (Za s || (!decide (iN (List.length g) > 0) || Ze 0 (List.length g))) (.br (Za s) (fin3 g x1) (.br (decide (iN (List.length g) > 0)) (.br (s == 5) (fin3 g x6) (fin3 g x8)) (fin3 g x3))) (.leaf none)) (.leaf none)
def ZoG (c : TC) (s : Int) (g : List Int) : RT (Option (TY × Bool)) :=
 let x1 : List TY := [(12, pcOf c, 0, 6)] ++ [(5, u16.wrap ((spOf c) - 1), u8.wrap (shrI u16 (pcOf c) 8), 3)] ++ [(5, u16.wrap ((spOf c) - 2), u8.wrap (pcOf c), 3)]
 let x3 : List TY := [(bif s == 5 then 8 else 1, pcOf c, 0, 4)]
 let x4 : List TY := x3 ++ [(2, ZaN c.2.1 1, 0, 3)] ++ [(2, u16.wrap (ZaN c.2.1 1 + 1), 0, 3)]
 .br (Za s || (!decide (iN (List.length g) > 0) || (!Ze 0 (List.length g) || (Zb c.1 (R.get (R.int u8) g 0)).1 == 47))) (.br (Za s || (!decide (iN (List.length g) > 0) || Ze 0 (List.length g))) (.br (Za s) (fin3 g x1) (.br (decide (iN (List.length g) > 0)) (fin3 g x4) (fin3 g x3))) (.leaf none)) (.leaf none)
def ZmG (c : TC) (s : Int) (g : List Int) : RT (Option (TY × Bool)) :=
 let x1 : QT0 := (c, s == 5, g, (0, 0, 0, 0, 0, 0, 0, 0), [])
 let x2 := qAtC x1 0
 let x3 := Zb c.1 (qAt x1 0)
 let x4 := !x2 || x3.1 == 3
 let x5 := x3.2
 let x6 := x5.2.1 == 6
 let x7 : QT4 := (3, x5)
 let x8 : QT7 := ((pcOf c), 0, 4)
 let x9 : List TY := [] ++ [(1, x8)]
 let x10 : List TY := bif s == 5 then x9 ++ [(9, pcOf c, 0, 3)] else x9 ++ [(2, u16.wrap ((pcOf c) + u16.wrap 1), 0, 3)]
 let x11 : QT0 := (c, s == 5, g, x7, x10)
 let x12 : List TY := [] ++ [(12, pcOf c, 0, 6)] ++ [(5, u16.wrap ((spOf c) - 1), u8.wrap (shrI u16 (pcOf c) 8), 3)] ++ [(5, u16.wrap ((spOf c) - 2), u8.wrap (pcOf c), 3)]
 let x14 : List TY := [] ++ [(bif s == 5 then 8 else 1, x8)]
 let x16 : List TY := bif x6 then x10 ++ [(3, ZcE (c, s == 5, g, x7, x9) 2, qAt x11 1, 3)] else x10
 .br (!x4 || x2) (.br (x4) (.br (Zd s || (iN (List.length g) == 0 || (!x6 || qAtC x11 1))) (.br (Zd s) (fin3 g x12) (.br (iN (List.length g) == 0) (fin3 g x14) (fin3 g x16))) (.leaf none)) (.leaf none)) (.leaf none)
theorem Zv7 (a : HL Zg) : Zo (envX Tryz.prog (ZM 3) [] 1125900980585471 8) Tryz.f113 Zg Zs a = ZmG a.1 a.2.1 a.2.2 := by kernel_rfl
def ZmC (c : TC) (s : Int) (g : List Int) : RT (Option (TY × Bool)) :=
 let x1 : QT0 := (c, s == 5, g, (0, 0, 0, 0, 0, 0, 0, 0), [])
 let x2 := qAtC x1 0
 let x3 := Zb c.1 (qAt x1 0)
 let x4 := !x2 || x3.1 == 7
 let x5 : QT7 := ((pcOf c), 0, 4)
 let x6 : List TY := [] ++ [(1, x5)]
 let x7 : List TY := [(9, pcOf c, 0, 3)]
 let x8 : List TY := bif s == 5 then x6 ++ x7 else x6 ++ [(2, u16.wrap ((pcOf c) + u16.wrap 1), 0, 3)]
 let x9 : List TY := bif s == 5 then x8 ++ x7 else x8 ++ [(2, u16.wrap ((pcOf c) + u16.wrap (i64.wrap (1 + 1))), 0, 3)]
 let x10 : QT0 := (c, s == 5, g, (7, x3.2), x9)
 let x11 : List TY := [] ++ [(12, pcOf c, 0, 6)] ++ [(5, u16.wrap ((spOf c) - 1), u8.wrap (shrI u16 (pcOf c) 8), 3)] ++ [(5, u16.wrap ((spOf c) - 2), u8.wrap (pcOf c), 3)]
 let x13 : List TY := [] ++ [(bif s == 5 then 8 else 1, x5)]
 let x15 := Zea x10 1
 let x16 : List TY := x9 ++ [(2, x15, 0, 3)] ++ [(2, u16.wrap (x15 + 1), 0, 3)]
 .br (!x4 || x2) (.br (x4) (.br (Zd s || (iN (List.length g) == 0 || ZbI x10 1)) (.br (Zd s) (fin3 g x11) (.br (iN (List.length g) == 0) (fin3 g x13) (fin3 g x16))) (.leaf none)) (.leaf none)) (.leaf none)
theorem Zv3 (a : HL Zg) : Zo (envX Tryz.prog (ZM 7) [] 1125900980585471 8) Tryz.f113 Zg Zs a = ZmC a.1 a.2.1 a.2.2 := by kernel_rfl
def Zjp (c : TC) (s : Int) (g : List Int) : RT (Option (TY × Bool)) :=
 let x1 : QT0 := (c, s == 5, g, (0, 0, 0, 0, 0, 0, 0, 0), [])
 let x2 := qAtC x1 0
 let x3 := !x2 || (Zb c.1 (qAt x1 0)).1 == 11
 let x4 : List TY := [] ++ [(12, pcOf c, 0, 6)] ++ [(5, u16.wrap ((spOf c) - 1), u8.wrap (shrI u16 (pcOf c) 8), 3)] ++ [(5, u16.wrap ((spOf c) - 2), u8.wrap (pcOf c), 3)]
 let x6 : QT7 := ((pcOf c), 0, 4)
 let x7 : List TY := [] ++ [(bif s == 5 then 8 else 1, x6)]
 let x9 : List TY := [] ++ [(1, x6)]
 .br (!x3 || x2) (.br (x3) (.br (Zd s) (fin3 g x4) (.br (iN (List.length g) == 0) (fin3 g x7) (fin3 g x9))) (.leaf none)) (.leaf none)
theorem Zr7 (a : HL Zg) : Zo (envX Tryz.prog (ZM 11) [] 1125900980585471 8) Tryz.f113 Zg Zs a = Zjp a.1 a.2.1 a.2.2 := by kernel_rfl
def Zjl (c : TC) (s : Int) (g : List Int) : RT (Option (TY × Bool)) :=
 let x1 : QT0 := (c, s == 5, g, (0, 0, 0, 0, 0, 0, 0, 0), [])
 let x2 := qAtC x1 0
 let x3 := Zb c.1 (qAt x1 0)
 let x4 := !x2 || x3.1 == 15
 let x5 := x3.2
 let x6 := x5.2.1 == 6
 let x7 : QT4 := (15, x5)
 let x8 : QT7 := ((pcOf c), 0, 4)
 let x9 : List TY := [] ++ [(1, x8)]
 let x10 := ZcE (c, s == 5, g, x7, x9) 2
 let x11 : List TY := x9 ++ [(2, x10, 0, 3)]
 let x12 : QT0 := (c, s == 5, g, x7, x11)
 let x13 : List TY := [] ++ [(12, pcOf c, 0, 6)] ++ [(5, u16.wrap ((spOf c) - 1), u8.wrap (shrI u16 (pcOf c) 8), 3)] ++ [(5, u16.wrap ((spOf c) - 2), u8.wrap (pcOf c), 3)]
 let x15 : List TY := [] ++ [(bif s == 5 then 8 else 1, x8)]
 let x17 : List TY := bif x6 then x11 ++ [(3, x10, ZfK x12, 3)] else x9
 .br (!x4 || x2) (.br (x4) (.br (Zd s || (iN (List.length g) == 0 || (!x6 || Zeb x12))) (.br (Zd s) (fin3 g x13) (.br (iN (List.length g) == 0) (fin3 g x15) (fin3 g x17))) (.leaf none)) (.leaf none)) (.leaf none)
theorem Zr3 (a : HL Zg) : Zo (envX Tryz.prog (ZM 15) [] 1125900980585471 8) Tryz.f113 Zg Zs a = Zjl a.1 a.2.1 a.2.2 := by kernel_rfl
def Zjh (c : TC) (s : Int) (g : List Int) : RT (Option (TY × Bool)) :=
 let x1 : QT0 := (c, s == 5, g, (0, 0, 0, 0, 0, 0, 0, 0), [])
 let x2 := qAtC x1 0
 let x3 := !x2 || (Zb c.1 (qAt x1 0)).1 == 19
 let x4 : List TY := [] ++ [(12, pcOf c, 0, 6)] ++ [(5, u16.wrap ((spOf c) - 1), u8.wrap (shrI u16 (pcOf c) 8), 3)] ++ [(5, u16.wrap ((spOf c) - 2), u8.wrap (pcOf c), 3)]
 let x6 : QT7 := ((pcOf c), 0, 4)
 let x7 : List TY := [] ++ [(bif s == 5 then 8 else 1, x6)]
 let x9 : List TY := [] ++ [(1, x6)]
 .br (!x3 || x2) (.br (x3) (.br (Zd s) (fin3 g x4) (.br (iN (List.length g) == 0) (fin3 g x7) (fin3 g x9))) (.leaf none)) (.leaf none)
theorem ZrZ (a : HL Zg) : Zo (envX Tryz.prog (ZM 19) [] 1125900980585471 8) Tryz.f113 Zg Zs a = Zjh a.1 a.2.1 a.2.2 := by kernel_rfl
def Zjd (c : TC) (s : Int) (g : List Int) : RT (Option (TY × Bool)) :=
 let x1 : QT0 := (c, s == 5, g, (0, 0, 0, 0, 0, 0, 0, 0), [])
 let x2 := qAtC x1 0
 let x3 := !x2 || (Zb c.1 (qAt x1 0)).1 == 23
 let x4 : List TY := [] ++ [(12, pcOf c, 0, 6)] ++ [(5, u16.wrap ((spOf c) - 1), u8.wrap (shrI u16 (pcOf c) 8), 3)] ++ [(5, u16.wrap ((spOf c) - 2), u8.wrap (pcOf c), 3)]
 let x6 : QT7 := ((pcOf c), 0, 4)
 let x7 : List TY := [] ++ [(bif s == 5 then 8 else 1, x6)]
 let x9 : List TY := [] ++ [(1, x6)]
 .br (!x3 || x2) (.br (x3) (.br (Zd s) (fin3 g x4) (.br (iN (List.length g) == 0) (fin3 g x7) (fin3 g x9))) (.leaf none)) (.leaf none)
theorem ZrV (a : HL Zg) : Zo (envX Tryz.prog (ZM 23) [] 1125900980585471 8) Tryz.f113 Zg Zs a = Zjd a.1 a.2.1 a.2.2 := by kernel_rfl
def Zi9 (c : TC) (s : Int) (g : List Int) : RT (Option (TY × Bool)) :=
 let x1 : QT0 := (c, s == 5, g, (0, 0, 0, 0, 0, 0, 0, 0), [])
 let x2 := qAtC x1 0
 let x3 := Zb c.1 (qAt x1 0)
 let x4 := !x2 || x3.1 == 27
 let x5 := u16.wrap ((spOf c) - 1)
 let x6 := u16.wrap ((spOf c) - 2)
 let x7 : List TY := [] ++ [(12, pcOf c, 0, 6)] ++ [(5, x5, u8.wrap (shrI u16 (pcOf c) 8), 3)] ++ [(5, x6, u8.wrap (pcOf c), 3)]
 let x9 : QT7 := ((pcOf c), 0, 4)
 let x10 : List TY := [] ++ [(bif s == 5 then 8 else 1, x9)]
 let x12 : List TY := [] ++ [(1, x9)]
 let x13 := Zr (c, s == 5, g, (27, x3.2), x12)
 let x14 : List TY := x12 ++ [(5, x5, u8.wrap (shrI u16 x13 8), 3)] ++ [(5, x6, u8.wrap x13, 3)]
 .br (!x4 || x2) (.br (x4) (.br (Zd s) (fin3 g x7) (.br (iN (List.length g) == 0) (fin3 g x10) (fin3 g x14))) (.leaf none)) (.leaf none)
theorem ZrR (a : HL Zg) : Zo (envX Tryz.prog (ZM 27) [] 1125900980585471 8) Tryz.f113 Zg Zs a = Zi9 a.1 a.2.1 a.2.2 := by kernel_rfl
def Zi5 (c : TC) (s : Int) (g : List Int) : RT (Option (TY × Bool)) :=
 let x1 : QT0 := (c, s == 5, g, (0, 0, 0, 0, 0, 0, 0, 0), [])
 let x2 := qAtC x1 0
 let x3 := !x2 || (Zb c.1 (qAt x1 0)).1 == 31
 let x4 : List TY := [] ++ [(12, pcOf c, 0, 6)] ++ [(5, u16.wrap ((spOf c) - 1), u8.wrap (shrI u16 (pcOf c) 8), 3)] ++ [(5, u16.wrap ((spOf c) - 2), u8.wrap (pcOf c), 3)]
 let x6 : QT7 := ((pcOf c), 0, 4)
 let x7 : List TY := [] ++ [(bif s == 5 then 8 else 1, x6)]
 let x9 : List TY := [] ++ [(1, x6)] ++ [(4, spOf c, 0, 3)] ++ [(4, u16.wrap ((spOf c) + 1), 0, 3)]
 .br (!x3 || x2) (.br (x3) (.br (Zd s) (fin3 g x4) (.br (iN (List.length g) == 0) (fin3 g x7) (fin3 g x9))) (.leaf none)) (.leaf none)
theorem ZrN (a : HL Zg) : Zo (envX Tryz.prog (ZM 31) [] 1125900980585471 8) Tryz.f113 Zg Zs a = Zi5 a.1 a.2.1 a.2.2 := by kernel_rfl
def Zi1 (c : TC) (s : Int) (g : List Int) : RT (Option (TY × Bool)) :=
 let x1 : QT0 := (c, s == 5, g, (0, 0, 0, 0, 0, 0, 0, 0), [])
 let x2 := qAtC x1 0
 let x3 := !x2 || (Zb c.1 (qAt x1 0)).1 == 35
 let x4 : List TY := [] ++ [(12, pcOf c, 0, 6)] ++ [(5, u16.wrap ((spOf c) - 1), u8.wrap (shrI u16 (pcOf c) 8), 3)] ++ [(5, u16.wrap ((spOf c) - 2), u8.wrap (pcOf c), 3)]
 let x6 : QT7 := ((pcOf c), 0, 4)
 let x7 : List TY := [] ++ [(bif s == 5 then 8 else 1, x6)]
 let x9 : List TY := [] ++ [(1, x6)]
 .br (!x3 || x2) (.br (x3) (.br (Zd s) (fin3 g x4) (.br (iN (List.length g) == 0) (fin3 g x7) (fin3 g x9))) (.leaf none)) (.leaf none)
theorem ZrJ (a : HL Zg) : Zo (envX Tryz.prog (ZM 35) [] 1125900980585471 8) Tryz.f113 Zg Zs a = Zi1 a.1 a.2.1 a.2.2 := by kernel_rfl
def ZiX (c : TC) (s : Int) (g : List Int) : RT (Option (TY × Bool)) :=
 let x1 : QT0 := (c, s == 5, g, (0, 0, 0, 0, 0, 0, 0, 0), [])
 let x2 := qAtC x1 0
 let x3 := !x2 || (Zb c.1 (qAt x1 0)).1 == 39
 let x4 : List TY := [] ++ [(12, pcOf c, 0, 6)] ++ [(5, u16.wrap ((spOf c) - 1), u8.wrap (shrI u16 (pcOf c) 8), 3)] ++ [(5, u16.wrap ((spOf c) - 2), u8.wrap (pcOf c), 3)]
 let x6 : QT7 := ((pcOf c), 0, 4)
 let x7 : List TY := [] ++ [(bif s == 5 then 8 else 1, x6)]
 let x9 : List TY := [] ++ [(1, x6)]
 .br (!x3 || x2) (.br (x3) (.br (Zd s) (fin3 g x4) (.br (iN (List.length g) == 0) (fin3 g x7) (fin3 g x9))) (.leaf none)) (.leaf none)
theorem ZrF (a : HL Zg) : Zo (envX Tryz.prog (ZM 39) [] 1125900980585471 8) Tryz.f113 Zg Zs a = ZiX a.1 a.2.1 a.2.2 := by kernel_rfl
def ZiT (c : TC) (s : Int) (g : List Int) : RT (Option (TY × Bool)) :=
 let x1 : QT0 := (c, s == 5, g, (0, 0, 0, 0, 0, 0, 0, 0), [])
 let x2 := qAtC x1 0
 let x3 := !x2 || (Zb c.1 (qAt x1 0)).1 == 43
 let x4 : List TY := [] ++ [(12, pcOf c, 0, 6)] ++ [(5, u16.wrap ((spOf c) - 1), u8.wrap (shrI u16 (pcOf c) 8), 3)] ++ [(5, u16.wrap ((spOf c) - 2), u8.wrap (pcOf c), 3)]
 let x6 : QT7 := ((pcOf c), 0, 4)
 let x7 : List TY := [] ++ [(bif s == 5 then 8 else 1, x6)]
 let x9 : List TY := [] ++ [(1, x6)]
 let x10 : QT7 := ((pcOf c), 0, 3)
 let x11 : List TY := (bif s == 5 then x9 ++ [(9, x10)] else x9 ++ [(2, u16.wrap ((pcOf c) + u16.wrap 1), 0, 3)]) ++ [(11, x10)]
 .br (!x3 || x2) (.br (x3) (.br (Zd s) (fin3 g x4) (.br (iN (List.length g) == 0) (fin3 g x7) (fin3 g x11))) (.leaf none)) (.leaf none)
theorem ZrB (a : HL Zg) : Zo (envX Tryz.prog (ZM 43) [] 1125900980585471 8) Tryz.f113 Zg Zs a = ZiT a.1 a.2.1 a.2.2 := by kernel_rfl
def ZiP (c : TC) (s : Int) (g : List Int) : RT (Option (TY × Bool)) :=
 let x1 : QT0 := (c, s == 5, g, (0, 0, 0, 0, 0, 0, 0, 0), [])
 let x2 := qAtC x1 0
 let x3 := Zb c.1 (qAt x1 0)
 let x4 := !x2 || x3.1 == 47
 let x5 : List TY := [] ++ [(12, pcOf c, 0, 6)] ++ [(5, u16.wrap ((spOf c) - 1), u8.wrap (shrI u16 (pcOf c) 8), 3)] ++ [(5, u16.wrap ((spOf c) - 2), u8.wrap (pcOf c), 3)]
 let x7 : QT7 := ((pcOf c), 0, 4)
 let x8 : List TY := [] ++ [(bif s == 5 then 8 else 1, x7)]
 let x10 : List TY := [] ++ [(1, x7)]
 let x11 := ZcE (c, s == 5, g, (47, x3.2), x10) 1
 let x12 : List TY := x10 ++ [(2, x11, 0, 3)] ++ [(2, u16.wrap (x11 + 1), 0, 3)]
 .br (!x4 || x2) (.br (x4) (.br (Zd s) (fin3 g x5) (.br (iN (List.length g) == 0) (fin3 g x8) (fin3 g x12))) (.leaf none)) (.leaf none)
theorem Zrx (a : HL Zg) : Zo (envX Tryz.prog (ZM 47) [] 1125900980585471 8) Tryz.f113 Zg Zs a = ZiP a.1 a.2.1 a.2.2 := by kernel_rfl
def ZtZ (c : TC) (s : Int) (g : List Int) : RT (Option (TY × Bool)) :=
 let x1 : List TY := [(12, pcOf c, 0, 6)] ++ [(5, u16.wrap ((spOf c) - 1), u8.wrap (shrI u16 (pcOf c) 8), 3)] ++ [(5, u16.wrap ((spOf c) - 2), u8.wrap (pcOf c), 3)]
 let x3 : List TY := [(bif s == 5 then 8 else 1, pcOf c, 0, 4)]
 let x4 : List TY := [(9, pcOf c, 0, 3)]
 let x5 : List TY := x3 ++ x4
 let x6 : List TY := [(2, u16.wrap ((pcOf c) + u16.wrap (i64.wrap (1 + 1))), 0, 3)]
 let x7 : List TY := bif s == 5 then x5 ++ x4 else x5 ++ x6
 let x9 : List TY := x3 ++ [(2, u16.wrap ((pcOf c) + u16.wrap 1), 0, 3)]
 let x10 : List TY := bif s == 5 then x9 ++ x4 else x9 ++ x6
 .br (Za s || (!decide (iN (List.length g) > 0) || (!Ze 0 (List.length g) || (Zb c.1 (R.get (R.int u8) g 0)).1 == 4))) (.br (Za s || (!decide (iN (List.length g) > 0) || Ze 0 (List.length g))) (.br (Za s) (fin3 g x1) (.br (decide (iN (List.length g) > 0)) (.br (s == 5) (fin3 g x7) (fin3 g x10)) (fin3 g x3))) (.leaf none)) (.leaf none)
def ZtV (c : TC) (s : Int) (g : List Int) : RT (Option (TY × Bool)) :=
 let x1 : List TY := [(bif s == 5 then 8 else 1, pcOf c, 0, 4)]
 let x2 : List TY := [(9, pcOf c, 0, 3)]
 let x3 : List TY := x1 ++ x2
 let x4 : List TY := [(2, u16.wrap ((pcOf c) + u16.wrap (i64.wrap (1 + 1))), 0, 3)]
 let x5 : List TY := bif s == 5 then x3 ++ x2 else x3 ++ x4
 let x6 : QT3 := (c, s == 5, g, x5)
 let x7 := ZcW x6 1
 let x8 : List TY := x5 ++ [(3, Zf1 x6 1, c.2.1.2.2.2.2.2.2.1, 3)]
 let x9 : QT3 := (c, s == 5, g, x8)
 let x10 := !s == 5 || (!x7 || ZcW x9 1)
 let x11 := !x10
 let x12 := !s == 5 || x7
 let x13 := !x12
 let x14 : List TY := x1 ++ [(2, u16.wrap ((pcOf c) + u16.wrap 1), 0, 3)]
 let x15 : List TY := bif s == 5 then x14 ++ x2 else x14 ++ x4
 let x16 : QT3 := (c, s == 5, g, x15)
 let x17 := ZcW x16 1
 let x18 : List TY := x15 ++ [(3, Zf1 x16 1, c.2.1.2.2.2.2.2.2.1, 3)]
 let x19 : QT3 := (c, s == 5, g, x18)
 let x20 := s == 5 || (!x17 || ZcW x19 1)
 let x21 : List TY := [(12, pcOf c, 0, 6)] ++ [(5, u16.wrap ((spOf c) - 1), u8.wrap (shrI u16 (pcOf c) 8), 3)] ++ [(5, u16.wrap ((spOf c) - 2), u8.wrap (pcOf c), 3)]
 let x23 : List TY := x8 ++ [(3, u16.wrap (Zf1 x9 1 + 1), c.2.1.2.2.2.2.2.1, 3)]
 let x25 : List TY := x18 ++ [(3, u16.wrap (Zf1 x19 1 + 1), c.2.1.2.2.2.2.2.1, 3)]
 .br (Za s || (!decide (iN (List.length g) > 0) || (!Ze 0 (List.length g) || (!(Zb c.1 (R.get (R.int u8) g 0)).1 == 8 || (x11 || (x13 || (!x20 || (s == 5 || x17)))))))) (.br (Za s || (!decide (iN (List.length g) > 0) || (!Ze 0 (List.length g) || (!(Zb c.1 (R.get (R.int u8) g 0)).1 == 8 || (x11 || (x13 || x20)))))) (.br (Za s || (!decide (iN (List.length g) > 0) || (!Ze 0 (List.length g) || (!(Zb c.1 (R.get (R.int u8) g 0)).1 == 8 || (x11 || x12))))) (.br (Za s || (!decide (iN (List.length g) > 0) || (!Ze 0 (List.length g) || (!(Zb c.1 (R.get (R.int u8) g 0)).1 == 8 || x10)))) (.br (Za s || (!decide (iN (List.length g) > 0) || (!Ze 0 (List.length g) || (Zb c.1 (R.get (R.int u8) g 0)).1 == 8))) (.br (Za s || (!decide (iN (List.length g) > 0) || Ze 0 (List.length g))) (.br (Za s) (fin3 g x21) (.br (decide (iN (List.length g) > 0)) (.br (s == 5) (fin3 g x23) (fin3 g x25)) (fin3 g x1))) (.leaf none)) (.leaf none)) (.leaf none)) (.leaf none)) (.leaf none)) (.leaf none)
def Zpf (c : TC) (s : Int) (g : List Int) : RT (Option (TY × Bool)) :=
 let x1 : List TY := [(12, pcOf c, 0, 6)] ++ [(5, u16.wrap ((spOf c) - 1), u8.wrap (shrI u16 (pcOf c) 8), 3)] ++ [(5, u16.wrap ((spOf c) - 2), u8.wrap (pcOf c), 3)]
 let x3 : List TY := [(bif s == 5 then 8 else 1, pcOf c, 0, 4)]
 let x4 : List TY := x3 ++ [(2, ZaN c.2.1 2, 0, 3)]
 let x6 : Nat := List.length x3
 let x7 := decide (iN (List.length g) ≥ iN x6)
 let x8 := Ze (iN (List.length g)) x6
 let x9 : TY × Bool := (R.get (RY) x3 (iN (List.length g)), true)
 .br (Za s || (!decide (iN (List.length g) > 0) || (!Ze 0 (List.length g) || (Zb c.1 (R.get (R.int u8) g 0)).1 == 12))) (.br (Za s || (!decide (iN (List.length g) > 0) || Ze 0 (List.length g))) (.br (Za s) (fin3 g x1) (.br (decide (iN (List.length g) > 0)) (.br ((Zb c.1 (R.get (R.int u8) g 0)).2.2.2.1 == 6) (fin3 g x4) (.br (x7) (.leaf (some (((0, 0, 0, 0), false)))) (.br (x8) (.leaf (some (x9))) (.leaf none)))) (.br (x7) (.leaf (some (((0, 0, 0, 0), false)))) (.br (x8) (.leaf (some (x9))) (.leaf none))))) (.leaf none)) (.leaf none)
def Zpb (c : TC) (s : Int) (g : List Int) : RT (Option (TY × Bool)) :=
 let x1 : List TY := [(12, pcOf c, 0, 6)] ++ [(5, u16.wrap ((spOf c) - 1), u8.wrap (shrI u16 (pcOf c) 8), 3)] ++ [(5, u16.wrap ((spOf c) - 2), u8.wrap (pcOf c), 3)]
 let x3 : List TY := [(bif s == 5 then 8 else 1, pcOf c, 0, 4)]
 .br (Za s || (!decide (iN (List.length g) > 0) || (!Ze 0 (List.length g) || (Zb c.1 (R.get (R.int u8) g 0)).1 == 16))) (.br (Za s || (!decide (iN (List.length g) > 0) || Ze 0 (List.length g))) (.br (Za s) (fin3 g x1) (fin3 g x3)) (.leaf none)) (.leaf none)
def Zo7 (c : TC) (s : Int) (g : List Int) : RT (Option (TY × Bool)) :=
 let x1 : List TY := [(12, pcOf c, 0, 6)] ++ [(5, u16.wrap ((spOf c) - 1), u8.wrap (shrI u16 (pcOf c) 8), 3)] ++ [(5, u16.wrap ((spOf c) - 2), u8.wrap (pcOf c), 3)]
 let x3 : List TY := [(bif s == 5 then 8 else 1, pcOf c, 0, 4)]
 .br (Za s || (!decide (iN (List.length g) > 0) || (!Ze 0 (List.length g) || (Zb c.1 (R.get (R.int u8) g 0)).1 == 20))) (.br (Za s || (!decide (iN (List.length g) > 0) || Ze 0 (List.length g))) (.br (Za s) (fin3 g x1) (fin3 g x3)) (.leaf none)) (.leaf none)
def Zo3 (c : TC) (s : Int) (g : List Int) : RT (Option (TY × Bool)) :=
 let x1 : List TY := [(12, pcOf c, 0, 6)] ++ [(5, u16.wrap ((spOf c) - 1), u8.wrap (shrI u16 (pcOf c) 8), 3)] ++ [(5, u16.wrap ((spOf c) - 2), u8.wrap (pcOf c), 3)]
 let x3 : List TY := [(bif s == 5 then 8 else 1, pcOf c, 0, 4)]
 let x4 : List TY := [(9, pcOf c, 0, 3)]
 let x5 : List TY := x3 ++ x4
 let x7 : List TY := x3 ++ [(2, u16.wrap ((pcOf c) + u16.wrap 1), 0, 3)]
 let x9 : List TY := [(2, u16.wrap ((pcOf c) + u16.wrap (i64.wrap (1 + 1))), 0, 3)]
 let x10 : List TY := bif s == 5 then x5 ++ x4 else x5 ++ x9
 let x12 : List TY := bif s == 5 then x7 ++ x4 else x7 ++ x9
 .br (Za s || (!decide (iN (List.length g) > 0) || (!Ze 0 (List.length g) || (Zb c.1 (R.get (R.int u8) g 0)).1 == 24))) (.br (Za s || (!decide (iN (List.length g) > 0) || Ze 0 (List.length g))) (.br (Za s) (fin3 g x1) (.br (decide (iN (List.length g) > 0)) (.br (rOn c.1 && !Zf2 (c, s == 5, g, x3) (24, (Zb c.1 (R.get (R.int u8) g 0)).2)) (.br (s == 5) (fin3 g x5) (fin3 g x7)) (.br (s == 5) (fin3 g x10) (fin3 g x12))) (fin3 g x3))) (.leaf none)) (.leaf none)
def ZoZ (c : TC) (s : Int) (g : List Int) : RT (Option (TY × Bool)) :=
 let x1 : List TY := [(12, pcOf c, 0, 6)] ++ [(5, u16.wrap ((spOf c) - 1), u8.wrap (shrI u16 (pcOf c) 8), 3)] ++ [(5, u16.wrap ((spOf c) - 2), u8.wrap (pcOf c), 3)]
 let x3 : List TY := [(bif s == 5 then 8 else 1, pcOf c, 0, 4)]
 .br (Za s || (!decide (iN (List.length g) > 0) || (!Ze 0 (List.length g) || (Zb c.1 (R.get (R.int u8) g 0)).1 == 28))) (.br (Za s || (!decide (iN (List.length g) > 0) || Ze 0 (List.length g))) (.br (Za s) (fin3 g x1) (fin3 g x3)) (.leaf none)) (.leaf none)
def ZoV (c : TC) (s : Int) (g : List Int) : RT (Option (TY × Bool)) :=
 let x1 : List TY := [(12, pcOf c, 0, 6)] ++ [(5, u16.wrap ((spOf c) - 1), u8.wrap (shrI u16 (pcOf c) 8), 3)] ++ [(5, u16.wrap ((spOf c) - 2), u8.wrap (pcOf c), 3)]
 let x3 : List TY := [(bif s == 5 then 8 else 1, pcOf c, 0, 4)]
 let x4 := u16.wrap ((spOf c) + 1)
 let x5 : List TY := x3 ++ [(4, spOf c, 0, 3)] ++ [(4, x4, 0, 3)] ++ [(5, x4, c.2.1.2.2.2.2.2.1, 3)] ++ [(5, spOf c, c.2.1.2.2.2.2.2.2.1, 3)]
 let x6 := i64.wrap (iN (List.length x5) - 1)
 let x7 : Int × Int × Int × Int := R.get (RY) x5 x6
 let x8 := x7.2
 let x9 : List TY := bif !rOn c.1 then setI x5 x6 (x7.1, x8.1, x8.2.1, 5) else x5
 .br (Za s || (!decide (iN (List.length g) > 0) || (!Ze 0 (List.length g) || (Zb c.1 (R.get (R.int u8) g 0)).1 == 32))) (.br (Za s || (!decide (iN (List.length g) > 0) || Ze 0 (List.length g))) (.br (Za s) (fin3 g x1) (.br (decide (iN (List.length g) > 0)) (fin3 g x9) (fin3 g x3))) (.leaf none)) (.leaf none)
def ZoR (c : TC) (s : Int) (g : List Int) : RT (Option (TY × Bool)) :=
 let x1 : List TY := [(12, pcOf c, 0, 6)] ++ [(5, u16.wrap ((spOf c) - 1), u8.wrap (shrI u16 (pcOf c) 8), 3)] ++ [(5, u16.wrap ((spOf c) - 2), u8.wrap (pcOf c), 3)]
 let x3 : List TY := [(bif s == 5 then 8 else 1, pcOf c, 0, 4)]
 .br (Za s || (!decide (iN (List.length g) > 0) || (!Ze 0 (List.length g) || (Zb c.1 (R.get (R.int u8) g 0)).1 == 36))) (.br (Za s || (!decide (iN (List.length g) > 0) || Ze 0 (List.length g))) (.br (Za s) (fin3 g x1) (fin3 g x3)) (.leaf none)) (.leaf none)
def ZoN (c : TC) (s : Int) (g : List Int) : RT (Option (TY × Bool)) :=
 let x1 : List TY := [(12, pcOf c, 0, 6)] ++ [(5, u16.wrap ((spOf c) - 1), u8.wrap (shrI u16 (pcOf c) 8), 3)] ++ [(5, u16.wrap ((spOf c) - 2), u8.wrap (pcOf c), 3)]
 let x3 : List TY := [(bif s == 5 then 8 else 1, pcOf c, 0, 4)]
 let x4 : List TY := [(11, pcOf c, 0, 3)]
 let x5 : List TY := x3 ++ x4 ++ x4
 .br (Za s || (!decide (iN (List.length g) > 0) || (!Ze 0 (List.length g) || (Zb c.1 (R.get (R.int u8) g 0)).1 == 40))) (.br (Za s || (!decide (iN (List.length g) > 0) || Ze 0 (List.length g))) (.br (Za s) (fin3 g x1) (.br (decide (iN (List.length g) > 0)) (fin3 g x5) (fin3 g x3))) (.leaf none)) (.leaf none)
def ZoJ (c : TC) (s : Int) (g : List Int) : RT (Option (TY × Bool)) :=
 let x1 : List TY := [(12, pcOf c, 0, 6)] ++ [(5, u16.wrap ((spOf c) - 1), u8.wrap (shrI u16 (pcOf c) 8), 3)] ++ [(5, u16.wrap ((spOf c) - 2), u8.wrap (pcOf c), 3)]
 let x3 : List TY := [(bif s == 5 then 8 else 1, pcOf c, 0, 4)]
 let x4 : QT7 := ((pcOf c), 0, 3)
 let x5 : List TY := [(11, x4)]
 let x6 : List TY := x3 ++ [(9, x4)] ++ x5
 let x8 : List TY := x3 ++ [(2, u16.wrap ((pcOf c) + u16.wrap 1), 0, 3)] ++ x5
 .br (Za s || (!decide (iN (List.length g) > 0) || (!Ze 0 (List.length g) || (Zb c.1 (R.get (R.int u8) g 0)).1 == 44))) (.br (Za s || (!decide (iN (List.length g) > 0) || Ze 0 (List.length g))) (.br (Za s) (fin3 g x1) (.br (decide (iN (List.length g) > 0)) (.br (s == 5) (fin3 g x6) (fin3 g x8)) (fin3 g x3))) (.leaf none)) (.leaf none)
end
end Go.Proofs.YtghoimllhpjkjaaGreat
