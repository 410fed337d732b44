/-
  Contracts of functions; each found by the symbolic executor and checked by the kernel. Conditions: none.
-/
import Derived.Test.YtghoimllhpjkjaaGreatPinsEq
import Derived.Test.YtghoimllhpjkjaaGreatS3Nil
import Derived.Test.YtghoimllhpjkjaaGreatS3D
import Derived.Test.YtghoimllhpjkjaaGreatProg
set_option linter.unusedVariables false
set_option linter.unusedSimpArgs false
open Go Go.S3 Go.Proofs
set_option maxRecDepth 100000
namespace Go.Proofs.YtghoimllhpjkjaaGreat
noncomputable section
end
end Go.Proofs.YtghoimllhpjkjaaGreat
open Go.IntKind (u8 u16 i64)
namespace Go.Proofs.YtghoimllhpjkjaaGreat
noncomputable section
abbrev Cyc := QT18
abbrev cycR : R := R.pair (R.int i64) (R.pair (R.int u16) (R.pair (R.int u8) (R.int i64)))
theorem Za2 (st) (n : Int) (h : 0 ≤ n) : qAtC st n = true ∧ qAt st n = st.2.2.1.getD n.toNat 0 := by
 by_cases hn : n < (st.2.2.1.length : Int)
 ·simp [qAtC, qAt, qAtT, RT.val, iN, Zf, h, hn, okB, getO, R.get, R.dflt]
 ·have : st.2.2.1.length ≤ n.toNat := by omega
  simp [qAtC, qAt, qAtT, RT.val, iN, Zf, h, hn, okB, getO, R.get, R.dflt, List.getD_eq_getElem?_getD, List.getElem?_eq_none this]
theorem Zbd (st) (n : Int) (h : 0 ≤ n) : mAtC st n = true ∧ mAt st n = st.2.2.1.getD n.toNat 0 := by
 by_cases hn : n < (st.2.2.1.length : Int)
 ·simp [mAtC, mAt, mAtT, RT.val, iN, Zf, h, hn, okB, getO, R.get, R.dflt]
 ·have : st.2.2.1.length ≤ n.toNat := by omega
  simp [mAtC, mAt, mAtT, RT.val, iN, Zf, h, hn, okB, getO, R.get, R.dflt, List.getD_eq_getElem?_getD, List.getElem?_eq_none this]
theorem qat0 (st) : qAtC st 0 = true ∧ qAt st 0 = st.2.2.1.getD 0 0 := Za2 st 0 (by decide)
theorem qat1 (st) : qAtC st 1 = true ∧ qAt st 1 = st.2.2.1.getD 1 0 := Za2 st 1 (by decide)
theorem mat0 (st) : mAtC st 0 = true ∧ mAt st 0 = st.2.2.1.getD 0 0 := Zbd st 0 (by decide)
theorem mat1 (st) : mAtC st 1 = true ∧ mAt st 1 = st.2.2.1.getD 1 0 := Zbd st 1 (by decide)
theorem rg0 (g : List Int) : R.get (.int .u8) g 0 = g.getD 0 0 := rfl
def pick (l : List Cyc) (n : Nat) : Cyc × Bool := (l.getD n (0, 0, 0, 0), decide (n < l.length))
theorem pk (l : List Cyc) (n : Nat) : (cond (decide (iN n ≥ iN l.length)) (some (((0, 0, 0, 0) : Cyc), false)) (cond (Zf (iN n) l.length) (some (R.get cycR l (iN n), true)) none)) = some (pick l n) := by
 by_cases h : n < l.length
 ·have h1 : ¬ (l.length : Int) ≤ n := by omega
  simp [pick, h, h1, Zf, iN, R.get, R.dflt]
 ·have h1 : (l.length : Int) ≤ n := by omega
  simp [pick, h, h1, Zf, iN]
theorem Zbi (x : Cyc) (l) (n : Nat) : pick (x :: l) (n + 1) = pick l n := by simp [pick]
theorem Zbh (x : Cyc) (l) : pick (x :: l) 0 = (x, true) := by simp [pick]
theorem Zs (s : Int) : Zd s = Zb s := rfl
theorem len0 (g : List Int) (a : Int) : (iN (a :: g).length == 0) = false ∧ decide (iN (a :: g).length > 0) = true ∧ Zf 0 (a :: g).length = true := by
 have : ((g.length : Int) + 1 == 0) = false := by simp; omega
 simp [iN, Zf, this]
theorem ZlH : (iN ([] : List Int).length == 0) = true ∧ decide (iN ([] : List Int).length > 0) = false ∧ Zf 0 ([] : List Int).length = false := by decide
theorem ZR (s) (n) : Zdb s n = Z7 s.1.2.1 n := rfl
theorem Z4 (s) (n) : qReg s n = rGet s.1.2.1 n := rfl
theorem ZF (s) : ZfI s = Zdu s.2.2.2.1.2.2.2.2.2.2.1 s.1.2.1.2.2.2.2.2.2.2.1 := rfl
theorem ZG (s i) : Zdx s i = Zdu i.2.2.2.2.2.2.1 s.1.2.1.2.2.2.2.2.2.2.1 := rfl
theorem Zv (s) : ZC s = cond s.2.1 s.1.2.1.2.2.2.2.2.2.2.2.2 (IntKind.wrap .u16 (s.1.2.1.2.2.2.2.2.2.2.2.2 + IntKind.wrap .u16 s.2.2.2.1.2.1)) := rfl
theorem Zx (s n) : Zy s n = cond s.2.1 s.1.2.1.2.2.2.2.2.2.2.2.2 (IntKind.wrap .u16 (s.1.2.1.2.2.2.2.2.2.2.2.2 + IntKind.wrap .u16 n)) := rfl
theorem Zbp : IntKind.wrap .i64 2 = 2 ∧ IntKind.wrap .i64 4 = 4 := by decide
theorem ZaD (s) : Zb4 s 1 = true ∧ ZeW s 1 = Zb3 (s.2.2.1.getD 2 0) (s.2.2.1.getD 1 0) := by
 simp [Zb4, ZeW, Zsc, RT.val, Zbp, Za2 s 2 (by decide), Za2 s 1 (by decide), okB, getO]
theorem ZbO (s) : Zb4 s 3 = true ∧ ZeW s 3 = Zb3 (s.2.2.1.getD 4 0) (s.2.2.1.getD 3 0) := by
 simp [Zb4, ZeW, Zsc, RT.val, Zbp, Za2 s 4 (by decide), Za2 s 3 (by decide), okB, getO]
theorem ZaF (s) : ZbD s 1 = true ∧ ZdD s 1 = Zb3 (s.2.2.1.getD 2 0) (s.2.2.1.getD 1 0) := by
 simp [ZbD, ZdD, ZyW, RT.val, Zbp, Zbd s 2 (by decide), Zbd s 1 (by decide), okB, getO]
theorem ZaE (s) : ZeX s = true ∧ ZgD s = cond (s.2.2.2.1.1 == 14) (rInr s.1.1 (s.2.2.1.getD 1 0) s.1.2.1.2.2.2.2.2.2.2.1).1 (rDcr s.1.1 (s.2.2.1.getD 1 0) s.1.2.1.2.2.2.2.2.2.2.1).1 := by
 simp [ZeX, ZgD, ZgC, RT.val, qat1, okB, getO]
theorem Zr (c i v) : Zfp c i v = cond (i.1 == 14) (rInr c.1 v c.2.1.2.2.2.2.2.2.2.1) (rDcr c.1 v c.2.1.2.2.2.2.2.2.2.1) := rfl
abbrev FlgT := Bool × Bool × Bool × Bool × Bool × Bool × Bool
abbrev RegT := Int × Int × Int × Int × Int × Int × Int × FlgT × Int × Int
abbrev CpuT := Int × RegT × Bool × Bool × Bool × Int × Bool × Bool × Bool × Bool × Bool × Bool × Bool
abbrev InsT := QT4
def opC (c : CpuT) (inj : Bool) (k : Int) : Cyc := bif inj then (9, pcOf c, 0, 3) else (2, IntKind.wrap .u16 (pcOf c + IntKind.wrap .u16 k), 0, 3)
def Zcd (c : CpuT) (w : Int) : List Cyc := [(5, IntKind.wrap .u16 (spOf c - 1), IntKind.wrap .u8 (shrI .u16 w 8), 3), (5, IntKind.wrap .u16 (spOf c - 2), IntKind.wrap .u8 w, 3)]
def popX (c : CpuT) : List Cyc := [(4, spOf c, 0, 3), (4, IntKind.wrap .u16 (spOf c + 1), 0, 3)]
def ZI (c : CpuT) (inj : Bool) (i : InsT) : Int := bif inj then pcOf c else IntKind.wrap .u16 (pcOf c + IntKind.wrap .u16 i.2.1)
def Za1 (c : CpuT) (i : InsT) : Bool := Zdu i.2.2.2.2.2.2.1 c.2.1.2.2.2.2.2.2.2.1
def Zhs (a : Int) : List Cyc := [(2, a, 0, 3), (2, IntKind.wrap .u16 (a + 1), 0, 3)]
def ZdI (c : CpuT) (a : Int) : List Cyc := [(3, a, c.2.1.2.2.2.2.2.2.1, 3), (3, IntKind.wrap .u16 (a + 1), c.2.1.2.2.2.2.2.1, 3)]
def Zca (c : CpuT) (inj : Bool) (i : InsT) : List Cyc := bif c.1 == 2 && !Za1 c i then [opC c inj 1] else [opC c inj 1, opC c inj 2]
def ZaS (g : List Int) (n : Nat) : Int := Zb3 (g.getD (n + 1) 0) (g.getD n 0)
def Zf8 (c : CpuT) : Cyc := (11, pcOf c, 0, 3)
def Zev (c : CpuT) (i : InsT) (v : Int) : Int := bif i.1 == 14 then (rInr c.1 v c.2.1.2.2.2.2.2.2.2.1).1 else (rDcr c.1 v c.2.1.2.2.2.2.2.2.2.1).1
def ZiF (c : CpuT) (inj : Bool) (g : List Int) (i : InsT) : List Cyc :=
 let hl := Z7 c.2.1 2
 let dst := i.2.2.1
 let src := i.2.2.2.1
 let pr := i.2.2.2.2.1
 bif i.1 == 2 then (bif src == 6 then [(2, hl, 0, 3)] else bif dst == 6 then [(3, hl, rGet c.2.1 src, 3)] else []) else
 bif i.1 == 3 then opC c inj 1 :: (bif dst == 6 then [(3, hl, g.getD 1 0, 3)] else []) else
 bif i.1 == 4 then [opC c inj 1, opC c inj 2] else
 bif i.1 == 5 then [opC c inj 1, opC c inj 2, (2, ZaS g 1, 0, 3)] else
 bif i.1 == 6 then [opC c inj 1, opC c inj 2, (3, ZaS g 1, c.2.1.1, 3)] else
 bif i.1 == 7 then opC c inj 1 :: opC c inj 2 :: Zhs (ZaS g 1) else
 bif i.1 == 8 then opC c inj 1 :: opC c inj 2 :: ZdI c (ZaS g 1) else
 bif i.1 == 9 then [(2, Z7 c.2.1 pr, 0, 3)] else
 bif i.1 == 10 then [(3, Z7 c.2.1 pr, c.2.1.1, 3)] else
 bif i.1 == 12 then (bif src == 6 then [(2, hl, 0, 3)] else []) else
 bif i.1 == 13 then [opC c inj 1] else
 bif i.1 == 14 || i.1 == 15 then (bif dst == 6 then [(2, hl, 0, 3), (3, hl, Zev c i (g.getD 1 0), 3)] else []) else
 bif i.1 == 18 || i.1 == 40 || i.1 == 42 then [Zf8 c, Zf8 c] else
 bif i.1 == 24 then Zca c inj i else
 bif i.1 == 25 then Zca c inj i ++ (bif Za1 c i then Zcd c (ZI c inj i) else []) else
 bif i.1 == 26 then (bif Za1 c i then popX c else []) else
 bif i.1 == 27 then Zcd c (ZI c inj i) else
 bif i.1 == 45 then (bif Za1 c i then Zcd c (ZI c inj i) else []) else
 bif i.1 == 30 then Zcd c (bif pr == 3 then rPSW c.1 c.2.1 else Z7 c.2.1 pr) else
 bif i.1 == 31 then popX c else
 bif i.1 == 32 then popX c ++ [(5, IntKind.wrap .u16 (spOf c + 1), c.2.1.2.2.2.2.2.1, 3), (5, spOf c, c.2.1.2.2.2.2.2.2.1, bif c.1 == 2 then 3 else 5)] else
 bif i.1 == 33 then [opC c inj 1, (6, Zb3 (g.getD 1 0) (g.getD 1 0), 0, 3)] else
 bif i.1 == 34 then [opC c inj 1, (7, Zb3 (g.getD 1 0) (g.getD 1 0), c.2.1.1, 3)] else
 bif i.1 == 37 then (bif c.1 == 2 then [] else [(10, pcOf c, 0, 3)]) else
 bif i.1 == 41 then [Zf8 c] else
 bif i.1 == 43 || i.1 == 44 then [opC c inj 1, Zf8 c] else
 bif i.1 == 46 then ZdI c (Z7 c.2.1 1) else
 bif i.1 == 47 then Zhs (Z7 c.2.1 1) else
 []
def Ziz (c : CpuT) (s : Int) (g : List Int) : List Cyc :=
 bif Zb s then (12, pcOf c, 0, 6) :: Zcd c (pcOf c)
 else (bif s == 5 then 8 else 1, pcOf c, 0, 4) :: match g with
  | [] => []
  | o :: _ => ZiF c (s == 5) g (Za c.1 o)
def Zt (c : CpuT) (s : Int) (g : List Int) : Cyc × Bool := pick (Ziz c s g) g.length
def sk (x : Cyc) : Cyc := (x.1, 0, 0, x.2.2.2)
def ZGl (c op : Int) : Bool := decide (1 ≤ (Za c op).1) && decide ((Za c op).1 ≤ 47)
theorem ZqU (c op : Int) (h : inR .u8 op) : 1 ≤ (Za c op).1 ∧ (Za c op).1 ≤ 47 := by
 have fin : ZGl c op = true → 1 ≤ (Za c op).1 ∧ (Za c op).1 ≤ 47 := by
  intro hc; simpa [ZGl] using hc
 by_cases hc : c = 2
 ·subst hc; exact fin (Zep (ZGl 2) (by kernel_rfl) op h)
 ·have h0 := Zep (ZGl 0) (by kernel_rfl) op h
  have e : Za c op = Za 0 op := by unfold Za; rw [Zju c op hc]
  refine fin ?_
  simp only [ZGl, e] at h0 ⊢; exact h0
theorem ZqX {g : List Int} (h : (R.sl (.int .u8)).ok g) : inR .u8 (g.getD 0 0) := by
 cases g with
 | nil => rw [ZfK]; simp
 | cons x l => exact h.2 x (by simp)
theorem ZqT {n : Int} (h1 : 1 ≤ n) (h2 : n ≤ 47) : n = 1 ∨ n = 2 ∨ n = 3 ∨ n = 4 ∨ n = 5 ∨ n = 6 ∨ n = 7 ∨ n = 8 ∨ n = 9 ∨ n = 10 ∨ n = 11 ∨ n = 12 ∨ n = 13 ∨ n = 14 ∨ n = 15 ∨ n = 16 ∨ n = 17 ∨ n = 18 ∨ n = 19 ∨ n = 20 ∨ n = 21 ∨ n = 22 ∨ n = 23 ∨ n = 24 ∨ n = 25 ∨ n = 26 ∨ n = 27 ∨ n = 28 ∨ n = 29 ∨ n = 30 ∨ n = 31 ∨ n = 32 ∨ n = 33 ∨ n = 34 ∨ n = 35 ∨ n = 36 ∨ n = 37 ∨ n = 38 ∨ n = 39 ∨ n = 40 ∨ n = 41 ∨ n = 42 ∨ n = 43 ∨ n = 44 ∨ n = 45 ∨ n = 46 ∨ n = 47 := by omega
def Zcz (k : Int) : Entry := .tree (ZS (envX Tryz.prog [(182, Zsy k), (222, qAtE)] [] 255 8) Tryz.f178)
theorem Zeg (k : Int) : Zc Tryz.prog 178 (Zcz k) := Zak (P := Tryz.prog) (n := 255) (k := 8) (l := [(182, Zsy k), (222, qAtE)]) (ol := []) ⟨(ZyJ k), ZgF, trivial⟩ Tryz.func178 rfl (by kernel_rfl) Tryz.call178 trivial
def Zo : Entry := .tree (ZS (envX Tryz.prog [] [] 255 8) Tryz.f230)
theorem ZQ : Zc Tryz.prog 230 Zo := Zak (P := Tryz.prog) (n := 255) (k := 8) (l := []) (ol := []) trivial Tryz.func230 rfl (by kernel_rfl) Tryz.call230 trivial
def ZaW : Entry := .tree (ZS (envX Tryz.prog [(230, Zo)] [] 15 8) Tryz.f180)
theorem Zb6 : Zc Tryz.prog 180 ZaW := Zak (P := Tryz.prog) (n := 15) (k := 8) (l := [(230, Zo)]) (ol := []) ⟨ZQ, trivial⟩ Tryz.func180 rfl (by kernel_rfl) Tryz.call180 trivial
def ZA : Entry := .tree (ZS (envX Tryz.prog [(230, Zo)] [] 31 8) Tryz.f233)
theorem Zab : Zc Tryz.prog 233 ZA := Zak (P := Tryz.prog) (n := 31) (k := 8) (l := [(230, Zo)]) (ol := []) ⟨ZQ, trivial⟩ Tryz.func233 rfl (by kernel_rfl) Tryz.call233 trivial
def Zal : Entry := .tree (ZS (envX Tryz.prog [(230, Zo)] [] 63 8) Tryz.f237)
theorem ZbZ : Zc Tryz.prog 237 Zal := Zak (P := Tryz.prog) (n := 63) (k := 8) (l := [(230, Zo)]) (ol := []) ⟨ZQ, trivial⟩ Tryz.func237 rfl (by kernel_rfl) Tryz.call237 trivial
def ZaN : Entry := .tree (ZS (envX Tryz.prog [(230, Zo), (233, ZA), (237, Zal), (270, Zkj)] [] 268570631 8) Tryz.f235)
theorem ZcU : Zc Tryz.prog 235 ZaN := Zak (P := Tryz.prog) (n := 268570631) (k := 8) (l := [(230, Zo), (233, ZA), (237, Zal), (270, Zkj)]) (ol := []) ⟨ZQ, Zab, ZbZ, Zpe, trivial⟩ Tryz.func235 rfl (by kernel_rfl) Tryz.call235 trivial
def Zbx : Entry := .tree (ZS (envX Tryz.prog [(233, ZA), (280, ZfX)] [] 15 8) Tryz.f288)
theorem ZeA : Zc Tryz.prog 288 Zbx := Zak (P := Tryz.prog) (n := 15) (k := 8) (l := [(233, ZA), (280, ZfX)]) (ol := []) ⟨Zab, Zkh, trivial⟩ Tryz.func288 rfl (by kernel_rfl) Tryz.call288 trivial
def ZbJ : Entry := .tree (ZS (envX Tryz.prog [(230, Zo)] [] 3 8) Tryz.f289)
theorem Ze9 : Zc Tryz.prog 289 ZbJ := Zak (P := Tryz.prog) (n := 3) (k := 8) (l := [(230, Zo)]) (ol := []) ⟨ZQ, trivial⟩ Tryz.func289 rfl (by kernel_rfl) Tryz.call289 trivial
def Zby : Entry := .tree (ZS (envX Tryz.prog [(230, Zo)] [] 15 8) Tryz.f291)
theorem ZeB : Zc Tryz.prog 291 Zby := Zak (P := Tryz.prog) (n := 15) (k := 8) (l := [(230, Zo)]) (ol := []) ⟨ZQ, trivial⟩ Tryz.func291 rfl (by kernel_rfl) Tryz.call291 trivial
def ZaH : Entry := .tree (ZS (envX Tryz.prog [(180, ZaW), (223, ZgE), (230, Zo), (231, ZeU), (233, ZA), (280, ZfX), (288, Zbx), (289, ZbJ), (290, ZEU), (291, Zby)] [] 1517844491342638470129438826421819271357141255 8) Tryz.f238)
theorem ZcE : Zc Tryz.prog 238 ZaH := Zak (P := Tryz.prog) (n := 1517844491342638470129438826421819271357141255) (k := 8) (l := [(180, ZaW), (223, ZgE), (230, Zo), (231, ZeU), (233, ZA), (280, ZfX), (288, Zbx), (289, ZbJ), (290, ZEU), (291, Zby)]) (ol := []) ⟨Zb6, Zm3, ZQ, Zgz, Zab, Zkh, ZeA, Ze9, ZIj, ZeB, trivial⟩ Tryz.func238 rfl (by kernel_rfl) Tryz.call238 trivial
def ZcK : Entry := .tree (ZS (envX Tryz.prog [(222, qAtE), (230, Zo), (231, ZeU), (232, Zsb), (233, ZA), (234, Zkk), (235, ZaN), (236, ZpM), (237, Zal), (238, ZaH)] [] 2854495396045824897803138545268610783927869455 8) Tryz.f181)
theorem ZeC : Zc Tryz.prog 181 ZcK := Zak (P := Tryz.prog) (n := 2854495396045824897803138545268610783927869455) (k := 8) (l := [(222, qAtE), (230, Zo), (231, ZeU), (232, Zsb), (233, ZA), (234, Zkk), (235, ZaN), (236, ZpM), (237, Zal), (238, ZaH)]) (ol := []) ⟨ZgF, ZQ, Zgz, Zpd, Zab, Zu7, ZcU, Zsu, ZbZ, ZcE, trivial⟩ Tryz.func181 rfl (by kernel_rfl) Tryz.call181 trivial
abbrev Zj : List Sh := [Sh.agg Z3, Sh.one (R.int i64), Sh.one (R.sl (R.int u8))]
abbrev ZE : Rs := Rs.tup [Sh.agg (RY), Sh.one R.bool]
def ZW (k : Int) : List (FuncId × Entry) := [(176, ZhA), (178, Zcz k), (180, ZaW), (181, ZcK)]
theorem ZE2 (k : Int) : Zc0 Tryz.prog (ZW k) := ⟨Zid, (Zeg k), Zb6, ZeC, trivial⟩
def Zq : Entry := .tree (ZS (envX Tryz.prog [] [] 255 8) Tryz.f162)
theorem ZY : Zc Tryz.prog 162 Zq := Zak (P := Tryz.prog) (n := 255) (k := 8) (l := []) (ol := []) trivial Tryz.func162 rfl (by kernel_rfl) Tryz.call162 trivial
def Z8 : Entry := .tree (ZS (envX Tryz.prog [(162, Zq)] [] 15 8) Tryz.f105)
theorem Za8 : Zc Tryz.prog 105 Z8 := Zak (P := Tryz.prog) (n := 15) (k := 8) (l := [(162, Zq)]) (ol := []) ⟨ZY, trivial⟩ Tryz.func105 rfl (by kernel_rfl) Tryz.call105 trivial
def ZN : Entry := .tree (ZS (envX Tryz.prog [(162, Zq)] [] 31 8) Tryz.f164)
theorem ZaU : Zc Tryz.prog 164 ZN := Zak (P := Tryz.prog) (n := 31) (k := 8) (l := [(162, Zq)]) (ol := []) ⟨ZY, trivial⟩ Tryz.func164 rfl (by kernel_rfl) Tryz.call164 trivial
def ZaG : Entry := .tree (ZS (envX Tryz.prog [(162, Zq)] [] 31 8) Tryz.f167)
theorem ZcC : Zc Tryz.prog 167 ZaG := Zak (P := Tryz.prog) (n := 31) (k := 8) (l := [(162, Zq)]) (ol := []) ⟨ZY, trivial⟩ Tryz.func167 rfl (by kernel_rfl) Tryz.call167 trivial
def Zat : Entry := .tree (ZS (envX Tryz.prog [(146, rOnE), (164, ZN), (169, Zf5)] [] 15 8) Tryz.f168)
theorem Zcm : Zc Tryz.prog 168 Zat := Zak (P := Tryz.prog) (n := 15) (k := 8) (l := [(146, rOnE), (164, ZN), (169, Zf5)]) (ol := []) ⟨Zeu, ZaU, Zly, trivial⟩ Tryz.func168 rfl (by kernel_rfl) Tryz.call168 trivial
def ZaM : Entry := .tree (ZS (envX Tryz.prog [(162, Zq)] [] 3 8) Tryz.f170)
theorem ZcT : Zc Tryz.prog 170 ZaM := Zak (P := Tryz.prog) (n := 3) (k := 8) (l := [(162, Zq)]) (ol := []) ⟨ZY, trivial⟩ Tryz.func170 rfl (by kernel_rfl) Tryz.call170 trivial
def Zbl : Entry := .tree (ZS (envX Tryz.prog [(105, Z8), (146, rOnE), (153, mAtE), (157, Zfs), (158, ZeS), (162, Zq), (163, Zkf), (164, ZN), (165, Zlw), (166, ZeO), (167, ZaG), (168, Zat), (169, Zf5), (170, ZaM), (171, ZDy), (172, Zkc)] [] 546879438939764547011187383507185256060619065560359097919357232620146805215141852592455017411118079 8) Tryz.f106)
theorem ZcD : Zc Tryz.prog 106 Zbl := Zak (P := Tryz.prog) (n := 546879438939764547011187383507185256060619065560359097919357232620146805215141852592455017411118079) (k := 8) (l := [(105, Z8), (146, rOnE), (153, mAtE), (157, Zfs), (158, ZeS), (162, Zq), (163, Zkf), (164, ZN), (165, Zlw), (166, ZeO), (167, ZaG), (168, Zat), (169, Zf5), (170, ZaM), (171, ZDy), (172, Zkc)]) (ol := []) ⟨Za8, Zeu, ZsZ, ZhI, Zgt, ZY, Zow, ZaU, ZqH, Zjv, ZcC, Zcm, Zly, ZcT, ZHO, Zgu, trivial⟩ Tryz.func106 rfl (by kernel_rfl) Tryz.call106 trivial
abbrev Zi : List Sh := [Sh.agg Z3, Sh.one (R.int i64), Sh.one (R.sl (R.int u8))]
abbrev ZD : Rs := Rs.tup [Sh.agg (RY), Sh.one R.bool]
def ZU (k : Int) : List (FuncId × Entry) := [(104, Zht), (105, Z8), (106, Zbl), (107, ZD3 k)]
theorem ZDG (k : Int) : Zc0 Tryz.prog (ZU k) := ⟨Zic, Za8, ZcD, (Zx5 k), trivial⟩
def ZpJ (c : TC) (s : Int) (g : List Int) : RT (Option (TY × Bool)) :=
 let x1 : QT1 := (c, s == 5, g, (0, 0, 0, 0, 0, 0, 0, 0), [])
 let x2 := qAtC x1 0
 let x3 := !x2 || (Za c.1 (qAt x1 0)).1 == 1
 let x4 : List TY := [] ++ [(12, pcOf c, 0, 6)] ++ [(5, u16.wrap ((spOf c) - 1), u8.wrap (shrI u16 (pcOf c) 8), 3)] ++ [(5, u16.wrap ((spOf c) - 2), u8.wrap (pcOf c), 3)]
 let x6 : QT6 := ((pcOf c), 0, 4)
 let x7 : List TY := [] ++ [(bif s == 5 then 8 else 1, x6)]
 let x9 : List TY := [] ++ [(1, x6)]
 .br (!x3 || x2) (.br (x3) (.br (Zd s) (fin3 g x4) (.br (iN (List.length g) == 0) (fin3 g x7) (fin3 g x9))) (.leaf none)) (.leaf none)
theorem ZAY (a : HL Zj) : Zg (envX Tryz.prog (ZW 1) [] 1125900980585471 8) Tryz.f113 Zj ZE a = ZpJ a.1 a.2.1 a.2.2 := by kernel_rfl
def ZpF (c : TC) (s : Int) (g : List Int) : RT (Option (TY × Bool)) :=
 let x1 : QT1 := (c, s == 5, g, (0, 0, 0, 0, 0, 0, 0, 0), [])
 let x2 := qAtC x1 0
 let x3 := Za c.1 (qAt x1 0)
 let x4 := !x2 || x3.1 == 5
 let x5 : QT6 := ((pcOf c), 0, 4)
 let x6 : List TY := [] ++ [(1, x5)]
 let x7 : List TY := [(9, pcOf c, 0, 3)]
 let x8 : List TY := bif s == 5 then x6 ++ x7 else x6 ++ [(2, u16.wrap ((pcOf c) + u16.wrap 1), 0, 3)]
 let x9 : List TY := bif s == 5 then x8 ++ x7 else x8 ++ [(2, u16.wrap ((pcOf c) + u16.wrap (i64.wrap (1 + 1))), 0, 3)]
 let x10 : QT1 := (c, s == 5, g, (5, x3.2), x9)
 let x11 : List TY := [] ++ [(12, pcOf c, 0, 6)] ++ [(5, u16.wrap ((spOf c) - 1), u8.wrap (shrI u16 (pcOf c) 8), 3)] ++ [(5, u16.wrap ((spOf c) - 2), u8.wrap (pcOf c), 3)]
 let x13 : List TY := [] ++ [(bif s == 5 then 8 else 1, x5)]
 let x15 : List TY := x9 ++ [(2, ZeW x10 1, 0, 3)]
 .br (!x4 || x2) (.br (x4) (.br (Zd s || (iN (List.length g) == 0 || Zb4 x10 1)) (.br (Zd s) (fin3 g x11) (.br (iN (List.length g) == 0) (fin3 g x13) (fin3 g x15))) (.leaf none)) (.leaf none)) (.leaf none)
theorem ZAU (a : HL Zj) : Zg (envX Tryz.prog (ZW 5) [] 1125900980585471 8) Tryz.f113 Zj ZE a = ZpF a.1 a.2.1 a.2.2 := by kernel_rfl
def ZpB (c : TC) (s : Int) (g : List Int) : RT (Option (TY × Bool)) :=
 let x1 : QT1 := (c, s == 5, g, (0, 0, 0, 0, 0, 0, 0, 0), [])
 let x2 := qAtC x1 0
 let x3 := Za c.1 (qAt x1 0)
 let x4 := !x2 || x3.1 == 9
 let x5 : List TY := [] ++ [(12, pcOf c, 0, 6)] ++ [(5, u16.wrap ((spOf c) - 1), u8.wrap (shrI u16 (pcOf c) 8), 3)] ++ [(5, u16.wrap ((spOf c) - 2), u8.wrap (pcOf c), 3)]
 let x7 : QT6 := ((pcOf c), 0, 4)
 let x8 : List TY := [] ++ [(bif s == 5 then 8 else 1, x7)]
 let x10 : List TY := [] ++ [(1, x7)]
 let x11 := x3.2
 let x12 : List TY := x10 ++ [(2, Zdb (c, s == 5, g, (9, x11), x10) x11.2.2.2.1, 0, 3)]
 .br (!x4 || x2) (.br (x4) (.br (Zd s) (fin3 g x5) (.br (iN (List.length g) == 0) (fin3 g x8) (fin3 g x12))) (.leaf none)) (.leaf none)
theorem ZAQ (a : HL Zj) : Zg (envX Tryz.prog (ZW 9) [] 1125900980585471 8) Tryz.f113 Zj ZE a = ZpB a.1 a.2.1 a.2.2 := by kernel_rfl
def Zk7 (c : TC) (s : Int) (g : List Int) : RT (Option (TY × Bool)) :=
 let x1 : QT1 := (c, s == 5, g, (0, 0, 0, 0, 0, 0, 0, 0), [])
 let x2 := qAtC x1 0
 let x3 := !x2 || (Za c.1 (qAt x1 0)).1 == 13
 let x4 : List TY := [] ++ [(12, pcOf c, 0, 6)] ++ [(5, u16.wrap ((spOf c) - 1), u8.wrap (shrI u16 (pcOf c) 8), 3)] ++ [(5, u16.wrap ((spOf c) - 2), u8.wrap (pcOf c), 3)]
 let x6 : QT6 := ((pcOf c), 0, 4)
 let x7 : List TY := [] ++ [(bif s == 5 then 8 else 1, x6)]
 let x9 : List TY := [] ++ [(1, x6)]
 let x10 : List TY := bif s == 5 then x9 ++ [(9, pcOf c, 0, 3)] else x9 ++ [(2, u16.wrap ((pcOf c) + u16.wrap 1), 0, 3)]
 .br (!x3 || x2) (.br (x3) (.br (Zd s) (fin3 g x4) (.br (iN (List.length g) == 0) (fin3 g x7) (fin3 g x10))) (.leaf none)) (.leaf none)
theorem Zv3 (a : HL Zj) : Zg (envX Tryz.prog (ZW 13) [] 1125900980585471 8) Tryz.f113 Zj ZE a = Zk7 a.1 a.2.1 a.2.2 := by kernel_rfl
def Zk3 (c : TC) (s : Int) (g : List Int) : RT (Option (TY × Bool)) :=
 let x1 : QT1 := (c, s == 5, g, (0, 0, 0, 0, 0, 0, 0, 0), [])
 let x2 := qAtC x1 0
 let x3 := !x2 || (Za c.1 (qAt x1 0)).1 == 17
 let x4 : List TY := [] ++ [(12, pcOf c, 0, 6)] ++ [(5, u16.wrap ((spOf c) - 1), u8.wrap (shrI u16 (pcOf c) 8), 3)] ++ [(5, u16.wrap ((spOf c) - 2), u8.wrap (pcOf c), 3)]
 let x6 : QT6 := ((pcOf c), 0, 4)
 let x7 : List TY := [] ++ [(bif s == 5 then 8 else 1, x6)]
 let x9 : List TY := [] ++ [(1, x6)]
 .br (!x3 || x2) (.br (x3) (.br (Zd s) (fin3 g x4) (.br (iN (List.length g) == 0) (fin3 g x7) (fin3 g x9))) (.leaf none)) (.leaf none)
theorem ZvZ (a : HL Zj) : Zg (envX Tryz.prog (ZW 17) [] 1125900980585471 8) Tryz.f113 Zj ZE a = Zk3 a.1 a.2.1 a.2.2 := by kernel_rfl
def ZkZ (c : TC) (s : Int) (g : List Int) : RT (Option (TY × Bool)) :=
 let x1 : QT1 := (c, s == 5, g, (0, 0, 0, 0, 0, 0, 0, 0), [])
 let x2 := qAtC x1 0
 let x3 := !x2 || (Za c.1 (qAt x1 0)).1 == 21
 let x4 : List TY := [] ++ [(12, pcOf c, 0, 6)] ++ [(5, u16.wrap ((spOf c) - 1), u8.wrap (shrI u16 (pcOf c) 8), 3)] ++ [(5, u16.wrap ((spOf c) - 2), u8.wrap (pcOf c), 3)]
 let x6 : QT6 := ((pcOf c), 0, 4)
 let x7 : List TY := [] ++ [(bif s == 5 then 8 else 1, x6)]
 let x9 : List TY := [] ++ [(1, x6)]
 .br (!x3 || x2) (.br (x3) (.br (Zd s) (fin3 g x4) (.br (iN (List.length g) == 0) (fin3 g x7) (fin3 g x9))) (.leaf none)) (.leaf none)
theorem ZvV (a : HL Zj) : Zg (envX Tryz.prog (ZW 21) [] 1125900980585471 8) Tryz.f113 Zj ZE a = ZkZ a.1 a.2.1 a.2.2 := by kernel_rfl
def ZkV (c : TC) (s : Int) (g : List Int) : RT (Option (TY × Bool)) :=
 let x1 : QT1 := (c, s == 5, g, (0, 0, 0, 0, 0, 0, 0, 0), [])
 let x2 := qAtC x1 0
 let x3 := Za c.1 (qAt x1 0)
 let x4 := !x2 || x3.1 == 25
 let x5 := u16.wrap ((spOf c) - 1)
 let x6 := u16.wrap ((spOf c) - 2)
 let x7 : List TY := [] ++ [(12, pcOf c, 0, 6)] ++ [(5, x5, u8.wrap (shrI u16 (pcOf c) 8), 3)] ++ [(5, x6, u8.wrap (pcOf c), 3)]
 let x9 : QT6 := ((pcOf c), 0, 4)
 let x10 : List TY := [] ++ [(bif s == 5 then 8 else 1, x9)]
 let x12 : QT4 := (25, x3.2)
 let x13 : List TY := [] ++ [(1, x9)]
 let x14 := ZfI (c, s == 5, g, x12, x13)
 let x15 : List TY := [(9, pcOf c, 0, 3)]
 let x16 : List TY := bif s == 5 then x13 ++ x15 else x13 ++ [(2, u16.wrap ((pcOf c) + u16.wrap 1), 0, 3)]
 let x17 : List TY := bif !x14 && c.1 == 2 then x16 else bif s == 5 then x16 ++ x15 else x16 ++ [(2, u16.wrap ((pcOf c) + u16.wrap (i64.wrap (1 + 1))), 0, 3)]
 let x18 := ZC (c, s == 5, g, x12, x17)
 let x19 : List TY := bif x14 then x17 ++ [(5, x5, u8.wrap (shrI u16 x18 8), 3)] ++ [(5, x6, u8.wrap x18, 3)] else x17
 .br (!x4 || x2) (.br (x4) (.br (Zd s) (fin3 g x7) (.br (iN (List.length g) == 0) (fin3 g x10) (fin3 g x19))) (.leaf none)) (.leaf none)
theorem ZvR (a : HL Zj) : Zg (envX Tryz.prog (ZW 25) [] 1125900980585471 8) Tryz.f113 Zj ZE a = ZkV a.1 a.2.1 a.2.2 := by kernel_rfl
def ZkR (c : TC) (s : Int) (g : List Int) : RT (Option (TY × Bool)) :=
 let x1 : QT1 := (c, s == 5, g, (0, 0, 0, 0, 0, 0, 0, 0), [])
 let x2 := qAtC x1 0
 let x3 := !x2 || (Za c.1 (qAt x1 0)).1 == 29
 let x4 : List TY := [] ++ [(12, pcOf c, 0, 6)] ++ [(5, u16.wrap ((spOf c) - 1), u8.wrap (shrI u16 (pcOf c) 8), 3)] ++ [(5, u16.wrap ((spOf c) - 2), u8.wrap (pcOf c), 3)]
 let x6 : QT6 := ((pcOf c), 0, 4)
 let x7 : List TY := [] ++ [(bif s == 5 then 8 else 1, x6)]
 let x9 : List TY := [] ++ [(1, x6)]
 .br (!x3 || x2) (.br (x3) (.br (Zd s) (fin3 g x4) (.br (iN (List.length g) == 0) (fin3 g x7) (fin3 g x9))) (.leaf none)) (.leaf none)
theorem ZvN (a : HL Zj) : Zg (envX Tryz.prog (ZW 29) [] 1125900980585471 8) Tryz.f113 Zj ZE a = ZkR a.1 a.2.1 a.2.2 := by kernel_rfl
def ZkN (c : TC) (s : Int) (g : List Int) : RT (Option (TY × Bool)) :=
 let x1 : QT1 := (c, s == 5, g, (0, 0, 0, 0, 0, 0, 0, 0), [])
 let x2 := qAtC x1 0
 let x3 := Za c.1 (qAt x1 0)
 let x4 := !x2 || x3.1 == 33
 let x5 : QT6 := ((pcOf c), 0, 4)
 let x6 : List TY := [] ++ [(1, x5)]
 let x7 : List TY := bif s == 5 then x6 ++ [(9, pcOf c, 0, 3)] else x6 ++ [(2, u16.wrap ((pcOf c) + u16.wrap 1), 0, 3)]
 let x8 : QT1 := (c, s == 5, g, (33, x3.2), x7)
 let x9 := qAtC x8 1
 let x10 := !x9 || x9
 let x11 := !x10 || x9
 let x12 := Zd s || (iN (List.length g) == 0 || (!x11 || x10))
 let x13 : List TY := [] ++ [(12, pcOf c, 0, 6)] ++ [(5, u16.wrap ((spOf c) - 1), u8.wrap (shrI u16 (pcOf c) 8), 3)] ++ [(5, u16.wrap ((spOf c) - 2), u8.wrap (pcOf c), 3)]
 let x15 : List TY := [] ++ [(bif s == 5 then 8 else 1, x5)]
 let x17 := qAt x8 1
 let x18 : List TY := x7 ++ [(6, Zb3 x17 x17, 0, 3)]
 .br (!x4 || x2) (.br (x4) (.br (!x12 || (Zd s || (iN (List.length g) == 0 || x11))) (.br (x12) (.br (Zd s) (fin3 g x13) (.br (iN (List.length g) == 0) (fin3 g x15) (fin3 g x18))) (.leaf none)) (.leaf none)) (.leaf none)) (.leaf none)
theorem ZvJ (a : HL Zj) : Zg (envX Tryz.prog (ZW 33) [] 1125900980585471 8) Tryz.f113 Zj ZE a = ZkN a.1 a.2.1 a.2.2 := by kernel_rfl
def ZkJ (c : TC) (s : Int) (g : List Int) : RT (Option (TY × Bool)) :=
 let x1 : QT1 := (c, s == 5, g, (0, 0, 0, 0, 0, 0, 0, 0), [])
 let x2 := qAtC x1 0
 let x3 := !x2 || (Za c.1 (qAt x1 0)).1 == 37
 let x4 : List TY := [] ++ [(12, pcOf c, 0, 6)] ++ [(5, u16.wrap ((spOf c) - 1), u8.wrap (shrI u16 (pcOf c) 8), 3)] ++ [(5, u16.wrap ((spOf c) - 2), u8.wrap (pcOf c), 3)]
 let x6 : QT6 := ((pcOf c), 0, 4)
 let x7 : List TY := [] ++ [(bif s == 5 then 8 else 1, x6)]
 let x9 : List TY := [] ++ [(1, x6)]
 let x10 : List TY := bif c.1 != 2 then x9 ++ [(10, pcOf c, 0, 3)] else x9
 .br (!x3 || x2) (.br (x3) (.br (Zd s) (fin3 g x4) (.br (iN (List.length g) == 0) (fin3 g x7) (fin3 g x10))) (.leaf none)) (.leaf none)
theorem ZvF (a : HL Zj) : Zg (envX Tryz.prog (ZW 37) [] 1125900980585471 8) Tryz.f113 Zj ZE a = ZkJ a.1 a.2.1 a.2.2 := by kernel_rfl
def ZkF (c : TC) (s : Int) (g : List Int) : RT (Option (TY × Bool)) :=
 let x1 : QT1 := (c, s == 5, g, (0, 0, 0, 0, 0, 0, 0, 0), [])
 let x2 := qAtC x1 0
 let x3 := !x2 || (Za c.1 (qAt x1 0)).1 == 41
 let x4 : List TY := [] ++ [(12, pcOf c, 0, 6)] ++ [(5, u16.wrap ((spOf c) - 1), u8.wrap (shrI u16 (pcOf c) 8), 3)] ++ [(5, u16.wrap ((spOf c) - 2), u8.wrap (pcOf c), 3)]
 let x6 : QT6 := ((pcOf c), 0, 4)
 let x7 : List TY := [] ++ [(bif s == 5 then 8 else 1, x6)]
 let x9 : List TY := [] ++ [(1, x6)] ++ [(11, pcOf c, 0, 3)]
 .br (!x3 || x2) (.br (x3) (.br (Zd s) (fin3 g x4) (.br (iN (List.length g) == 0) (fin3 g x7) (fin3 g x9))) (.leaf none)) (.leaf none)
theorem ZvB (a : HL Zj) : Zg (envX Tryz.prog (ZW 41) [] 1125900980585471 8) Tryz.f113 Zj ZE a = ZkF a.1 a.2.1 a.2.2 := by kernel_rfl
def ZkB (c : TC) (s : Int) (g : List Int) : RT (Option (TY × Bool)) :=
 let x1 : QT1 := (c, s == 5, g, (0, 0, 0, 0, 0, 0, 0, 0), [])
 let x2 := qAtC x1 0
 let x3 := Za c.1 (qAt x1 0)
 let x4 := !x2 || x3.1 == 45
 let x5 := u16.wrap ((spOf c) - 1)
 let x6 := u16.wrap ((spOf c) - 2)
 let x7 : List TY := [] ++ [(12, pcOf c, 0, 6)] ++ [(5, x5, u8.wrap (shrI u16 (pcOf c) 8), 3)] ++ [(5, x6, u8.wrap (pcOf c), 3)]
 let x9 : QT6 := ((pcOf c), 0, 4)
 let x10 : List TY := [] ++ [(bif s == 5 then 8 else 1, x9)]
 let x12 : List TY := [] ++ [(1, x9)]
 let x13 : QT1 := (c, s == 5, g, (45, x3.2), x12)
 let x14 := ZC x13
 let x15 : List TY := bif ZfI x13 then x12 ++ [(5, x5, u8.wrap (shrI u16 x14 8), 3)] ++ [(5, x6, u8.wrap x14, 3)] else x12
 .br (!x4 || x2) (.br (x4) (.br (Zd s) (fin3 g x7) (.br (iN (List.length g) == 0) (fin3 g x10) (fin3 g x15))) (.leaf none)) (.leaf none)
theorem Zvx (a : HL Zj) : Zg (envX Tryz.prog (ZW 45) [] 1125900980585471 8) Tryz.f113 Zj ZE a = ZkB a.1 a.2.1 a.2.2 := by kernel_rfl
def Zou (c : TC) (s : Int) (g : List Int) : RT (Option (TY × Bool)) :=
 let x1 : List TY := [(12, pcOf c, 0, 6)] ++ [(5, u16.wrap ((spOf c) - 1), u8.wrap (shrI u16 (pcOf c) 8), 3)] ++ [(5, u16.wrap ((spOf c) - 2), u8.wrap (pcOf c), 3)]
 let x3 : List TY := [(bif s == 5 then 8 else 1, pcOf c, 0, 4)]
 let x4 : List TY := x3 ++ [(2, Z7 c.2.1 2, 0, 3)]
 let x6 : List TY := x3 ++ [(3, Z7 c.2.1 2, rGet c.2.1 (Za c.1 (R.get (R.int u8) g 0)).2.2.2.1, 3)]
 let x8 : Nat := List.length x3
 let x9 := decide (iN (List.length g) ≥ iN x8)
 let x10 := Zf (iN (List.length g)) x8
 let x11 : TY × Bool := (R.get (RY) x3 (iN (List.length g)), true)
 .br (Zb s || (!decide (iN (List.length g) > 0) || (!Zf 0 (List.length g) || (Za c.1 (R.get (R.int u8) g 0)).1 == 2))) (.br (Zb s || (!decide (iN (List.length g) > 0) || Zf 0 (List.length g))) (.br (Zb s) (fin3 g x1) (.br (decide (iN (List.length g) > 0)) (.br ((Za c.1 (R.get (R.int u8) g 0)).2.2.2.1 == 6) (fin3 g x4) (.br ((Za c.1 (R.get (R.int u8) g 0)).2.2.1 == 6) (fin3 g x6) (.br (x9) (.leaf (some (((0, 0, 0, 0), false)))) (.br (x10) (.leaf (some (x11))) (.leaf none))))) (.br (x9) (.leaf (some (((0, 0, 0, 0), false)))) (.br (x10) (.leaf (some (x11))) (.leaf none))))) (.leaf none)) (.leaf none)
theorem ZzW (a : HL Zi) : Zg (envX Tryz.prog (ZU 2) [] 2047 8) Tryz.f42 Zi ZD a = Zou a.1 a.2.1 a.2.2 := by kernel_rfl
def Zoq (c : TC) (s : Int) (g : List Int) : RT (Option (TY × Bool)) :=
 let x1 : List TY := [(bif s == 5 then 8 else 1, pcOf c, 0, 4)]
 let x2 : List TY := [(9, pcOf c, 0, 3)]
 let x3 : List TY := x1 ++ x2
 let x4 : List TY := [(2, u16.wrap ((pcOf c) + u16.wrap (i64.wrap (1 + 1))), 0, 3)]
 let x5 : List TY := bif s == 5 then x3 ++ x2 else x3 ++ x4
 let x6 : QT3 := (c, s == 5, g, x5)
 let x7 := !s == 5 || ZbD x6 1
 let x8 : List TY := x1 ++ [(2, u16.wrap ((pcOf c) + u16.wrap 1), 0, 3)]
 let x9 : List TY := bif s == 5 then x8 ++ x2 else x8 ++ x4
 let x10 : QT3 := (c, s == 5, g, x9)
 let x11 : List TY := [(12, pcOf c, 0, 6)] ++ [(5, u16.wrap ((spOf c) - 1), u8.wrap (shrI u16 (pcOf c) 8), 3)] ++ [(5, u16.wrap ((spOf c) - 2), u8.wrap (pcOf c), 3)]
 let x13 : List TY := x5 ++ [(3, ZdD x6 1, c.2.1.1, 3)]
 let x15 : List TY := x9 ++ [(3, ZdD x10 1, c.2.1.1, 3)]
 .br (Zb s || (!decide (iN (List.length g) > 0) || (!Zf 0 (List.length g) || (!(Za c.1 (R.get (R.int u8) g 0)).1 == 6 || (!x7 || (s == 5 || ZbD x10 1)))))) (.br (Zb s || (!decide (iN (List.length g) > 0) || (!Zf 0 (List.length g) || (!(Za c.1 (R.get (R.int u8) g 0)).1 == 6 || x7)))) (.br (Zb s || (!decide (iN (List.length g) > 0) || (!Zf 0 (List.length g) || (Za c.1 (R.get (R.int u8) g 0)).1 == 6))) (.br (Zb s || (!decide (iN (List.length g) > 0) || Zf 0 (List.length g))) (.br (Zb s) (fin3 g x11) (.br (decide (iN (List.length g) > 0)) (.br (s == 5) (fin3 g x13) (fin3 g x15)) (fin3 g x1))) (.leaf none)) (.leaf none)) (.leaf none)) (.leaf none)
theorem ZzS (a : HL Zi) : Zg (envX Tryz.prog (ZU 6) [] 2047 8) Tryz.f42 Zi ZD a = Zoq a.1 a.2.1 a.2.2 := by kernel_rfl
def Zka (c : TC) (s : Int) (g : List Int) : RT (Option (TY × Bool)) :=
 let x1 : List TY := [(12, pcOf c, 0, 6)] ++ [(5, u16.wrap ((spOf c) - 1), u8.wrap (shrI u16 (pcOf c) 8), 3)] ++ [(5, u16.wrap ((spOf c) - 2), u8.wrap (pcOf c), 3)]
 let x3 : List TY := [(bif s == 5 then 8 else 1, pcOf c, 0, 4)]
 let x4 : List TY := x3 ++ [(3, Z7 c.2.1 (Za c.1 (R.get (R.int u8) g 0)).2.2.2.2.1, c.2.1.1, 3)]
 .br (Zb s || (!decide (iN (List.length g) > 0) || (!Zf 0 (List.length g) || (Za c.1 (R.get (R.int u8) g 0)).1 == 10))) (.br (Zb s || (!decide (iN (List.length g) > 0) || Zf 0 (List.length g))) (.br (Zb s) (fin3 g x1) (.br (decide (iN (List.length g) > 0)) (fin3 g x4) (fin3 g x3))) (.leaf none)) (.leaf none)
theorem ZuP (a : HL Zi) : Zg (envX Tryz.prog (ZU 10) [] 2047 8) Tryz.f42 Zi ZD a = Zka a.1 a.2.1 a.2.2 := by kernel_rfl
def Zj6 (c : TC) (s : Int) (g : List Int) : RT (Option (TY × Bool)) :=
 let x1 : List TY := [(bif s == 5 then 8 else 1, pcOf c, 0, 4)]
 let x2 : QT3 := (c, s == 5, g, x1)
 let x3 : List TY := [(12, pcOf c, 0, 6)] ++ [(5, u16.wrap ((spOf c) - 1), u8.wrap (shrI u16 (pcOf c) 8), 3)] ++ [(5, u16.wrap ((spOf c) - 2), u8.wrap (pcOf c), 3)]
 let x5 : List TY := x1 ++ [(2, Z7 c.2.1 2, 0, 3)] ++ [(3, Z7 c.2.1 2, (Zfp c (14, (Za c.1 (R.get (R.int u8) g 0)).2) (mAt x2 1)).1, 3)]
 let x7 : Nat := List.length x1
 let x8 := decide (iN (List.length g) ≥ iN x7)
 let x9 := Zf (iN (List.length g)) x7
 let x10 : TY × Bool := (R.get (RY) x1 (iN (List.length g)), true)
 .br (Zb s || (!decide (iN (List.length g) > 0) || (!Zf 0 (List.length g) || (!(Za c.1 (R.get (R.int u8) g 0)).1 == 14 || (!(Za c.1 (R.get (R.int u8) g 0)).2.2.1 == 6 || mAtC x2 1))))) (.br (Zb s || (!decide (iN (List.length g) > 0) || (!Zf 0 (List.length g) || (Za c.1 (R.get (R.int u8) g 0)).1 == 14))) (.br (Zb s || (!decide (iN (List.length g) > 0) || Zf 0 (List.length g))) (.br (Zb s) (fin3 g x3) (.br (decide (iN (List.length g) > 0)) (.br ((Za c.1 (R.get (R.int u8) g 0)).2.2.1 == 6) (fin3 g x5) (.br (x8) (.leaf (some (((0, 0, 0, 0), false)))) (.br (x9) (.leaf (some (x10))) (.leaf none)))) (.br (x8) (.leaf (some (((0, 0, 0, 0), false)))) (.br (x9) (.leaf (some (x10))) (.leaf none))))) (.leaf none)) (.leaf none)) (.leaf none)
theorem ZuL (a : HL Zi) : Zg (envX Tryz.prog (ZU 14) [] 2047 8) Tryz.f42 Zi ZD a = Zj6 a.1 a.2.1 a.2.2 := by kernel_rfl
def Zj2 (c : TC) (s : Int) (g : List Int) : RT (Option (TY × Bool)) :=
 let x1 : List TY := [(12, pcOf c, 0, 6)] ++ [(5, u16.wrap ((spOf c) - 1), u8.wrap (shrI u16 (pcOf c) 8), 3)] ++ [(5, u16.wrap ((spOf c) - 2), u8.wrap (pcOf c), 3)]
 let x3 : List TY := [(bif s == 5 then 8 else 1, pcOf c, 0, 4)]
 let x4 : List TY := [(11, pcOf c, 0, 3)]
 let x5 : List TY := x3 ++ x4 ++ x4
 .br (Zb s || (!decide (iN (List.length g) > 0) || (!Zf 0 (List.length g) || (Za c.1 (R.get (R.int u8) g 0)).1 == 18))) (.br (Zb s || (!decide (iN (List.length g) > 0) || Zf 0 (List.length g))) (.br (Zb s) (fin3 g x1) (.br (decide (iN (List.length g) > 0)) (fin3 g x5) (fin3 g x3))) (.leaf none)) (.leaf none)
theorem ZuH (a : HL Zi) : Zg (envX Tryz.prog (ZU 18) [] 2047 8) Tryz.f42 Zi ZD a = Zj2 a.1 a.2.1 a.2.2 := by kernel_rfl
def ZjY (c : TC) (s : Int) (g : List Int) : RT (Option (TY × Bool)) :=
 let x1 : List TY := [(12, pcOf c, 0, 6)] ++ [(5, u16.wrap ((spOf c) - 1), u8.wrap (shrI u16 (pcOf c) 8), 3)] ++ [(5, u16.wrap ((spOf c) - 2), u8.wrap (pcOf c), 3)]
 let x3 : List TY := [(bif s == 5 then 8 else 1, pcOf c, 0, 4)]
 .br (Zb s || (!decide (iN (List.length g) > 0) || (!Zf 0 (List.length g) || (Za c.1 (R.get (R.int u8) g 0)).1 == 22))) (.br (Zb s || (!decide (iN (List.length g) > 0) || Zf 0 (List.length g))) (.br (Zb s) (fin3 g x1) (fin3 g x3)) (.leaf none)) (.leaf none)
theorem ZuD (a : HL Zi) : Zg (envX Tryz.prog (ZU 22) [] 2047 8) Tryz.f42 Zi ZD a = ZjY a.1 a.2.1 a.2.2 := by kernel_rfl
def ZjU (c : TC) (s : Int) (g : List Int) : RT (Option (TY × Bool)) :=
 let x1 : List TY := [(12, pcOf c, 0, 6)] ++ [(5, u16.wrap ((spOf c) - 1), u8.wrap (shrI u16 (pcOf c) 8), 3)] ++ [(5, u16.wrap ((spOf c) - 2), u8.wrap (pcOf c), 3)]
 let x3 : List TY := [(bif s == 5 then 8 else 1, pcOf c, 0, 4)]
 let x4 : List TY := x3 ++ [(4, spOf c, 0, 3)] ++ [(4, u16.wrap ((spOf c) + 1), 0, 3)]
 let x6 : Nat := List.length x3
 let x7 := decide (iN (List.length g) ≥ iN x6)
 let x8 := Zf (iN (List.length g)) x6
 let x9 : TY × Bool := (R.get (RY) x3 (iN (List.length g)), true)
 .br (Zb s || (!decide (iN (List.length g) > 0) || (!Zf 0 (List.length g) || (Za c.1 (R.get (R.int u8) g 0)).1 == 26))) (.br (Zb s || (!decide (iN (List.length g) > 0) || Zf 0 (List.length g))) (.br (Zb s) (fin3 g x1) (.br (decide (iN (List.length g) > 0)) (.br (Zdx (c, s == 5, g, x3) (26, (Za c.1 (R.get (R.int u8) g 0)).2)) (fin3 g x4) (.br (x7) (.leaf (some (((0, 0, 0, 0), false)))) (.br (x8) (.leaf (some (x9))) (.leaf none)))) (.br (x7) (.leaf (some (((0, 0, 0, 0), false)))) (.br (x8) (.leaf (some (x9))) (.leaf none))))) (.leaf none)) (.leaf none)
theorem Zuz (a : HL Zi) : Zg (envX Tryz.prog (ZU 26) [] 2047 8) Tryz.f42 Zi ZD a = ZjU a.1 a.2.1 a.2.2 := by kernel_rfl
def ZjQ (c : TC) (s : Int) (g : List Int) : RT (Option (TY × Bool)) :=
 let x1 := u16.wrap ((spOf c) - 1)
 let x2 := u16.wrap ((spOf c) - 2)
 let x3 : List TY := [(12, pcOf c, 0, 6)] ++ [(5, x1, u8.wrap (shrI u16 (pcOf c) 8), 3)] ++ [(5, x2, u8.wrap (pcOf c), 3)]
 let x5 : List TY := [(bif s == 5 then 8 else 1, pcOf c, 0, 4)]
 let x6 : Int := bif (Za c.1 (R.get (R.int u8) g 0)).2.2.2.2.1 == 3 then rPSW c.1 c.2.1 else Z7 c.2.1 (Za c.1 (R.get (R.int u8) g 0)).2.2.2.2.1
 let x7 : List TY := x5 ++ [(5, x1, u8.wrap (shrI u16 x6 8), 3)] ++ [(5, x2, u8.wrap x6, 3)]
 .br (Zb s || (!decide (iN (List.length g) > 0) || (!Zf 0 (List.length g) || (Za c.1 (R.get (R.int u8) g 0)).1 == 30))) (.br (Zb s || (!decide (iN (List.length g) > 0) || Zf 0 (List.length g))) (.br (Zb s) (fin3 g x3) (.br (decide (iN (List.length g) > 0)) (fin3 g x7) (fin3 g x5))) (.leaf none)) (.leaf none)
theorem Zuv (a : HL Zi) : Zg (envX Tryz.prog (ZU 30) [] 2047 8) Tryz.f42 Zi ZD a = ZjQ a.1 a.2.1 a.2.2 := by kernel_rfl
def ZjM (c : TC) (s : Int) (g : List Int) : RT (Option (TY × Bool)) :=
 let x1 : List TY := [(bif s == 5 then 8 else 1, pcOf c, 0, 4)]
 let x2 : List TY := x1 ++ [(9, pcOf c, 0, 3)]
 let x3 : QT3 := (c, s == 5, g, x2)
 let x4 := mAtC x3 1
 let x5 := !x4 || x4
 let x6 := !s == 5 || (!x5 || x4)
 let x7 := !x6
 let x8 := !s == 5 || x5
 let x9 := !x8
 let x10 : List TY := x1 ++ [(2, u16.wrap ((pcOf c) + u16.wrap 1), 0, 3)]
 let x11 : QT3 := (c, s == 5, g, x10)
 let x12 := mAtC x11 1
 let x13 := !x12 || x12
 let x14 := s == 5 || (!x13 || x12)
 let x15 : List TY := [(12, pcOf c, 0, 6)] ++ [(5, u16.wrap ((spOf c) - 1), u8.wrap (shrI u16 (pcOf c) 8), 3)] ++ [(5, u16.wrap ((spOf c) - 2), u8.wrap (pcOf c), 3)]
 let x17 := mAt x3 1
 let x18 : List TY := x2 ++ [(7, Zb3 x17 x17, c.2.1.1, 3)]
 let x20 := mAt x11 1
 let x21 : List TY := x10 ++ [(7, Zb3 x20 x20, c.2.1.1, 3)]
 .br (Zb s || (!decide (iN (List.length g) > 0) || (!Zf 0 (List.length g) || (!(Za c.1 (R.get (R.int u8) g 0)).1 == 34 || (x7 || (x9 || (!x14 || (s == 5 || x13)))))))) (.br (Zb s || (!decide (iN (List.length g) > 0) || (!Zf 0 (List.length g) || (!(Za c.1 (R.get (R.int u8) g 0)).1 == 34 || (x7 || (x9 || x14)))))) (.br (Zb s || (!decide (iN (List.length g) > 0) || (!Zf 0 (List.length g) || (!(Za c.1 (R.get (R.int u8) g 0)).1 == 34 || (x7 || x8))))) (.br (Zb s || (!decide (iN (List.length g) > 0) || (!Zf 0 (List.length g) || (!(Za c.1 (R.get (R.int u8) g 0)).1 == 34 || x6)))) (.br (Zb s || (!decide (iN (List.length g) > 0) || (!Zf 0 (List.length g) || (Za c.1 (R.get (R.int u8) g 0)).1 == 34))) (.br (Zb s || (!decide (iN (List.length g) > 0) || Zf 0 (List.length g))) (.br (Zb s) (fin3 g x15) (.br (decide (iN (List.length g) > 0)) (.br (s == 5) (fin3 g x18) (fin3 g x21)) (fin3 g x1))) (.leaf none)) (.leaf none)) (.leaf none)) (.leaf none)) (.leaf none)) (.leaf none)
theorem Zur (a : HL Zi) : Zg (envX Tryz.prog (ZU 34) [] 2047 8) Tryz.f42 Zi ZD a = ZjM a.1 a.2.1 a.2.2 := by kernel_rfl
def ZjI (c : TC) (s : Int) (g : List Int) : RT (Option (TY × Bool)) :=
 let x1 : List TY := [(12, pcOf c, 0, 6)] ++ [(5, u16.wrap ((spOf c) - 1), u8.wrap (shrI u16 (pcOf c) 8), 3)] ++ [(5, u16.wrap ((spOf c) - 2), u8.wrap (pcOf c), 3)]
 let x3 : List TY := [(bif s == 5 then 8 else 1, pcOf c, 0, 4)]
 .br (Zb s || (!decide (iN (List.length g) > 0) || (!Zf 0 (List.length g) || (Za c.1 (R.get (R.int u8) g 0)).1 == 38))) (.br (Zb s || (!decide (iN (List.length g) > 0) || Zf 0 (List.length g))) (.br (Zb s) (fin3 g x1) (fin3 g x3)) (.leaf none)) (.leaf none)
theorem Zun (a : HL Zi) : Zg (envX Tryz.prog (ZU 38) [] 2047 8) Tryz.f42 Zi ZD a = ZjI a.1 a.2.1 a.2.2 := by kernel_rfl
def ZjE (c : TC) (s : Int) (g : List Int) : RT (Option (TY × Bool)) :=
 let x1 : List TY := [(12, pcOf c, 0, 6)] ++ [(5, u16.wrap ((spOf c) - 1), u8.wrap (shrI u16 (pcOf c) 8), 3)] ++ [(5, u16.wrap ((spOf c) - 2), u8.wrap (pcOf c), 3)]
 let x3 : List TY := [(bif s == 5 then 8 else 1, pcOf c, 0, 4)]
 let x4 : List TY := [(11, pcOf c, 0, 3)]
 let x5 : List TY := x3 ++ x4 ++ x4
 .br (Zb s || (!decide (iN (List.length g) > 0) || (!Zf 0 (List.length g) || (Za c.1 (R.get (R.int u8) g 0)).1 == 42))) (.br (Zb s || (!decide (iN (List.length g) > 0) || Zf 0 (List.length g))) (.br (Zb s) (fin3 g x1) (.br (decide (iN (List.length g) > 0)) (fin3 g x5) (fin3 g x3))) (.leaf none)) (.leaf none)
theorem Zuj (a : HL Zi) : Zg (envX Tryz.prog (ZU 42) [] 2047 8) Tryz.f42 Zi ZD a = ZjE a.1 a.2.1 a.2.2 := by kernel_rfl
def ZjA (c : TC) (s : Int) (g : List Int) : RT (Option (TY × Bool)) :=
 let x1 : List TY := [(12, pcOf c, 0, 6)] ++ [(5, u16.wrap ((spOf c) - 1), u8.wrap (shrI u16 (pcOf c) 8), 3)] ++ [(5, u16.wrap ((spOf c) - 2), u8.wrap (pcOf c), 3)]
 let x3 : List TY := [(bif s == 5 then 8 else 1, pcOf c, 0, 4)]
 let x4 : List TY := x3 ++ [(3, Z7 c.2.1 1, c.2.1.2.2.2.2.2.2.1, 3)] ++ [(3, u16.wrap (Z7 c.2.1 1 + 1), c.2.1.2.2.2.2.2.1, 3)]
 .br (Zb s || (!decide (iN (List.length g) > 0) || (!Zf 0 (List.length g) || (Za c.1 (R.get (R.int u8) g 0)).1 == 46))) (.br (Zb s || (!decide (iN (List.length g) > 0) || Zf 0 (List.length g))) (.br (Zb s) (fin3 g x1) (.br (decide (iN (List.length g) > 0)) (fin3 g x4) (fin3 g x3))) (.leaf none)) (.leaf none)
theorem Zuf (a : HL Zi) : Zg (envX Tryz.prog (ZU 46) [] 2047 8) Tryz.f42 Zi ZD a = ZjA a.1 a.2.1 a.2.2 := by kernel_rfl
def ZpI (c : TC) (s : Int) (g : List Int) : RT (Option (TY × Bool)) :=
 let x1 : QT1 := (c, s == 5, g, (0, 0, 0, 0, 0, 0, 0, 0), [])
 let x2 := qAtC x1 0
 let x3 := Za c.1 (qAt x1 0)
 let x4 := !x2 || x3.1 == 2
 let x5 : List TY := [] ++ [(12, pcOf c, 0, 6)] ++ [(5, u16.wrap ((spOf c) - 1), u8.wrap (shrI u16 (pcOf c) 8), 3)] ++ [(5, u16.wrap ((spOf c) - 2), u8.wrap (pcOf c), 3)]
 let x7 : QT6 := ((pcOf c), 0, 4)
 let x8 : List TY := [] ++ [(bif s == 5 then 8 else 1, x7)]
 let x10 := x3.2
 let x11 := x10.2
 let x12 := x11.2.1
 let x13 : List TY := [] ++ [(1, x7)]
 let x14 : QT1 := (c, s == 5, g, (2, x10), x13)
 let x15 := Zdb x14 2
 let x16 : List TY := bif x12 == 6 then x13 ++ [(2, x15, 0, 3)] else bif x11.1 == 6 then x13 ++ [(3, x15, qReg x14 x12, 3)] else x13
 .br (!x4 || x2) (.br (x4) (.br (Zd s) (fin3 g x5) (.br (iN (List.length g) == 0) (fin3 g x8) (fin3 g x16))) (.leaf none)) (.leaf none)
theorem ZAX (a : HL Zj) : Zg (envX Tryz.prog (ZW 2) [] 1125900980585471 8) Tryz.f113 Zj ZE a = ZpI a.1 a.2.1 a.2.2 := by kernel_rfl
def ZpE (c : TC) (s : Int) (g : List Int) : RT (Option (TY × Bool)) :=
 let x1 : QT1 := (c, s == 5, g, (0, 0, 0, 0, 0, 0, 0, 0), [])
 let x2 := qAtC x1 0
 let x3 := Za c.1 (qAt x1 0)
 let x4 := !x2 || x3.1 == 6
 let x5 : QT6 := ((pcOf c), 0, 4)
 let x6 : List TY := [] ++ [(1, x5)]
 let x7 : List TY := [(9, pcOf c, 0, 3)]
 let x8 : List TY := bif s == 5 then x6 ++ x7 else x6 ++ [(2, u16.wrap ((pcOf c) + u16.wrap 1), 0, 3)]
 let x9 : List TY := bif s == 5 then x8 ++ x7 else x8 ++ [(2, u16.wrap ((pcOf c) + u16.wrap (i64.wrap (1 + 1))), 0, 3)]
 let x10 : QT1 := (c, s == 5, g, (6, x3.2), x9)
 let x11 : List TY := [] ++ [(12, pcOf c, 0, 6)] ++ [(5, u16.wrap ((spOf c) - 1), u8.wrap (shrI u16 (pcOf c) 8), 3)] ++ [(5, u16.wrap ((spOf c) - 2), u8.wrap (pcOf c), 3)]
 let x13 : List TY := [] ++ [(bif s == 5 then 8 else 1, x5)]
 let x15 : List TY := x9 ++ [(3, ZeW x10 1, c.2.1.1, 3)]
 .br (!x4 || x2) (.br (x4) (.br (Zd s || (iN (List.length g) == 0 || Zb4 x10 1)) (.br (Zd s) (fin3 g x11) (.br (iN (List.length g) == 0) (fin3 g x13) (fin3 g x15))) (.leaf none)) (.leaf none)) (.leaf none)
theorem ZAT (a : HL Zj) : Zg (envX Tryz.prog (ZW 6) [] 1125900980585471 8) Tryz.f113 Zj ZE a = ZpE a.1 a.2.1 a.2.2 := by kernel_rfl
def Zla (c : TC) (s : Int) (g : List Int) : RT (Option (TY × Bool)) :=
 let x1 : QT1 := (c, s == 5, g, (0, 0, 0, 0, 0, 0, 0, 0), [])
 let x2 := qAtC x1 0
 let x3 := Za c.1 (qAt x1 0)
 let x4 := !x2 || x3.1 == 10
 let x5 : List TY := [] ++ [(12, pcOf c, 0, 6)] ++ [(5, u16.wrap ((spOf c) - 1), u8.wrap (shrI u16 (pcOf c) 8), 3)] ++ [(5, u16.wrap ((spOf c) - 2), u8.wrap (pcOf c), 3)]
 let x7 : QT6 := ((pcOf c), 0, 4)
 let x8 : List TY := [] ++ [(bif s == 5 then 8 else 1, x7)]
 let x10 : List TY := [] ++ [(1, x7)]
 let x11 := x3.2
 let x12 : List TY := x10 ++ [(3, Zdb (c, s == 5, g, (10, x11), x10) x11.2.2.2.1, c.2.1.1, 3)]
 .br (!x4 || x2) (.br (x4) (.br (Zd s) (fin3 g x5) (.br (iN (List.length g) == 0) (fin3 g x8) (fin3 g x12))) (.leaf none)) (.leaf none)
theorem Zv6 (a : HL Zj) : Zg (envX Tryz.prog (ZW 10) [] 1125900980585471 8) Tryz.f113 Zj ZE a = Zla a.1 a.2.1 a.2.2 := by kernel_rfl
def Zk6 (c : TC) (s : Int) (g : List Int) : RT (Option (TY × Bool)) :=
 let x1 : QT1 := (c, s == 5, g, (0, 0, 0, 0, 0, 0, 0, 0), [])
 let x2 := qAtC x1 0
 let x3 := Za c.1 (qAt x1 0)
 let x4 := !x2 || x3.1 == 14
 let x5 := x3.2
 let x6 := x5.2.1 == 6
 let x7 : QT4 := (14, x5)
 let x8 : QT6 := ((pcOf c), 0, 4)
 let x9 : List TY := [] ++ [(1, x8)]
 let x10 := Zdb (c, s == 5, g, x7, x9) 2
 let x11 : List TY := x9 ++ [(2, x10, 0, 3)]
 let x12 : QT1 := (c, s == 5, g, x7, x11)
 let x13 : List TY := [] ++ [(12, pcOf c, 0, 6)] ++ [(5, u16.wrap ((spOf c) - 1), u8.wrap (shrI u16 (pcOf c) 8), 3)] ++ [(5, u16.wrap ((spOf c) - 2), u8.wrap (pcOf c), 3)]
 let x15 : List TY := [] ++ [(bif s == 5 then 8 else 1, x8)]
 let x17 : List TY := bif x6 then x11 ++ [(3, x10, ZgD x12, 3)] else x9
 .br (!x4 || x2) (.br (x4) (.br (Zd s || (iN (List.length g) == 0 || (!x6 || ZeX x12))) (.br (Zd s) (fin3 g x13) (.br (iN (List.length g) == 0) (fin3 g x15) (fin3 g x17))) (.leaf none)) (.leaf none)) (.leaf none)
theorem Zv2 (a : HL Zj) : Zg (envX Tryz.prog (ZW 14) [] 1125900980585471 8) Tryz.f113 Zj ZE a = Zk6 a.1 a.2.1 a.2.2 := by kernel_rfl
def Zk2 (c : TC) (s : Int) (g : List Int) : RT (Option (TY × Bool)) :=
 let x1 : QT1 := (c, s == 5, g, (0, 0, 0, 0, 0, 0, 0, 0), [])
 let x2 := qAtC x1 0
 let x3 := !x2 || (Za c.1 (qAt x1 0)).1 == 18
 let x4 : List TY := [] ++ [(12, pcOf c, 0, 6)] ++ [(5, u16.wrap ((spOf c) - 1), u8.wrap (shrI u16 (pcOf c) 8), 3)] ++ [(5, u16.wrap ((spOf c) - 2), u8.wrap (pcOf c), 3)]
 let x6 : QT6 := ((pcOf c), 0, 4)
 let x7 : List TY := [] ++ [(bif s == 5 then 8 else 1, x6)]
 let x9 : List TY := [(11, pcOf c, 0, 3)]
 let x10 : List TY := [] ++ [(1, x6)] ++ x9 ++ x9
 .br (!x3 || x2) (.br (x3) (.br (Zd s) (fin3 g x4) (.br (iN (List.length g) == 0) (fin3 g x7) (fin3 g x10))) (.leaf none)) (.leaf none)
theorem ZvY (a : HL Zj) : Zg (envX Tryz.prog (ZW 18) [] 1125900980585471 8) Tryz.f113 Zj ZE a = Zk2 a.1 a.2.1 a.2.2 := by kernel_rfl
def ZkY (c : TC) (s : Int) (g : List Int) : RT (Option (TY × Bool)) :=
 let x1 : QT1 := (c, s == 5, g, (0, 0, 0, 0, 0, 0, 0, 0), [])
 let x2 := qAtC x1 0
 let x3 := !x2 || (Za c.1 (qAt x1 0)).1 == 22
 let x4 : List TY := [] ++ [(12, pcOf c, 0, 6)] ++ [(5, u16.wrap ((spOf c) - 1), u8.wrap (shrI u16 (pcOf c) 8), 3)] ++ [(5, u16.wrap ((spOf c) - 2), u8.wrap (pcOf c), 3)]
 let x6 : QT6 := ((pcOf c), 0, 4)
 let x7 : List TY := [] ++ [(bif s == 5 then 8 else 1, x6)]
 let x9 : List TY := [] ++ [(1, x6)]
 .br (!x3 || x2) (.br (x3) (.br (Zd s) (fin3 g x4) (.br (iN (List.length g) == 0) (fin3 g x7) (fin3 g x9))) (.leaf none)) (.leaf none)
theorem ZvU (a : HL Zj) : Zg (envX Tryz.prog (ZW 22) [] 1125900980585471 8) Tryz.f113 Zj ZE a = ZkY a.1 a.2.1 a.2.2 := by kernel_rfl
def ZkU (c : TC) (s : Int) (g : List Int) : RT (Option (TY × Bool)) :=
 let x1 : QT1 := (c, s == 5, g, (0, 0, 0, 0, 0, 0, 0, 0), [])
 let x2 := qAtC x1 0
 let x3 := Za c.1 (qAt x1 0)
 let x4 := !x2 || x3.1 == 26
 let x5 : List TY := [] ++ [(12, pcOf c, 0, 6)] ++ [(5, u16.wrap ((spOf c) - 1), u8.wrap (shrI u16 (pcOf c) 8), 3)] ++ [(5, u16.wrap ((spOf c) - 2), u8.wrap (pcOf c), 3)]
 let x7 : QT6 := ((pcOf c), 0, 4)
 let x8 : List TY := [] ++ [(bif s == 5 then 8 else 1, x7)]
 let x10 : List TY := [] ++ [(1, x7)]
 let x11 : List TY := bif ZfI (c, s == 5, g, (26, x3.2), x10) then x10 ++ [(4, spOf c, 0, 3)] ++ [(4, u16.wrap ((spOf c) + 1), 0, 3)] else x10
 .br (!x4 || x2) (.br (x4) (.br (Zd s) (fin3 g x5) (.br (iN (List.length g) == 0) (fin3 g x8) (fin3 g x11))) (.leaf none)) (.leaf none)
theorem ZvQ (a : HL Zj) : Zg (envX Tryz.prog (ZW 26) [] 1125900980585471 8) Tryz.f113 Zj ZE a = ZkU a.1 a.2.1 a.2.2 := by kernel_rfl
def ZkQ (c : TC) (s : Int) (g : List Int) : RT (Option (TY × Bool)) :=
 let x1 : QT1 := (c, s == 5, g, (0, 0, 0, 0, 0, 0, 0, 0), [])
 let x2 := qAtC x1 0
 let x3 := Za c.1 (qAt x1 0)
 let x4 := !x2 || x3.1 == 30
 let x5 := u16.wrap ((spOf c) - 1)
 let x6 := u16.wrap ((spOf c) - 2)
 let x7 : List TY := [] ++ [(12, pcOf c, 0, 6)] ++ [(5, x5, u8.wrap (shrI u16 (pcOf c) 8), 3)] ++ [(5, x6, u8.wrap (pcOf c), 3)]
 let x9 : QT6 := ((pcOf c), 0, 4)
 let x10 : List TY := [] ++ [(bif s == 5 then 8 else 1, x9)]
 let x12 : List TY := [] ++ [(1, x9)]
 let x13 := x3.2
 let x14 := x13.2.2.2.1
 let x15 : Int := bif x14 == 3 then rPSW c.1 c.2.1 else Zdb (c, s == 5, g, (30, x13), x12) x14
 let x16 : List TY := x12 ++ [(5, x5, u8.wrap (shrI u16 x15 8), 3)] ++ [(5, x6, u8.wrap x15, 3)]
 .br (!x4 || x2) (.br (x4) (.br (Zd s) (fin3 g x7) (.br (iN (List.length g) == 0) (fin3 g x10) (fin3 g x16))) (.leaf none)) (.leaf none)
theorem ZvM (a : HL Zj) : Zg (envX Tryz.prog (ZW 30) [] 1125900980585471 8) Tryz.f113 Zj ZE a = ZkQ a.1 a.2.1 a.2.2 := by kernel_rfl
def ZkM (c : TC) (s : Int) (g : List Int) : RT (Option (TY × Bool)) :=
 let x1 : QT1 := (c, s == 5, g, (0, 0, 0, 0, 0, 0, 0, 0), [])
 let x2 := qAtC x1 0
 let x3 := Za c.1 (qAt x1 0)
 let x4 := !x2 || x3.1 == 34
 let x5 : QT6 := ((pcOf c), 0, 4)
 let x6 : List TY := [] ++ [(1, x5)]
 let x7 : List TY := bif s == 5 then x6 ++ [(9, pcOf c, 0, 3)] else x6 ++ [(2, u16.wrap ((pcOf c) + u16.wrap 1), 0, 3)]
 let x8 : QT1 := (c, s == 5, g, (34, x3.2), x7)
 let x9 := qAtC x8 1
 let x10 := !x9 || x9
 let x11 := !x10 || x9
 let x12 := Zd s || (iN (List.length g) == 0 || (!x11 || x10))
 let x13 : List TY := [] ++ [(12, pcOf c, 0, 6)] ++ [(5, u16.wrap ((spOf c) - 1), u8.wrap (shrI u16 (pcOf c) 8), 3)] ++ [(5, u16.wrap ((spOf c) - 2), u8.wrap (pcOf c), 3)]
 let x15 : List TY := [] ++ [(bif s == 5 then 8 else 1, x5)]
 let x17 := qAt x8 1
 let x18 : List TY := x7 ++ [(7, Zb3 x17 x17, c.2.1.1, 3)]
 .br (!x4 || x2) (.br (x4) (.br (!x12 || (Zd s || (iN (List.length g) == 0 || x11))) (.br (x12) (.br (Zd s) (fin3 g x13) (.br (iN (List.length g) == 0) (fin3 g x15) (fin3 g x18))) (.leaf none)) (.leaf none)) (.leaf none)) (.leaf none)
theorem ZvI (a : HL Zj) : Zg (envX Tryz.prog (ZW 34) [] 1125900980585471 8) Tryz.f113 Zj ZE a = ZkM a.1 a.2.1 a.2.2 := by kernel_rfl
def ZkI (c : TC) (s : Int) (g : List Int) : RT (Option (TY × Bool)) :=
 let x1 : QT1 := (c, s == 5, g, (0, 0, 0, 0, 0, 0, 0, 0), [])
 let x2 := qAtC x1 0
 let x3 := !x2 || (Za c.1 (qAt x1 0)).1 == 38
 let x4 : List TY := [] ++ [(12, pcOf c, 0, 6)] ++ [(5, u16.wrap ((spOf c) - 1), u8.wrap (shrI u16 (pcOf c) 8), 3)] ++ [(5, u16.wrap ((spOf c) - 2), u8.wrap (pcOf c), 3)]
 let x6 : QT6 := ((pcOf c), 0, 4)
 let x7 : List TY := [] ++ [(bif s == 5 then 8 else 1, x6)]
 let x9 : List TY := [] ++ [(1, x6)]
 .br (!x3 || x2) (.br (x3) (.br (Zd s) (fin3 g x4) (.br (iN (List.length g) == 0) (fin3 g x7) (fin3 g x9))) (.leaf none)) (.leaf none)
theorem ZvE (a : HL Zj) : Zg (envX Tryz.prog (ZW 38) [] 1125900980585471 8) Tryz.f113 Zj ZE a = ZkI a.1 a.2.1 a.2.2 := by kernel_rfl
def ZkE (c : TC) (s : Int) (g : List Int) : RT (Option (TY × Bool)) :=
 let x1 : QT1 := (c, s == 5, g, (0, 0, 0, 0, 0, 0, 0, 0), [])
 let x2 := qAtC x1 0
 let x3 := !x2 || (Za c.1 (qAt x1 0)).1 == 42
 let x4 : List TY := [] ++ [(12, pcOf c, 0, 6)] ++ [(5, u16.wrap ((spOf c) - 1), u8.wrap (shrI u16 (pcOf c) 8), 3)] ++ [(5, u16.wrap ((spOf c) - 2), u8.wrap (pcOf c), 3)]
 let x6 : QT6 := ((pcOf c), 0, 4)
 let x7 : List TY := [] ++ [(bif s == 5 then 8 else 1, x6)]
 let x9 : List TY := [(11, pcOf c, 0, 3)]
 let x10 : List TY := [] ++ [(1, x6)] ++ x9 ++ x9
 .br (!x3 || x2) (.br (x3) (.br (Zd s) (fin3 g x4) (.br (iN (List.length g) == 0) (fin3 g x7) (fin3 g x10))) (.leaf none)) (.leaf none)
theorem ZvA (a : HL Zj) : Zg (envX Tryz.prog (ZW 42) [] 1125900980585471 8) Tryz.f113 Zj ZE a = ZkE a.1 a.2.1 a.2.2 := by kernel_rfl
def ZkA (c : TC) (s : Int) (g : List Int) : RT (Option (TY × Bool)) :=
 let x1 : QT1 := (c, s == 5, g, (0, 0, 0, 0, 0, 0, 0, 0), [])
 let x2 := qAtC x1 0
 let x3 := Za c.1 (qAt x1 0)
 let x4 := !x2 || x3.1 == 46
 let x5 : List TY := [] ++ [(12, pcOf c, 0, 6)] ++ [(5, u16.wrap ((spOf c) - 1), u8.wrap (shrI u16 (pcOf c) 8), 3)] ++ [(5, u16.wrap ((spOf c) - 2), u8.wrap (pcOf c), 3)]
 let x7 : QT6 := ((pcOf c), 0, 4)
 let x8 : List TY := [] ++ [(bif s == 5 then 8 else 1, x7)]
 let x10 : List TY := [] ++ [(1, x7)]
 let x11 := Zdb (c, s == 5, g, (46, x3.2), x10) 1
 let x12 : List TY := x10 ++ [(3, x11, c.2.1.2.2.2.2.2.2.1, 3)] ++ [(3, u16.wrap (x11 + 1), c.2.1.2.2.2.2.2.1, 3)]
 .br (!x4 || x2) (.br (x4) (.br (Zd s) (fin3 g x5) (.br (iN (List.length g) == 0) (fin3 g x8) (fin3 g x12))) (.leaf none)) (.leaf none)
theorem Zvw (a : HL Zj) : Zg (envX Tryz.prog (ZW 46) [] 1125900980585471 8) Tryz.f113 Zj ZE a = ZkA a.1 a.2.1 a.2.2 := by kernel_rfl
def Zot (c : TC) (s : Int) (g : List Int) : RT (Option (TY × Bool)) :=
 let x1 := !(Za c.1 (R.get (R.int u8) g 0)).2.2.1 == 6
 let x2 : List TY := [(bif s == 5 then 8 else 1, pcOf c, 0, 4)]
 let x3 : List TY := x2 ++ [(9, pcOf c, 0, 3)]
 let x4 : QT3 := (c, s == 5, g, x3)
 let x5 := !s == 5 || (x1 || mAtC x4 1)
 let x6 : List TY := x2 ++ [(2, u16.wrap ((pcOf c) + u16.wrap 1), 0, 3)]
 let x7 : QT3 := (c, s == 5, g, x6)
 let x8 : List TY := [(12, pcOf c, 0, 6)] ++ [(5, u16.wrap ((spOf c) - 1), u8.wrap (shrI u16 (pcOf c) 8), 3)] ++ [(5, u16.wrap ((spOf c) - 2), u8.wrap (pcOf c), 3)]
 let x10 : List TY := bif (Za c.1 (R.get (R.int u8) g 0)).2.2.1 == 6 then x3 ++ [(3, Z7 c.2.1 2, mAt x4 1, 3)] else x3
 let x12 : List TY := bif (Za c.1 (R.get (R.int u8) g 0)).2.2.1 == 6 then x6 ++ [(3, Z7 c.2.1 2, mAt x7 1, 3)] else x6
 .br (Zb s || (!decide (iN (List.length g) > 0) || (!Zf 0 (List.length g) || (!(Za c.1 (R.get (R.int u8) g 0)).1 == 3 || (!x5 || (s == 5 || (x1 || mAtC x7 1))))))) (.br (Zb s || (!decide (iN (List.length g) > 0) || (!Zf 0 (List.length g) || (!(Za c.1 (R.get (R.int u8) g 0)).1 == 3 || x5)))) (.br (Zb s || (!decide (iN (List.length g) > 0) || (!Zf 0 (List.length g) || (Za c.1 (R.get (R.int u8) g 0)).1 == 3))) (.br (Zb s || (!decide (iN (List.length g) > 0) || Zf 0 (List.length g))) (.br (Zb s) (fin3 g x8) (.br (decide (iN (List.length g) > 0)) (.br (s == 5) (fin3 g x10) (fin3 g x12)) (fin3 g x2))) (.leaf none)) (.leaf none)) (.leaf none)) (.leaf none)
theorem ZzV (a : HL Zi) : Zg (envX Tryz.prog (ZU 3) [] 2047 8) Tryz.f42 Zi ZD a = Zot a.1 a.2.1 a.2.2 := by kernel_rfl
def Zop (c : TC) (s : Int) (g : List Int) : RT (Option (TY × Bool)) :=
 let x1 : List TY := [(bif s == 5 then 8 else 1, pcOf c, 0, 4)]
 let x2 : List TY := [(9, pcOf c, 0, 3)]
 let x3 : List TY := x1 ++ x2
 let x4 : List TY := [(2, u16.wrap ((pcOf c) + u16.wrap (i64.wrap (1 + 1))), 0, 3)]
 let x5 : List TY := bif s == 5 then x3 ++ x2 else x3 ++ x4
 let x6 : QT3 := (c, s == 5, g, x5)
 let x7 := ZbD x6 1
 let x8 : List TY := x5 ++ [(2, ZdD x6 1, 0, 3)]
 let x9 : QT3 := (c, s == 5, g, x8)
 let x10 := !s == 5 || (!x7 || ZbD x9 1)
 let x11 := !x10
 let x12 := !s == 5 || x7
 let x13 := !x12
 let x14 : List TY := x1 ++ [(2, u16.wrap ((pcOf c) + u16.wrap 1), 0, 3)]
 let x15 : List TY := bif s == 5 then x14 ++ x2 else x14 ++ x4
 let x16 : QT3 := (c, s == 5, g, x15)
 let x17 := ZbD x16 1
 let x18 : List TY := x15 ++ [(2, ZdD x16 1, 0, 3)]
 let x19 : QT3 := (c, s == 5, g, x18)
 let x20 := s == 5 || (!x17 || ZbD x19 1)
 let x21 : List TY := [(12, pcOf c, 0, 6)] ++ [(5, u16.wrap ((spOf c) - 1), u8.wrap (shrI u16 (pcOf c) 8), 3)] ++ [(5, u16.wrap ((spOf c) - 2), u8.wrap (pcOf c), 3)]
 let x23 : List TY := x8 ++ [(2, u16.wrap (ZdD x9 1 + 1), 0, 3)]
 let x25 : List TY := x18 ++ [(2, u16.wrap (ZdD x19 1 + 1), 0, 3)]
 .br (Zb s || (!decide (iN (List.length g) > 0) || (!Zf 0 (List.length g) || (!(Za c.1 (R.get (R.int u8) g 0)).1 == 7 || (x11 || (x13 || (!x20 || (s == 5 || x17)))))))) (.br (Zb s || (!decide (iN (List.length g) > 0) || (!Zf 0 (List.length g) || (!(Za c.1 (R.get (R.int u8) g 0)).1 == 7 || (x11 || (x13 || x20)))))) (.br (Zb s || (!decide (iN (List.length g) > 0) || (!Zf 0 (List.length g) || (!(Za c.1 (R.get (R.int u8) g 0)).1 == 7 || (x11 || x12))))) (.br (Zb s || (!decide (iN (List.length g) > 0) || (!Zf 0 (List.length g) || (!(Za c.1 (R.get (R.int u8) g 0)).1 == 7 || x10)))) (.br (Zb s || (!decide (iN (List.length g) > 0) || (!Zf 0 (List.length g) || (Za c.1 (R.get (R.int u8) g 0)).1 == 7))) (.br (Zb s || (!decide (iN (List.length g) > 0) || Zf 0 (List.length g))) (.br (Zb s) (fin3 g x21) (.br (decide (iN (List.length g) > 0)) (.br (s == 5) (fin3 g x23) (fin3 g x25)) (fin3 g x1))) (.leaf none)) (.leaf none)) (.leaf none)) (.leaf none)) (.leaf none)) (.leaf none)
theorem ZzR (a : HL Zi) : Zg (envX Tryz.prog (ZU 7) [] 2047 8) Tryz.f42 Zi ZD a = Zop a.1 a.2.1 a.2.2 := by kernel_rfl
def Zj9 (c : TC) (s : Int) (g : List Int) : RT (Option (TY × Bool)) :=
 let x1 : List TY := [(12, pcOf c, 0, 6)] ++ [(5, u16.wrap ((spOf c) - 1), u8.wrap (shrI u16 (pcOf c) 8), 3)] ++ [(5, u16.wrap ((spOf c) - 2), u8.wrap (pcOf c), 3)]
 let x3 : List TY := [(bif s == 5 then 8 else 1, pcOf c, 0, 4)]
 .br (Zb s || (!decide (iN (List.length g) > 0) || (!Zf 0 (List.length g) || (Za c.1 (R.get (R.int u8) g 0)).1 == 11))) (.br (Zb s || (!decide (iN (List.length g) > 0) || Zf 0 (List.length g))) (.br (Zb s) (fin3 g x1) (fin3 g x3)) (.leaf none)) (.leaf none)
theorem ZuO (a : HL Zi) : Zg (envX Tryz.prog (ZU 11) [] 2047 8) Tryz.f42 Zi ZD a = Zj9 a.1 a.2.1 a.2.2 := by kernel_rfl
def Zj5 (c : TC) (s : Int) (g : List Int) : RT (Option (TY × Bool)) :=
 let x1 : List TY := [(bif s == 5 then 8 else 1, pcOf c, 0, 4)]
 let x2 : QT3 := (c, s == 5, g, x1)
 let x3 : List TY := [(12, pcOf c, 0, 6)] ++ [(5, u16.wrap ((spOf c) - 1), u8.wrap (shrI u16 (pcOf c) 8), 3)] ++ [(5, u16.wrap ((spOf c) - 2), u8.wrap (pcOf c), 3)]
 let x5 : List TY := x1 ++ [(2, Z7 c.2.1 2, 0, 3)] ++ [(3, Z7 c.2.1 2, (Zfp c (15, (Za c.1 (R.get (R.int u8) g 0)).2) (mAt x2 1)).1, 3)]
 let x7 : Nat := List.length x1
 let x8 := decide (iN (List.length g) ≥ iN x7)
 let x9 := Zf (iN (List.length g)) x7
 let x10 : TY × Bool := (R.get (RY) x1 (iN (List.length g)), true)
 .br (Zb s || (!decide (iN (List.length g) > 0) || (!Zf 0 (List.length g) || (!(Za c.1 (R.get (R.int u8) g 0)).1 == 15 || (!(Za c.1 (R.get (R.int u8) g 0)).2.2.1 == 6 || mAtC x2 1))))) (.br (Zb s || (!decide (iN (List.length g) > 0) || (!Zf 0 (List.length g) || (Za c.1 (R.get (R.int u8) g 0)).1 == 15))) (.br (Zb s || (!decide (iN (List.length g) > 0) || Zf 0 (List.length g))) (.br (Zb s) (fin3 g x3) (.br (decide (iN (List.length g) > 0)) (.br ((Za c.1 (R.get (R.int u8) g 0)).2.2.1 == 6) (fin3 g x5) (.br (x8) (.leaf (some (((0, 0, 0, 0), false)))) (.br (x9) (.leaf (some (x10))) (.leaf none)))) (.br (x8) (.leaf (some (((0, 0, 0, 0), false)))) (.br (x9) (.leaf (some (x10))) (.leaf none))))) (.leaf none)) (.leaf none)) (.leaf none)
theorem ZuK (a : HL Zi) : Zg (envX Tryz.prog (ZU 15) [] 2047 8) Tryz.f42 Zi ZD a = Zj5 a.1 a.2.1 a.2.2 := by kernel_rfl
def Zj1 (c : TC) (s : Int) (g : List Int) : RT (Option (TY × Bool)) :=
 let x1 : List TY := [(12, pcOf c, 0, 6)] ++ [(5, u16.wrap ((spOf c) - 1), u8.wrap (shrI u16 (pcOf c) 8), 3)] ++ [(5, u16.wrap ((spOf c) - 2), u8.wrap (pcOf c), 3)]
 let x3 : List TY := [(bif s == 5 then 8 else 1, pcOf c, 0, 4)]
 .br (Zb s || (!decide (iN (List.length g) > 0) || (!Zf 0 (List.length g) || (Za c.1 (R.get (R.int u8) g 0)).1 == 19))) (.br (Zb s || (!decide (iN (List.length g) > 0) || Zf 0 (List.length g))) (.br (Zb s) (fin3 g x1) (fin3 g x3)) (.leaf none)) (.leaf none)
theorem ZuG (a : HL Zi) : Zg (envX Tryz.prog (ZU 19) [] 2047 8) Tryz.f42 Zi ZD a = Zj1 a.1 a.2.1 a.2.2 := by kernel_rfl
def ZjX (c : TC) (s : Int) (g : List Int) : RT (Option (TY × Bool)) :=
 let x1 : List TY := [(12, pcOf c, 0, 6)] ++ [(5, u16.wrap ((spOf c) - 1), u8.wrap (shrI u16 (pcOf c) 8), 3)] ++ [(5, u16.wrap ((spOf c) - 2), u8.wrap (pcOf c), 3)]
 let x3 : List TY := [(bif s == 5 then 8 else 1, pcOf c, 0, 4)]
 .br (Zb s || (!decide (iN (List.length g) > 0) || (!Zf 0 (List.length g) || (Za c.1 (R.get (R.int u8) g 0)).1 == 23))) (.br (Zb s || (!decide (iN (List.length g) > 0) || Zf 0 (List.length g))) (.br (Zb s) (fin3 g x1) (fin3 g x3)) (.leaf none)) (.leaf none)
theorem ZuC (a : HL Zi) : Zg (envX Tryz.prog (ZU 23) [] 2047 8) Tryz.f42 Zi ZD a = ZjX a.1 a.2.1 a.2.2 := by kernel_rfl
def ZjT (c : TC) (s : Int) (g : List Int) : RT (Option (TY × Bool)) :=
 let x1 := u16.wrap ((spOf c) - 1)
 let x2 := u16.wrap ((spOf c) - 2)
 let x3 : List TY := [(12, pcOf c, 0, 6)] ++ [(5, x1, u8.wrap (shrI u16 (pcOf c) 8), 3)] ++ [(5, x2, u8.wrap (pcOf c), 3)]
 let x5 : List TY := [(bif s == 5 then 8 else 1, pcOf c, 0, 4)]
 let x6 := Zy (c, s == 5, g, x5) (Za c.1 (R.get (R.int u8) g 0)).2.1
 let x7 : List TY := x5 ++ [(5, x1, u8.wrap (shrI u16 x6 8), 3)] ++ [(5, x2, u8.wrap x6, 3)]
 .br (Zb s || (!decide (iN (List.length g) > 0) || (!Zf 0 (List.length g) || (Za c.1 (R.get (R.int u8) g 0)).1 == 27))) (.br (Zb s || (!decide (iN (List.length g) > 0) || Zf 0 (List.length g))) (.br (Zb s) (fin3 g x3) (.br (decide (iN (List.length g) > 0)) (fin3 g x7) (fin3 g x5))) (.leaf none)) (.leaf none)
theorem Zuy (a : HL Zi) : Zg (envX Tryz.prog (ZU 27) [] 2047 8) Tryz.f42 Zi ZD a = ZjT a.1 a.2.1 a.2.2 := by kernel_rfl
def ZjP (c : TC) (s : Int) (g : List Int) : RT (Option (TY × Bool)) :=
 let x1 : List TY := [(12, pcOf c, 0, 6)] ++ [(5, u16.wrap ((spOf c) - 1), u8.wrap (shrI u16 (pcOf c) 8), 3)] ++ [(5, u16.wrap ((spOf c) - 2), u8.wrap (pcOf c), 3)]
 let x3 : List TY := [(bif s == 5 then 8 else 1, pcOf c, 0, 4)]
 let x4 : List TY := x3 ++ [(4, spOf c, 0, 3)] ++ [(4, u16.wrap ((spOf c) + 1), 0, 3)]
 .br (Zb s || (!decide (iN (List.length g) > 0) || (!Zf 0 (List.length g) || (Za c.1 (R.get (R.int u8) g 0)).1 == 31))) (.br (Zb s || (!decide (iN (List.length g) > 0) || Zf 0 (List.length g))) (.br (Zb s) (fin3 g x1) (.br (decide (iN (List.length g) > 0)) (fin3 g x4) (fin3 g x3))) (.leaf none)) (.leaf none)
theorem Zuu (a : HL Zi) : Zg (envX Tryz.prog (ZU 31) [] 2047 8) Tryz.f42 Zi ZD a = ZjP a.1 a.2.1 a.2.2 := by kernel_rfl
def ZjL (c : TC) (s : Int) (g : List Int) : RT (Option (TY × Bool)) :=
 let x1 : List TY := [(12, pcOf c, 0, 6)] ++ [(5, u16.wrap ((spOf c) - 1), u8.wrap (shrI u16 (pcOf c) 8), 3)] ++ [(5, u16.wrap ((spOf c) - 2), u8.wrap (pcOf c), 3)]
 let x3 : List TY := [(bif s == 5 then 8 else 1, pcOf c, 0, 4)]
 .br (Zb s || (!decide (iN (List.length g) > 0) || (!Zf 0 (List.length g) || (Za c.1 (R.get (R.int u8) g 0)).1 == 35))) (.br (Zb s || (!decide (iN (List.length g) > 0) || Zf 0 (List.length g))) (.br (Zb s) (fin3 g x1) (fin3 g x3)) (.leaf none)) (.leaf none)
theorem Zuq (a : HL Zi) : Zg (envX Tryz.prog (ZU 35) [] 2047 8) Tryz.f42 Zi ZD a = ZjL a.1 a.2.1 a.2.2 := by kernel_rfl
def ZjH (c : TC) (s : Int) (g : List Int) : RT (Option (TY × Bool)) :=
 let x1 : List TY := [(12, pcOf c, 0, 6)] ++ [(5, u16.wrap ((spOf c) - 1), u8.wrap (shrI u16 (pcOf c) 8), 3)] ++ [(5, u16.wrap ((spOf c) - 2), u8.wrap (pcOf c), 3)]
 let x3 : List TY := [(bif s == 5 then 8 else 1, pcOf c, 0, 4)]
 .br (Zb s || (!decide (iN (List.length g) > 0) || (!Zf 0 (List.length g) || (Za c.1 (R.get (R.int u8) g 0)).1 == 39))) (.br (Zb s || (!decide (iN (List.length g) > 0) || Zf 0 (List.length g))) (.br (Zb s) (fin3 g x1) (fin3 g x3)) (.leaf none)) (.leaf none)
theorem Zum (a : HL Zi) : Zg (envX Tryz.prog (ZU 39) [] 2047 8) Tryz.f42 Zi ZD a = ZjH a.1 a.2.1 a.2.2 := by kernel_rfl
def ZjD (c : TC) (s : Int) (g : List Int) : RT (Option (TY × Bool)) :=
 let x1 : List TY := [(12, pcOf c, 0, 6)] ++ [(5, u16.wrap ((spOf c) - 1), u8.wrap (shrI u16 (pcOf c) 8), 3)] ++ [(5, u16.wrap ((spOf c) - 2), u8.wrap (pcOf c), 3)]
 let x3 : List TY := [(bif s == 5 then 8 else 1, pcOf c, 0, 4)]
 let x4 : QT6 := ((pcOf c), 0, 3)
 let x5 : List TY := [(11, x4)]
 let x6 : List TY := x3 ++ [(9, x4)] ++ x5
 let x8 : List TY := x3 ++ [(2, u16.wrap ((pcOf c) + u16.wrap 1), 0, 3)] ++ x5
 .br (Zb s || (!decide (iN (List.length g) > 0) || (!Zf 0 (List.length g) || (Za c.1 (R.get (R.int u8) g 0)).1 == 43))) (.br (Zb s || (!decide (iN (List.length g) > 0) || Zf 0 (List.length g))) (.br (Zb s) (fin3 g x1) (.br (decide (iN (List.length g) > 0)) (.br (s == 5) (fin3 g x6) (fin3 g x8)) (fin3 g x3))) (.leaf none)) (.leaf none)
theorem Zui (a : HL Zi) : Zg (envX Tryz.prog (ZU 43) [] 2047 8) Tryz.f42 Zi ZD a = ZjD a.1 a.2.1 a.2.2 := by kernel_rfl
def Zjz (c : TC) (s : Int) (g : List Int) : RT (Option (TY × Bool)) :=
 let x1 : List TY := [(12, pcOf c, 0, 6)] ++ [(5, u16.wrap ((spOf c) - 1), u8.wrap (shrI u16 (pcOf c) 8), 3)] ++ [(5, u16.wrap ((spOf c) - 2), u8.wrap (pcOf c), 3)]
 let x3 : List TY := [(bif s == 5 then 8 else 1, pcOf c, 0, 4)]
 let x4 : List TY := x3 ++ [(2, Z7 c.2.1 1, 0, 3)] ++ [(2, u16.wrap (Z7 c.2.1 1 + 1), 0, 3)]
 .br (Zb s || (!decide (iN (List.length g) > 0) || (!Zf 0 (List.length g) || (Za c.1 (R.get (R.int u8) g 0)).1 == 47))) (.br (Zb s || (!decide (iN (List.length g) > 0) || Zf 0 (List.length g))) (.br (Zb s) (fin3 g x1) (.br (decide (iN (List.length g) > 0)) (fin3 g x4) (fin3 g x3))) (.leaf none)) (.leaf none)
theorem Zue (a : HL Zi) : Zg (envX Tryz.prog (ZU 47) [] 2047 8) Tryz.f42 Zi ZD a = Zjz a.1 a.2.1 a.2.2 := by kernel_rfl
end
end Go.Proofs.YtghoimllhpjkjaaGreat
