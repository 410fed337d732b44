/-
  Contracts of functions; each found by the symbolic executor and checked by the kernel. Conditions: none.
-/
import Derived.Test.YtghoimllhpjkjaaGreatPinsEq
import Derived.Test.YtghoimllhpjkjaaGreatS3Nil
import Derived.Test.YtghoimllhpjkjaaGreatS3D
import Derived.Test.YtghoimllhpjkjaaGreatProg
set_option linter.unusedVariables false
set_option linter.unusedSimpArgs false
open Go Go.S3 Go.Proofs
set_option maxRecDepth 100000
namespace Go.Proofs.YtghoimllhpjkjaaGreat
noncomputable section
end
end Go.Proofs.YtghoimllhpjkjaaGreat
open Go.IntKind (u8 u16 i64)
namespace Go.Proofs.YtghoimllhpjkjaaGreat
noncomputable section
abbrev Cyc := Int × Int × Int × Int
abbrev cycR : R := R.pair (R.int i64) (R.pair (R.int u16) (R.pair (R.int u8) (R.int i64)))
theorem ZcB (st) (n : Int) (h : 0 ≤ n) : qAtC st n = true ∧ qAt st n = st.2.2.1.getD n.toNat 0 := by
 by_cases hn : n < (st.2.2.1.length : Int)
 ·simp [qAtC, qAt, qAtT, RT.val, iN, Zf, h, hn, okB, getO, R.get, R.dflt]
 ·have : st.2.2.1.length ≤ n.toNat := by omega
  simp [qAtC, qAt, qAtT, RT.val, iN, Zf, h, hn, okB, getO, R.get, R.dflt, List.getD_eq_getElem?_getD, List.getElem?_eq_none this]
theorem Zdo (st) (n : Int) (h : 0 ≤ n) : mAtC st n = true ∧ mAt st n = st.2.2.1.getD n.toNat 0 := by
 by_cases hn : n < (st.2.2.1.length : Int)
 ·simp [mAtC, mAt, mAtT, RT.val, iN, Zf, h, hn, okB, getO, R.get, R.dflt]
 ·have : st.2.2.1.length ≤ n.toNat := by omega
  simp [mAtC, mAt, mAtT, RT.val, iN, Zf, h, hn, okB, getO, R.get, R.dflt, List.getD_eq_getElem?_getD, List.getElem?_eq_none this]
theorem qat0 (st) : qAtC st 0 = true ∧ qAt st 0 = st.2.2.1.getD 0 0 := ZcB st 0 (by decide)
theorem qat1 (st) : qAtC st 1 = true ∧ qAt st 1 = st.2.2.1.getD 1 0 := ZcB st 1 (by decide)
theorem mat0 (st) : mAtC st 0 = true ∧ mAt st 0 = st.2.2.1.getD 0 0 := Zdo st 0 (by decide)
theorem mat1 (st) : mAtC st 1 = true ∧ mAt st 1 = st.2.2.1.getD 1 0 := Zdo st 1 (by decide)
theorem rg0 (g : List Int) : R.get (.int .u8) g 0 = g.getD 0 0 := rfl
def pick (l : List Cyc) (n : Nat) : Cyc × Bool := (l.getD n (0, 0, 0, 0), decide (n < l.length))
theorem pk (l : List Cyc) (n : Nat) : (cond (decide (iN n ≥ iN l.length)) (some (((0, 0, 0, 0) : Cyc), false)) (cond (Zf (iN n) l.length) (some (R.get cycR l (iN n), true)) none)) = some (pick l n) := by
 by_cases h : n < l.length
 ·have h1 : ¬ (l.length : Int) ≤ n := by omega
  simp [pick, h, h1, Zf, iN, R.get, R.dflt]
 ·have h1 : (l.length : Int) ≤ n := by omega
  simp [pick, h, h1, Zf, iN]
theorem Zbd (x : Cyc) (l) (n : Nat) : pick (x :: l) (n + 1) = pick l n := by simp [pick]
theorem Zbc (x : Cyc) (l) : pick (x :: l) 0 = (x, true) := by simp [pick]
theorem ZG (s : Int) : Ze s = Za s := rfl
theorem len0 (g : List Int) (a : Int) : (iN (a :: g).length == 0) = false ∧ decide (iN (a :: g).length > 0) = true ∧ Zf 0 (a :: g).length = true := by
 have : ((g.length : Int) + 1 == 0) = false := by simp; omega
 simp [iN, Zf, this]
theorem Zlt : (iN ([] : List Int).length == 0) = true ∧ decide (iN ([] : List Int).length > 0) = false ∧ Zf 0 ([] : List Int).length = false := by decide
theorem Zac (s) (n) : Zc3 s n = ZaW s.1.2.1 n := rfl
theorem ZaF (s) (n) : qReg s n = rGet s.1.2.1 n := rfl
theorem Z0 (s) : Zfr s = ZdD s.2.2.2.1.2.2.2.2.2.2.1 s.1.2.1.2.2.2.2.2.2.2.1 := rfl
theorem Z1 (s i) : Zfw s i = ZdD i.2.2.2.2.2.2.1 s.1.2.1.2.2.2.2.2.2.2.1 := rfl
theorem ZP (s) : Zv s = cond s.2.1 s.1.2.1.2.2.2.2.2.2.2.2.2 (IntKind.wrap .u16 (s.1.2.1.2.2.2.2.2.2.2.2.2 + IntKind.wrap .u16 s.2.2.2.1.2.1)) := rfl
theorem ZQ (s n) : ZeL s n = cond s.2.1 s.1.2.1.2.2.2.2.2.2.2.2.2 (IntKind.wrap .u16 (s.1.2.1.2.2.2.2.2.2.2.2.2 + IntKind.wrap .u16 n)) := rfl
theorem ZcH : IntKind.wrap .i64 2 = 2 ∧ IntKind.wrap .i64 4 = 4 := by decide
theorem Zbx (s) : ZbY s 1 = true ∧ ZeC s 1 = ZdC (s.2.2.1.getD 2 0) (s.2.2.1.getD 1 0) := by
 simp [ZbY, ZeC, ZqW, RT.val, ZcH, ZcB s 2 (by decide), ZcB s 1 (by decide), okB, getO]
theorem Zft (s) : ZbY s 3 = true ∧ ZeC s 3 = ZdC (s.2.2.1.getD 4 0) (s.2.2.1.getD 3 0) := by
 simp [ZbY, ZeC, ZqW, RT.val, ZcH, ZcB s 4 (by decide), ZcB s 3 (by decide), okB, getO]
theorem Zbz (s) : Zda s 1 = true ∧ ZfM s 1 = ZdC (s.2.2.1.getD 2 0) (s.2.2.1.getD 1 0) := by
 simp [Zda, ZfM, ZxD, RT.val, ZcH, Zdo s 2 (by decide), Zdo s 1 (by decide), okB, getO]
theorem Zay (s) : ZeD s = true ∧ Zgi s = cond (s.2.2.2.1.1 == 14) (rInr s.1.1 (s.2.2.1.getD 1 0) s.1.2.1.2.2.2.2.2.2.2.1).1 (rDcr s.1.1 (s.2.2.1.getD 1 0) s.1.2.1.2.2.2.2.2.2.2.1).1 := by
 simp [ZeD, Zgi, Zgh, RT.val, qat1, okB, getO]
theorem ZE (c i v) : Zit c i v = cond (i.1 == 14) (rInr c.1 v c.2.1.2.2.2.2.2.2.2.1) (rDcr c.1 v c.2.1.2.2.2.2.2.2.2.1) := rfl
abbrev FlgT := Bool × Bool × Bool × Bool × Bool × Bool × Bool
abbrev RegT := Int × Int × Int × Int × Int × Int × Int × FlgT × Int × Int
abbrev CpuT := Int × RegT × Bool × Bool × Bool × Int × Bool × Bool × Bool × Bool × Bool × Bool × Bool
abbrev InsT := QT5
def opC (c : CpuT) (inj : Bool) (k : Int) : Cyc := bif inj then (9, pcOf c, 0, 3) else (2, IntKind.wrap .u16 (pcOf c + IntKind.wrap .u16 k), 0, 3)
def ZbI (c : CpuT) (w : Int) : List Cyc := [(5, IntKind.wrap .u16 (spOf c - 1), IntKind.wrap .u8 (shrI .u16 w 8), 3), (5, IntKind.wrap .u16 (spOf c - 2), IntKind.wrap .u8 w, 3)]
def popX (c : CpuT) : List Cyc := [(4, spOf c, 0, 3), (4, IntKind.wrap .u16 (spOf c + 1), 0, 3)]
def ZR (c : CpuT) (inj : Bool) (i : InsT) : Int := bif inj then pcOf c else IntKind.wrap .u16 (pcOf c + IntKind.wrap .u16 i.2.1)
def ZaS (c : CpuT) (i : InsT) : Bool := ZdD i.2.2.2.2.2.2.1 c.2.1.2.2.2.2.2.2.2.1
def Zf4 (a : Int) : List Cyc := [(2, a, 0, 3), (2, IntKind.wrap .u16 (a + 1), 0, 3)]
def Zdk (c : CpuT) (a : Int) : List Cyc := [(3, a, c.2.1.2.2.2.2.2.2.1, 3), (3, IntKind.wrap .u16 (a + 1), c.2.1.2.2.2.2.2.1, 3)]
def ZbK (c : CpuT) (inj : Bool) (i : InsT) : List Cyc := bif c.1 == 2 && !ZaS c i then [opC c inj 1] else [opC c inj 1, opC c inj 2]
def Zbr (g : List Int) (n : Nat) : Int := ZdC (g.getD (n + 1) 0) (g.getD n 0)
def ZfP (c : CpuT) : Cyc := (11, pcOf c, 0, 3)
def Zef (c : CpuT) (i : InsT) (v : Int) : Int := bif i.1 == 14 then (rInr c.1 v c.2.1.2.2.2.2.2.2.2.1).1 else (rDcr c.1 v c.2.1.2.2.2.2.2.2.2.1).1
def ZgW (c : CpuT) (inj : Bool) (g : List Int) (i : InsT) : List Cyc :=
 let hl := ZaW c.2.1 2
 let dst := i.2.2.1
 let src := i.2.2.2.1
 let pr := i.2.2.2.2.1
 bif i.1 == 2 then (bif src == 6 then [(2, hl, 0, 3)] else bif dst == 6 then [(3, hl, rGet c.2.1 src, 3)] else []) else
 bif i.1 == 3 then opC c inj 1 :: (bif dst == 6 then [(3, hl, g.getD 1 0, 3)] else []) else
 bif i.1 == 4 then [opC c inj 1, opC c inj 2] else
 bif i.1 == 5 then [opC c inj 1, opC c inj 2, (2, Zbr g 1, 0, 3)] else
 bif i.1 == 6 then [opC c inj 1, opC c inj 2, (3, Zbr g 1, c.2.1.1, 3)] else
 bif i.1 == 7 then opC c inj 1 :: opC c inj 2 :: Zf4 (Zbr g 1) else
 bif i.1 == 8 then opC c inj 1 :: opC c inj 2 :: Zdk c (Zbr g 1) else
 bif i.1 == 9 then [(2, ZaW c.2.1 pr, 0, 3)] else
 bif i.1 == 10 then [(3, ZaW c.2.1 pr, c.2.1.1, 3)] else
 bif i.1 == 12 then (bif src == 6 then [(2, hl, 0, 3)] else []) else
 bif i.1 == 13 then [opC c inj 1] else
 bif i.1 == 14 || i.1 == 15 then (bif dst == 6 then [(2, hl, 0, 3), (3, hl, Zef c i (g.getD 1 0), 3)] else []) else
 bif i.1 == 18 || i.1 == 40 || i.1 == 42 then [ZfP c, ZfP c] else
 bif i.1 == 24 then ZbK c inj i else
 bif i.1 == 25 then ZbK c inj i ++ (bif ZaS c i then ZbI c (ZR c inj i) else []) else
 bif i.1 == 26 then (bif ZaS c i then popX c else []) else
 bif i.1 == 27 then ZbI c (ZR c inj i) else
 bif i.1 == 45 then (bif ZaS c i then ZbI c (ZR c inj i) else []) else
 bif i.1 == 30 then ZbI c (bif pr == 3 then rPSW c.1 c.2.1 else ZaW c.2.1 pr) else
 bif i.1 == 31 then popX c else
 bif i.1 == 32 then popX c ++ [(5, IntKind.wrap .u16 (spOf c + 1), c.2.1.2.2.2.2.2.1, 3), (5, spOf c, c.2.1.2.2.2.2.2.2.1, bif c.1 == 2 then 3 else 5)] else
 bif i.1 == 33 then [opC c inj 1, (6, ZdC (g.getD 1 0) (g.getD 1 0), 0, 3)] else
 bif i.1 == 34 then [opC c inj 1, (7, ZdC (g.getD 1 0) (g.getD 1 0), c.2.1.1, 3)] else
 bif i.1 == 37 then (bif c.1 == 2 then [] else [(10, pcOf c, 0, 3)]) else
 bif i.1 == 41 then [ZfP c] else
 bif i.1 == 43 || i.1 == 44 then [opC c inj 1, ZfP c] else
 bif i.1 == 46 then Zdk c (ZaW c.2.1 1) else
 bif i.1 == 47 then Zf4 (ZaW c.2.1 1) else
 []
def Zgm (c : CpuT) (s : Int) (g : List Int) : List Cyc :=
 bif Za s then (12, pcOf c, 0, 6) :: ZbI c (pcOf c)
 else (bif s == 5 then 8 else 1, pcOf c, 0, 4) :: match g with
  | [] => []
  | o :: _ => ZgW c (s == 5) g (Zc c.1 o)
def Zi (c : CpuT) (s : Int) (g : List Int) : Cyc × Bool := pick (Zgm c s g) g.length
def sk (x : Cyc) : Cyc := (x.1, 0, 0, x.2.2.2)
def ZEu (c op : Int) : Bool := decide (1 ≤ (Zc c op).1) && decide ((Zc c op).1 ≤ 47)
theorem ZvB (c op : Int) (h : inR .u8 op) : 1 ≤ (Zc c op).1 ∧ (Zc c op).1 ≤ 47 := by
 have fin : ZEu c op = true → 1 ≤ (Zc c op).1 ∧ (Zc c op).1 ≤ 47 := by
  intro hc; simpa [ZEu] using hc
 by_cases hc : c = 2
 ·subst hc; exact fin (ZgU (ZEu 2) (by kernel_rfl) op h)
 ·have h0 := ZgU (ZEu 0) (by kernel_rfl) op h
  have e : Zc c op = Zc 0 op := by unfold Zc; rw [Zqz c op hc]
  refine fin ?_
  simp only [ZEu, e] at h0 ⊢; exact h0
theorem ZvJ {g : List Int} (h : (R.sl (.int .u8)).ok g) : inR .u8 (g.getD 0 0) := by
 cases g with
 | nil => rw [ZmZ]; simp
 | cons x l => exact h.2 x (by simp)
theorem ZvA {n : Int} (h1 : 1 ≤ n) (h2 : n ≤ 47) : n = 1 ∨ n = 2 ∨ n = 3 ∨ n = 4 ∨ n = 5 ∨ n = 6 ∨ n = 7 ∨ n = 8 ∨ n = 9 ∨ n = 10 ∨ n = 11 ∨ n = 12 ∨ n = 13 ∨ n = 14 ∨ n = 15 ∨ n = 16 ∨ n = 17 ∨ n = 18 ∨ n = 19 ∨ n = 20 ∨ n = 21 ∨ n = 22 ∨ n = 23 ∨ n = 24 ∨ n = 25 ∨ n = 26 ∨ n = 27 ∨ n = 28 ∨ n = 29 ∨ n = 30 ∨ n = 31 ∨ n = 32 ∨ n = 33 ∨ n = 34 ∨ n = 35 ∨ n = 36 ∨ n = 37 ∨ n = 38 ∨ n = 39 ∨ n = 40 ∨ n = 41 ∨ n = 42 ∨ n = 43 ∨ n = 44 ∨ n = 45 ∨ n = 46 ∨ n = 47 := by omega
def Zcs (k : Int) : Entry := .tree (ZI (envX Tryz.prog [(182, Zri k), (222, qAtE)] [] 255 8) Tryz.f178)
theorem Zd2 (k : Int) : Zb Tryz.prog 178 (Zcs k) := Zab (P := Tryz.prog) (n := 255) (k := 8) (l := [(182, Zri k), (222, qAtE)]) (ol := []) ⟨(Zxq k), Zgk, trivial⟩ Tryz.func178 rfl (by kernel_rfl) Tryz.call178 trivial
def Zo : Entry := .tree (ZI (envX Tryz.prog [] [] 255 8) Tryz.f230)
theorem ZM : Zb Tryz.prog 230 Zo := Zab (P := Tryz.prog) (n := 255) (k := 8) (l := []) (ol := []) trivial Tryz.func230 rfl (by kernel_rfl) Tryz.call230 trivial
def ZaR : Entry := .tree (ZI (envX Tryz.prog [(230, Zo)] [] 15 8) Tryz.f180)
theorem Zb2 : Zb Tryz.prog 180 ZaR := Zab (P := Tryz.prog) (n := 15) (k := 8) (l := [(230, Zo)]) (ol := []) ⟨ZM, trivial⟩ Tryz.func180 rfl (by kernel_rfl) Tryz.call180 trivial
def Zt : Entry := .tree (ZI (envX Tryz.prog [(230, Zo)] [] 31 8) Tryz.f233)
theorem Z7 : Zb Tryz.prog 233 Zt := Zab (P := Tryz.prog) (n := 31) (k := 8) (l := [(230, Zo)]) (ol := []) ⟨ZM, trivial⟩ Tryz.func233 rfl (by kernel_rfl) Tryz.call233 trivial
def Zaf : Entry := .tree (ZI (envX Tryz.prog [(230, Zo)] [] 63 8) Tryz.f237)
theorem ZbT : Zb Tryz.prog 237 Zaf := Zab (P := Tryz.prog) (n := 63) (k := 8) (l := [(230, Zo)]) (ol := []) ⟨ZM, trivial⟩ Tryz.func237 rfl (by kernel_rfl) Tryz.call237 trivial
def ZaH : Entry := .tree (ZI (envX Tryz.prog [(230, Zo), (233, Zt), (237, Zaf), (270, Zj2)] [] 268570631 8) Tryz.f235)
theorem ZcO : Zb Tryz.prog 235 ZaH := Zab (P := Tryz.prog) (n := 268570631) (k := 8) (l := [(230, Zo), (233, Zt), (237, Zaf), (270, Zj2)]) (ol := []) ⟨ZM, Z7, ZbT, Zn3, trivial⟩ Tryz.func235 rfl (by kernel_rfl) Tryz.call235 trivial
def Zbu : Entry := .tree (ZI (envX Tryz.prog [(233, Zt), (280, ZfH)] [] 15 8) Tryz.f288)
theorem Zek : Zb Tryz.prog 288 Zbu := Zab (P := Tryz.prog) (n := 15) (k := 8) (l := [(233, Zt), (280, ZfH)]) (ol := []) ⟨Z7, ZjY, trivial⟩ Tryz.func288 rfl (by kernel_rfl) Tryz.call288 trivial
def ZbE : Entry := .tree (ZI (envX Tryz.prog [(230, Zo)] [] 3 8) Tryz.f289)
theorem ZeR : Zb Tryz.prog 289 ZbE := Zab (P := Tryz.prog) (n := 3) (k := 8) (l := [(230, Zo)]) (ol := []) ⟨ZM, trivial⟩ Tryz.func289 rfl (by kernel_rfl) Tryz.call289 trivial
def Zbv : Entry := .tree (ZI (envX Tryz.prog [(230, Zo)] [] 15 8) Tryz.f291)
theorem Zel : Zb Tryz.prog 291 Zbv := Zab (P := Tryz.prog) (n := 15) (k := 8) (l := [(230, Zo)]) (ol := []) ⟨ZM, trivial⟩ Tryz.func291 rfl (by kernel_rfl) Tryz.call291 trivial
def ZaB : Entry := .tree (ZI (envX Tryz.prog [(180, ZaR), (223, Zgj), (230, Zo), (231, ZeA), (233, Zt), (280, ZfH), (288, Zbu), (289, ZbE), (290, ZCV), (291, Zbv)] [] 1517844491342638470129438826421819271357141255 8) Tryz.f238)
theorem Zcw : Zb Tryz.prog 238 ZaB := Zab (P := Tryz.prog) (n := 1517844491342638470129438826421819271357141255) (k := 8) (l := [(180, ZaR), (223, Zgj), (230, Zo), (231, ZeA), (233, Zt), (280, ZfH), (288, Zbu), (289, ZbE), (290, ZCV), (291, Zbv)]) (ol := []) ⟨Zb2, ZmG, ZM, Zge, Z7, ZjY, Zek, ZeR, ZGF, Zel, trivial⟩ Tryz.func238 rfl (by kernel_rfl) Tryz.call238 trivial
def ZcF : Entry := .tree (ZI (envX Tryz.prog [(222, qAtE), (230, Zo), (231, ZeA), (232, ZqV), (233, Zt), (234, Zj3), (235, ZaH), (236, ZoD), (237, Zaf), (238, ZaB)] [] 2854495396045824897803138545268610783927869455 8) Tryz.f181)
theorem Zem : Zb Tryz.prog 181 ZcF := Zab (P := Tryz.prog) (n := 2854495396045824897803138545268610783927869455) (k := 8) (l := [(222, qAtE), (230, Zo), (231, ZeA), (232, ZqV), (233, Zt), (234, Zj3), (235, ZaH), (236, ZoD), (237, Zaf), (238, ZaB)]) (ol := []) ⟨Zgk, ZM, Zge, Zn2, Z7, ZtI, ZcO, Zrf, ZbT, Zcw, trivial⟩ Tryz.func181 rfl (by kernel_rfl) Tryz.call181 trivial
abbrev Zh : List Sh := [Sh.agg ZaT, Sh.one (R.int i64), Sh.one (R.sl (R.int u8))]
abbrev Zy : Rs := Rs.tup [Sh.agg (RY), Sh.one R.bool]
def ZU (k : Int) : List (FuncId × Entry) := [(176, Zhi), (178, Zcs k), (180, ZaR), (181, ZcF)]
theorem ZC3 (k : Int) : ZcS Tryz.prog (ZU k) := ⟨ZhU, (Zd2 k), Zb2, Zem, trivial⟩
def Zp : Entry := .tree (ZI (envX Tryz.prog [] [] 255 8) Tryz.f162)
theorem ZW : Zb Tryz.prog 162 Zp := Zab (P := Tryz.prog) (n := 255) (k := 8) (l := []) (ol := []) trivial Tryz.func162 rfl (by kernel_rfl) Tryz.call162 trivial
def Z4 : Entry := .tree (ZI (envX Tryz.prog [(162, Zp)] [] 15 8) Tryz.f105)
theorem Za6 : Zb Tryz.prog 105 Z4 := Zab (P := Tryz.prog) (n := 15) (k := 8) (l := [(162, Zp)]) (ol := []) ⟨ZW, trivial⟩ Tryz.func105 rfl (by kernel_rfl) Tryz.call105 trivial
def ZH : Entry := .tree (ZI (envX Tryz.prog [(162, Zp)] [] 31 8) Tryz.f164)
theorem ZaM : Zb Tryz.prog 164 ZH := Zab (P := Tryz.prog) (n := 31) (k := 8) (l := [(162, Zp)]) (ol := []) ⟨ZW, trivial⟩ Tryz.func164 rfl (by kernel_rfl) Tryz.call164 trivial
def ZaA : Entry := .tree (ZI (envX Tryz.prog [(162, Zp)] [] 31 8) Tryz.f167)
theorem Zcu : Zb Tryz.prog 167 ZaA := Zab (P := Tryz.prog) (n := 31) (k := 8) (l := [(162, Zp)]) (ol := []) ⟨ZW, trivial⟩ Tryz.func167 rfl (by kernel_rfl) Tryz.call167 trivial
def Zap : Entry := .tree (ZI (envX Tryz.prog [(146, rOnE), (164, ZH), (169, Zlj)] [] 15 8) Tryz.f168)
theorem Zce : Zb Tryz.prog 168 Zap := Zab (P := Tryz.prog) (n := 15) (k := 8) (l := [(146, rOnE), (164, ZH), (169, Zlj)]) (ol := []) ⟨ZqM, ZaM, ZrG, trivial⟩ Tryz.func168 rfl (by kernel_rfl) Tryz.call168 trivial
def ZaG : Entry := .tree (ZI (envX Tryz.prog [(162, Zp)] [] 3 8) Tryz.f170)
theorem ZcN : Zb Tryz.prog 170 ZaG := Zab (P := Tryz.prog) (n := 3) (k := 8) (l := [(162, Zp)]) (ol := []) ⟨ZW, trivial⟩ Tryz.func170 rfl (by kernel_rfl) Tryz.call170 trivial
def Zbh : Entry := .tree (ZI (envX Tryz.prog [(105, Z4), (146, rOnE), (153, mAtE), (157, ZpJ), (158, ZsP), (162, Zp), (163, ZB0), (164, ZH), (165, ZEg), (166, Zjc), (167, ZaA), (168, Zap), (169, Zlj), (170, ZaG), (171, ZBz), (172, Zmy)] [] 546879438939764547011187383507185256060619065560359097919357232620146805215141852592455017411118079 8) Tryz.f106)
theorem Zcv : Zb Tryz.prog 106 Zbh := Zab (P := Tryz.prog) (n := 546879438939764547011187383507185256060619065560359097919357232620146805215141852592455017411118079) (k := 8) (l := [(105, Z4), (146, rOnE), (153, mAtE), (157, ZpJ), (158, ZsP), (162, Zp), (163, ZB0), (164, ZH), (165, ZEg), (166, Zjc), (167, ZaA), (168, Zap), (169, Zlj), (170, ZaG), (171, ZBz), (172, Zmy)]) (ol := []) ⟨Za6, ZqM, ZIN, Zz0, ZBv, ZW, ZF9, ZaM, ZG9, ZsK, Zcu, Zce, ZrG, ZcN, ZF0, Zix, trivial⟩ Tryz.func106 rfl (by kernel_rfl) Tryz.call106 trivial
abbrev Zg : List Sh := [Sh.agg ZaT, Sh.one (R.int i64), Sh.one (R.sl (R.int u8))]
abbrev Zx : Rs := Rs.tup [Sh.agg (RY), Sh.one R.bool]
def ZT (k : Int) : List (FuncId × Entry) := [(104, ZmA), (105, Z4), (106, Zbh), (107, ZIf k)]
theorem ZBL (k : Int) : ZcS Tryz.prog (ZT k) := ⟨ZqS, Za6, Zcv, (ZGf k), trivial⟩
def ZoA (c : TC) (s : Int) (g : List Int) : RT (Option (TY × Bool)) :=
 let x1 : QT0 := (c, s == 5, g, (0, 0, 0, 0, 0, 0, 0, 0), [])
 let x2 := qAtC x1 0
 let x3 := !x2 || (Zc c.1 (qAt x1 0)).1 == 1
 let x4 : List TY := [] ++ [(12, pcOf c, 0, 6)] ++ [(5, u16.wrap ((spOf c) - 1), u8.wrap (shrI u16 (pcOf c) 8), 3)] ++ [(5, u16.wrap ((spOf c) - 2), u8.wrap (pcOf c), 3)]
 let x6 : QT9 := ((pcOf c), 0, 4)
 let x7 : List TY := [] ++ [(bif s == 5 then 8 else 1, x6)]
 let x9 : List TY := [] ++ [(1, x6)]
 .br (!x3 || x2) (.br (x3) (.br (Ze s) (fin3 g x4) (.br (iN (List.length g) == 0) (fin3 g x7) (fin3 g x9))) (.leaf none)) (.leaf none)
theorem Zy5 (a : HL Zh) : Zk (envX Tryz.prog (ZU 1) [] 1125900980585471 8) Tryz.f113 Zh Zy a = ZoA a.1 a.2.1 a.2.2 := by kernel_rfl
def Zow (c : TC) (s : Int) (g : List Int) : RT (Option (TY × Bool)) :=
 let x1 : QT0 := (c, s == 5, g, (0, 0, 0, 0, 0, 0, 0, 0), [])
 let x2 := qAtC x1 0
 let x3 := Zc c.1 (qAt x1 0)
 let x4 := !x2 || x3.1 == 5
 let x5 : QT9 := ((pcOf c), 0, 4)
 let x6 : List TY := [] ++ [(1, x5)]
 let x7 : List TY := [(9, pcOf c, 0, 3)]
 let x8 : List TY := bif s == 5 then x6 ++ x7 else x6 ++ [(2, u16.wrap ((pcOf c) + u16.wrap 1), 0, 3)]
 let x9 : List TY := bif s == 5 then x8 ++ x7 else x8 ++ [(2, u16.wrap ((pcOf c) + u16.wrap (i64.wrap (1 + 1))), 0, 3)]
 let x10 : QT0 := (c, s == 5, g, (5, x3.2), x9)
 let x11 : List TY := [] ++ [(12, pcOf c, 0, 6)] ++ [(5, u16.wrap ((spOf c) - 1), u8.wrap (shrI u16 (pcOf c) 8), 3)] ++ [(5, u16.wrap ((spOf c) - 2), u8.wrap (pcOf c), 3)]
 let x13 : List TY := [] ++ [(bif s == 5 then 8 else 1, x5)]
 let x15 : List TY := x9 ++ [(2, ZeC x10 1, 0, 3)]
 .br (!x4 || x2) (.br (x4) (.br (Ze s || (iN (List.length g) == 0 || ZbY x10 1)) (.br (Ze s) (fin3 g x11) (.br (iN (List.length g) == 0) (fin3 g x13) (fin3 g x15))) (.leaf none)) (.leaf none)) (.leaf none)
theorem Zy1 (a : HL Zh) : Zk (envX Tryz.prog (ZU 5) [] 1125900980585471 8) Tryz.f113 Zh Zy a = Zow a.1 a.2.1 a.2.2 := by kernel_rfl
def Zos (c : TC) (s : Int) (g : List Int) : RT (Option (TY × Bool)) :=
 let x1 : QT0 := (c, s == 5, g, (0, 0, 0, 0, 0, 0, 0, 0), [])
 let x2 := qAtC x1 0
 let x3 := Zc c.1 (qAt x1 0)
 let x4 := !x2 || x3.1 == 9
 let x5 : List TY := [] ++ [(12, pcOf c, 0, 6)] ++ [(5, u16.wrap ((spOf c) - 1), u8.wrap (shrI u16 (pcOf c) 8), 3)] ++ [(5, u16.wrap ((spOf c) - 2), u8.wrap (pcOf c), 3)]
 let x7 : QT9 := ((pcOf c), 0, 4)
 let x8 : List TY := [] ++ [(bif s == 5 then 8 else 1, x7)]
 let x10 : List TY := [] ++ [(1, x7)]
 let x11 := x3.2
 let x12 : List TY := x10 ++ [(2, Zc3 (c, s == 5, g, (9, x11), x10) x11.2.2.2.1, 0, 3)]
 .br (!x4 || x2) (.br (x4) (.br (Ze s) (fin3 g x5) (.br (iN (List.length g) == 0) (fin3 g x8) (fin3 g x12))) (.leaf none)) (.leaf none)
theorem ZyX (a : HL Zh) : Zk (envX Tryz.prog (ZU 9) [] 1125900980585471 8) Tryz.f113 Zh Zy a = Zos a.1 a.2.1 a.2.2 := by kernel_rfl
def ZkR (c : TC) (s : Int) (g : List Int) : RT (Option (TY × Bool)) :=
 let x1 : QT0 := (c, s == 5, g, (0, 0, 0, 0, 0, 0, 0, 0), [])
 let x2 := qAtC x1 0
 let x3 := !x2 || (Zc c.1 (qAt x1 0)).1 == 13
 let x4 : List TY := [] ++ [(12, pcOf c, 0, 6)] ++ [(5, u16.wrap ((spOf c) - 1), u8.wrap (shrI u16 (pcOf c) 8), 3)] ++ [(5, u16.wrap ((spOf c) - 2), u8.wrap (pcOf c), 3)]
 let x6 : QT9 := ((pcOf c), 0, 4)
 let x7 : List TY := [] ++ [(bif s == 5 then 8 else 1, x6)]
 let x9 : List TY := [] ++ [(1, x6)]
 let x10 : List TY := bif s == 5 then x9 ++ [(9, pcOf c, 0, 3)] else x9 ++ [(2, u16.wrap ((pcOf c) + u16.wrap 1), 0, 3)]
 .br (!x3 || x2) (.br (x3) (.br (Ze s) (fin3 g x4) (.br (iN (List.length g) == 0) (fin3 g x7) (fin3 g x10))) (.leaf none)) (.leaf none)
theorem ZuD (a : HL Zh) : Zk (envX Tryz.prog (ZU 13) [] 1125900980585471 8) Tryz.f113 Zh Zy a = ZkR a.1 a.2.1 a.2.2 := by kernel_rfl
def ZkN (c : TC) (s : Int) (g : List Int) : RT (Option (TY × Bool)) :=
 let x1 : QT0 := (c, s == 5, g, (0, 0, 0, 0, 0, 0, 0, 0), [])
 let x2 := qAtC x1 0
 let x3 := !x2 || (Zc c.1 (qAt x1 0)).1 == 17
 let x4 : List TY := [] ++ [(12, pcOf c, 0, 6)] ++ [(5, u16.wrap ((spOf c) - 1), u8.wrap (shrI u16 (pcOf c) 8), 3)] ++ [(5, u16.wrap ((spOf c) - 2), u8.wrap (pcOf c), 3)]
 let x6 : QT9 := ((pcOf c), 0, 4)
 let x7 : List TY := [] ++ [(bif s == 5 then 8 else 1, x6)]
 let x9 : List TY := [] ++ [(1, x6)]
 .br (!x3 || x2) (.br (x3) (.br (Ze s) (fin3 g x4) (.br (iN (List.length g) == 0) (fin3 g x7) (fin3 g x9))) (.leaf none)) (.leaf none)
theorem Zuz (a : HL Zh) : Zk (envX Tryz.prog (ZU 17) [] 1125900980585471 8) Tryz.f113 Zh Zy a = ZkN a.1 a.2.1 a.2.2 := by kernel_rfl
def ZkJ (c : TC) (s : Int) (g : List Int) : RT (Option (TY × Bool)) :=
 let x1 : QT0 := (c, s == 5, g, (0, 0, 0, 0, 0, 0, 0, 0), [])
 let x2 := qAtC x1 0
 let x3 := !x2 || (Zc c.1 (qAt x1 0)).1 == 21
 let x4 : List TY := [] ++ [(12, pcOf c, 0, 6)] ++ [(5, u16.wrap ((spOf c) - 1), u8.wrap (shrI u16 (pcOf c) 8), 3)] ++ [(5, u16.wrap ((spOf c) - 2), u8.wrap (pcOf c), 3)]
 let x6 : QT9 := ((pcOf c), 0, 4)
 let x7 : List TY := [] ++ [(bif s == 5 then 8 else 1, x6)]
 let x9 : List TY := [] ++ [(1, x6)]
 .br (!x3 || x2) (.br (x3) (.br (Ze s) (fin3 g x4) (.br (iN (List.length g) == 0) (fin3 g x7) (fin3 g x9))) (.leaf none)) (.leaf none)
theorem Zuv (a : HL Zh) : Zk (envX Tryz.prog (ZU 21) [] 1125900980585471 8) Tryz.f113 Zh Zy a = ZkJ a.1 a.2.1 a.2.2 := by kernel_rfl
def ZkF (c : TC) (s : Int) (g : List Int) : RT (Option (TY × Bool)) :=
 let x1 : QT0 := (c, s == 5, g, (0, 0, 0, 0, 0, 0, 0, 0), [])
 let x2 := qAtC x1 0
 let x3 := Zc c.1 (qAt x1 0)
 let x4 := !x2 || x3.1 == 25
 let x5 := u16.wrap ((spOf c) - 1)
 let x6 := u16.wrap ((spOf c) - 2)
 let x7 : List TY := [] ++ [(12, pcOf c, 0, 6)] ++ [(5, x5, u8.wrap (shrI u16 (pcOf c) 8), 3)] ++ [(5, x6, u8.wrap (pcOf c), 3)]
 let x9 : QT9 := ((pcOf c), 0, 4)
 let x10 : List TY := [] ++ [(bif s == 5 then 8 else 1, x9)]
 let x12 : QT5 := (25, x3.2)
 let x13 : List TY := [] ++ [(1, x9)]
 let x14 := Zfr (c, s == 5, g, x12, x13)
 let x15 : List TY := [(9, pcOf c, 0, 3)]
 let x16 : List TY := bif s == 5 then x13 ++ x15 else x13 ++ [(2, u16.wrap ((pcOf c) + u16.wrap 1), 0, 3)]
 let x17 : List TY := bif !x14 && c.1 == 2 then x16 else bif s == 5 then x16 ++ x15 else x16 ++ [(2, u16.wrap ((pcOf c) + u16.wrap (i64.wrap (1 + 1))), 0, 3)]
 let x18 := Zv (c, s == 5, g, x12, x17)
 let x19 : List TY := bif x14 then x17 ++ [(5, x5, u8.wrap (shrI u16 x18 8), 3)] ++ [(5, x6, u8.wrap x18, 3)] else x17
 .br (!x4 || x2) (.br (x4) (.br (Ze s) (fin3 g x7) (.br (iN (List.length g) == 0) (fin3 g x10) (fin3 g x19))) (.leaf none)) (.leaf none)
theorem Zur (a : HL Zh) : Zk (envX Tryz.prog (ZU 25) [] 1125900980585471 8) Tryz.f113 Zh Zy a = ZkF a.1 a.2.1 a.2.2 := by kernel_rfl
def ZkB (c : TC) (s : Int) (g : List Int) : RT (Option (TY × Bool)) :=
 let x1 : QT0 := (c, s == 5, g, (0, 0, 0, 0, 0, 0, 0, 0), [])
 let x2 := qAtC x1 0
 let x3 := !x2 || (Zc c.1 (qAt x1 0)).1 == 29
 let x4 : List TY := [] ++ [(12, pcOf c, 0, 6)] ++ [(5, u16.wrap ((spOf c) - 1), u8.wrap (shrI u16 (pcOf c) 8), 3)] ++ [(5, u16.wrap ((spOf c) - 2), u8.wrap (pcOf c), 3)]
 let x6 : QT9 := ((pcOf c), 0, 4)
 let x7 : List TY := [] ++ [(bif s == 5 then 8 else 1, x6)]
 let x9 : List TY := [] ++ [(1, x6)]
 .br (!x3 || x2) (.br (x3) (.br (Ze s) (fin3 g x4) (.br (iN (List.length g) == 0) (fin3 g x7) (fin3 g x9))) (.leaf none)) (.leaf none)
theorem Zun (a : HL Zh) : Zk (envX Tryz.prog (ZU 29) [] 1125900980585471 8) Tryz.f113 Zh Zy a = ZkB a.1 a.2.1 a.2.2 := by kernel_rfl
def Zkx (c : TC) (s : Int) (g : List Int) : RT (Option (TY × Bool)) :=
 let x1 : QT0 := (c, s == 5, g, (0, 0, 0, 0, 0, 0, 0, 0), [])
 let x2 := qAtC x1 0
 let x3 := Zc c.1 (qAt x1 0)
 let x4 := !x2 || x3.1 == 33
 let x5 : QT9 := ((pcOf c), 0, 4)
 let x6 : List TY := [] ++ [(1, x5)]
 let x7 : List TY := bif s == 5 then x6 ++ [(9, pcOf c, 0, 3)] else x6 ++ [(2, u16.wrap ((pcOf c) + u16.wrap 1), 0, 3)]
 let x8 : QT0 := (c, s == 5, g, (33, x3.2), x7)
 let x9 := qAtC x8 1
 let x10 := !x9 || x9
 let x11 := !x10 || x9
 let x12 := Ze s || (iN (List.length g) == 0 || (!x11 || x10))
 let x13 : List TY := [] ++ [(12, pcOf c, 0, 6)] ++ [(5, u16.wrap ((spOf c) - 1), u8.wrap (shrI u16 (pcOf c) 8), 3)] ++ [(5, u16.wrap ((spOf c) - 2), u8.wrap (pcOf c), 3)]
 let x15 : List TY := [] ++ [(bif s == 5 then 8 else 1, x5)]
 let x17 := qAt x8 1
 let x18 : List TY := x7 ++ [(6, ZdC x17 x17, 0, 3)]
 .br (!x4 || x2) (.br (x4) (.br (!x12 || (Ze s || (iN (List.length g) == 0 || x11))) (.br (x12) (.br (Ze s) (fin3 g x13) (.br (iN (List.length g) == 0) (fin3 g x15) (fin3 g x18))) (.leaf none)) (.leaf none)) (.leaf none)) (.leaf none)
theorem Zuj (a : HL Zh) : Zk (envX Tryz.prog (ZU 33) [] 1125900980585471 8) Tryz.f113 Zh Zy a = Zkx a.1 a.2.1 a.2.2 := by kernel_rfl
def Zkt (c : TC) (s : Int) (g : List Int) : RT (Option (TY × Bool)) :=
 let x1 : QT0 := (c, s == 5, g, (0, 0, 0, 0, 0, 0, 0, 0), [])
 let x2 := qAtC x1 0
 let x3 := !x2 || (Zc c.1 (qAt x1 0)).1 == 37
 let x4 : List TY := [] ++ [(12, pcOf c, 0, 6)] ++ [(5, u16.wrap ((spOf c) - 1), u8.wrap (shrI u16 (pcOf c) 8), 3)] ++ [(5, u16.wrap ((spOf c) - 2), u8.wrap (pcOf c), 3)]
 let x6 : QT9 := ((pcOf c), 0, 4)
 let x7 : List TY := [] ++ [(bif s == 5 then 8 else 1, x6)]
 let x9 : List TY := [] ++ [(1, x6)]
 let x10 : List TY := bif c.1 != 2 then x9 ++ [(10, pcOf c, 0, 3)] else x9
 .br (!x3 || x2) (.br (x3) (.br (Ze s) (fin3 g x4) (.br (iN (List.length g) == 0) (fin3 g x7) (fin3 g x10))) (.leaf none)) (.leaf none)
theorem Zuf (a : HL Zh) : Zk (envX Tryz.prog (ZU 37) [] 1125900980585471 8) Tryz.f113 Zh Zy a = Zkt a.1 a.2.1 a.2.2 := by kernel_rfl
def Zkp (c : TC) (s : Int) (g : List Int) : RT (Option (TY × Bool)) :=
 let x1 : QT0 := (c, s == 5, g, (0, 0, 0, 0, 0, 0, 0, 0), [])
 let x2 := qAtC x1 0
 let x3 := !x2 || (Zc c.1 (qAt x1 0)).1 == 41
 let x4 : List TY := [] ++ [(12, pcOf c, 0, 6)] ++ [(5, u16.wrap ((spOf c) - 1), u8.wrap (shrI u16 (pcOf c) 8), 3)] ++ [(5, u16.wrap ((spOf c) - 2), u8.wrap (pcOf c), 3)]
 let x6 : QT9 := ((pcOf c), 0, 4)
 let x7 : List TY := [] ++ [(bif s == 5 then 8 else 1, x6)]
 let x9 : List TY := [] ++ [(1, x6)] ++ [(11, pcOf c, 0, 3)]
 .br (!x3 || x2) (.br (x3) (.br (Ze s) (fin3 g x4) (.br (iN (List.length g) == 0) (fin3 g x7) (fin3 g x9))) (.leaf none)) (.leaf none)
theorem Zub (a : HL Zh) : Zk (envX Tryz.prog (ZU 41) [] 1125900980585471 8) Tryz.f113 Zh Zy a = Zkp a.1 a.2.1 a.2.2 := by kernel_rfl
def Zkl (c : TC) (s : Int) (g : List Int) : RT (Option (TY × Bool)) :=
 let x1 : QT0 := (c, s == 5, g, (0, 0, 0, 0, 0, 0, 0, 0), [])
 let x2 := qAtC x1 0
 let x3 := Zc c.1 (qAt x1 0)
 let x4 := !x2 || x3.1 == 45
 let x5 := u16.wrap ((spOf c) - 1)
 let x6 := u16.wrap ((spOf c) - 2)
 let x7 : List TY := [] ++ [(12, pcOf c, 0, 6)] ++ [(5, x5, u8.wrap (shrI u16 (pcOf c) 8), 3)] ++ [(5, x6, u8.wrap (pcOf c), 3)]
 let x9 : QT9 := ((pcOf c), 0, 4)
 let x10 : List TY := [] ++ [(bif s == 5 then 8 else 1, x9)]
 let x12 : List TY := [] ++ [(1, x9)]
 let x13 : QT0 := (c, s == 5, g, (45, x3.2), x12)
 let x14 := Zv x13
 let x15 : List TY := bif Zfr x13 then x12 ++ [(5, x5, u8.wrap (shrI u16 x14 8), 3)] ++ [(5, x6, u8.wrap x14, 3)] else x12
 .br (!x4 || x2) (.br (x4) (.br (Ze s) (fin3 g x7) (.br (iN (List.length g) == 0) (fin3 g x10) (fin3 g x15))) (.leaf none)) (.leaf none)
theorem Zt7 (a : HL Zh) : Zk (envX Tryz.prog (ZU 45) [] 1125900980585471 8) Tryz.f113 Zh Zy a = Zkl a.1 a.2.1 a.2.2 := by kernel_rfl
def ZnS (c : TC) (s : Int) (g : List Int) : RT (Option (TY × Bool)) :=
 let x1 : List TY := [(12, pcOf c, 0, 6)] ++ [(5, u16.wrap ((spOf c) - 1), u8.wrap (shrI u16 (pcOf c) 8), 3)] ++ [(5, u16.wrap ((spOf c) - 2), u8.wrap (pcOf c), 3)]
 let x3 : List TY := [(bif s == 5 then 8 else 1, pcOf c, 0, 4)]
 let x4 : List TY := x3 ++ [(2, ZaW c.2.1 2, 0, 3)]
 let x6 : List TY := x3 ++ [(3, ZaW c.2.1 2, rGet c.2.1 (Zc c.1 (R.get (R.int u8) g 0)).2.2.2.1, 3)]
 let x8 : Nat := List.length x3
 let x9 := decide (iN (List.length g) ≥ iN x8)
 let x10 := Zf (iN (List.length g)) x8
 let x11 : TY × Bool := (R.get (RY) x3 (iN (List.length g)), true)
 .br (Za s || (!decide (iN (List.length g) > 0) || (!Zf 0 (List.length g) || (Zc c.1 (R.get (R.int u8) g 0)).1 == 2))) (.br (Za s || (!decide (iN (List.length g) > 0) || Zf 0 (List.length g))) (.br (Za s) (fin3 g x1) (.br (decide (iN (List.length g) > 0)) (.br ((Zc c.1 (R.get (R.int u8) g 0)).2.2.2.1 == 6) (fin3 g x4) (.br ((Zc c.1 (R.get (R.int u8) g 0)).2.2.1 == 6) (fin3 g x6) (.br (x9) (.leaf (some (((0, 0, 0, 0), false)))) (.br (x10) (.leaf (some (x11))) (.leaf none))))) (.br (x9) (.leaf (some (((0, 0, 0, 0), false)))) (.br (x10) (.leaf (some (x11))) (.leaf none))))) (.leaf none)) (.leaf none)
theorem ZyA (a : HL Zg) : Zk (envX Tryz.prog (ZT 2) [] 2047 8) Tryz.f42 Zg Zx a = ZnS a.1 a.2.1 a.2.2 := by kernel_rfl
def ZnO (c : TC) (s : Int) (g : List Int) : RT (Option (TY × Bool)) :=
 let x1 : List TY := [(bif s == 5 then 8 else 1, pcOf c, 0, 4)]
 let x2 : List TY := [(9, pcOf c, 0, 3)]
 let x3 : List TY := x1 ++ x2
 let x4 : List TY := [(2, u16.wrap ((pcOf c) + u16.wrap (i64.wrap (1 + 1))), 0, 3)]
 let x5 : List TY := bif s == 5 then x3 ++ x2 else x3 ++ x4
 let x6 : QT4 := (c, s == 5, g, x5)
 let x7 := !s == 5 || Zda x6 1
 let x8 : List TY := x1 ++ [(2, u16.wrap ((pcOf c) + u16.wrap 1), 0, 3)]
 let x9 : List TY := bif s == 5 then x8 ++ x2 else x8 ++ x4
 let x10 : QT4 := (c, s == 5, g, x9)
 let x11 : List TY := [(12, pcOf c, 0, 6)] ++ [(5, u16.wrap ((spOf c) - 1), u8.wrap (shrI u16 (pcOf c) 8), 3)] ++ [(5, u16.wrap ((spOf c) - 2), u8.wrap (pcOf c), 3)]
 let x13 : List TY := x5 ++ [(3, ZfM x6 1, c.2.1.1, 3)]
 let x15 : List TY := x9 ++ [(3, ZfM x10 1, c.2.1.1, 3)]
 .br (Za s || (!decide (iN (List.length g) > 0) || (!Zf 0 (List.length g) || (!(Zc c.1 (R.get (R.int u8) g 0)).1 == 6 || (!x7 || (s == 5 || Zda x10 1)))))) (.br (Za s || (!decide (iN (List.length g) > 0) || (!Zf 0 (List.length g) || (!(Zc c.1 (R.get (R.int u8) g 0)).1 == 6 || x7)))) (.br (Za s || (!decide (iN (List.length g) > 0) || (!Zf 0 (List.length g) || (Zc c.1 (R.get (R.int u8) g 0)).1 == 6))) (.br (Za s || (!decide (iN (List.length g) > 0) || Zf 0 (List.length g))) (.br (Za s) (fin3 g x11) (.br (decide (iN (List.length g) > 0)) (.br (s == 5) (fin3 g x13) (fin3 g x15)) (fin3 g x1))) (.leaf none)) (.leaf none)) (.leaf none)) (.leaf none)
theorem Zyw (a : HL Zg) : Zk (envX Tryz.prog (ZT 6) [] 2047 8) Tryz.f42 Zg Zx a = ZnO a.1 a.2.1 a.2.2 := by kernel_rfl
def ZjR (c : TC) (s : Int) (g : List Int) : RT (Option (TY × Bool)) :=
 let x1 : List TY := [(12, pcOf c, 0, 6)] ++ [(5, u16.wrap ((spOf c) - 1), u8.wrap (shrI u16 (pcOf c) 8), 3)] ++ [(5, u16.wrap ((spOf c) - 2), u8.wrap (pcOf c), 3)]
 let x3 : List TY := [(bif s == 5 then 8 else 1, pcOf c, 0, 4)]
 let x4 : List TY := x3 ++ [(3, ZaW c.2.1 (Zc c.1 (R.get (R.int u8) g 0)).2.2.2.2.1, c.2.1.1, 3)]
 .br (Za s || (!decide (iN (List.length g) > 0) || (!Zf 0 (List.length g) || (Zc c.1 (R.get (R.int u8) g 0)).1 == 10))) (.br (Za s || (!decide (iN (List.length g) > 0) || Zf 0 (List.length g))) (.br (Za s) (fin3 g x1) (.br (decide (iN (List.length g) > 0)) (fin3 g x4) (fin3 g x3))) (.leaf none)) (.leaf none)
theorem Ztw (a : HL Zg) : Zk (envX Tryz.prog (ZT 10) [] 2047 8) Tryz.f42 Zg Zx a = ZjR a.1 a.2.1 a.2.2 := by kernel_rfl
def ZjN (c : TC) (s : Int) (g : List Int) : RT (Option (TY × Bool)) :=
 let x1 : List TY := [(bif s == 5 then 8 else 1, pcOf c, 0, 4)]
 let x2 : QT4 := (c, s == 5, g, x1)
 let x3 : List TY := [(12, pcOf c, 0, 6)] ++ [(5, u16.wrap ((spOf c) - 1), u8.wrap (shrI u16 (pcOf c) 8), 3)] ++ [(5, u16.wrap ((spOf c) - 2), u8.wrap (pcOf c), 3)]
 let x5 : List TY := x1 ++ [(2, ZaW c.2.1 2, 0, 3)] ++ [(3, ZaW c.2.1 2, (Zit c (14, (Zc c.1 (R.get (R.int u8) g 0)).2) (mAt x2 1)).1, 3)]
 let x7 : Nat := List.length x1
 let x8 := decide (iN (List.length g) ≥ iN x7)
 let x9 := Zf (iN (List.length g)) x7
 let x10 : TY × Bool := (R.get (RY) x1 (iN (List.length g)), true)
 .br (Za s || (!decide (iN (List.length g) > 0) || (!Zf 0 (List.length g) || (!(Zc c.1 (R.get (R.int u8) g 0)).1 == 14 || (!(Zc c.1 (R.get (R.int u8) g 0)).2.2.1 == 6 || mAtC x2 1))))) (.br (Za s || (!decide (iN (List.length g) > 0) || (!Zf 0 (List.length g) || (Zc c.1 (R.get (R.int u8) g 0)).1 == 14))) (.br (Za s || (!decide (iN (List.length g) > 0) || Zf 0 (List.length g))) (.br (Za s) (fin3 g x3) (.br (decide (iN (List.length g) > 0)) (.br ((Zc c.1 (R.get (R.int u8) g 0)).2.2.1 == 6) (fin3 g x5) (.br (x8) (.leaf (some (((0, 0, 0, 0), false)))) (.br (x9) (.leaf (some (x10))) (.leaf none)))) (.br (x8) (.leaf (some (((0, 0, 0, 0), false)))) (.br (x9) (.leaf (some (x10))) (.leaf none))))) (.leaf none)) (.leaf none)) (.leaf none)
theorem Zts (a : HL Zg) : Zk (envX Tryz.prog (ZT 14) [] 2047 8) Tryz.f42 Zg Zx a = ZjN a.1 a.2.1 a.2.2 := by kernel_rfl
def ZjJ (c : TC) (s : Int) (g : List Int) : RT (Option (TY × Bool)) :=
 let x1 : List TY := [(12, pcOf c, 0, 6)] ++ [(5, u16.wrap ((spOf c) - 1), u8.wrap (shrI u16 (pcOf c) 8), 3)] ++ [(5, u16.wrap ((spOf c) - 2), u8.wrap (pcOf c), 3)]
 let x3 : List TY := [(bif s == 5 then 8 else 1, pcOf c, 0, 4)]
 let x4 : List TY := [(11, pcOf c, 0, 3)]
 let x5 : List TY := x3 ++ x4 ++ x4
 .br (Za s || (!decide (iN (List.length g) > 0) || (!Zf 0 (List.length g) || (Zc c.1 (R.get (R.int u8) g 0)).1 == 18))) (.br (Za s || (!decide (iN (List.length g) > 0) || Zf 0 (List.length g))) (.br (Za s) (fin3 g x1) (.br (decide (iN (List.length g) > 0)) (fin3 g x5) (fin3 g x3))) (.leaf none)) (.leaf none)
theorem Zto (a : HL Zg) : Zk (envX Tryz.prog (ZT 18) [] 2047 8) Tryz.f42 Zg Zx a = ZjJ a.1 a.2.1 a.2.2 := by kernel_rfl
def ZjF (c : TC) (s : Int) (g : List Int) : RT (Option (TY × Bool)) :=
 let x1 : List TY := [(12, pcOf c, 0, 6)] ++ [(5, u16.wrap ((spOf c) - 1), u8.wrap (shrI u16 (pcOf c) 8), 3)] ++ [(5, u16.wrap ((spOf c) - 2), u8.wrap (pcOf c), 3)]
 let x3 : List TY := [(bif s == 5 then 8 else 1, pcOf c, 0, 4)]
 .br (Za s || (!decide (iN (List.length g) > 0) || (!Zf 0 (List.length g) || (Zc c.1 (R.get (R.int u8) g 0)).1 == 22))) (.br (Za s || (!decide (iN (List.length g) > 0) || Zf 0 (List.length g))) (.br (Za s) (fin3 g x1) (fin3 g x3)) (.leaf none)) (.leaf none)
theorem Ztk (a : HL Zg) : Zk (envX Tryz.prog (ZT 22) [] 2047 8) Tryz.f42 Zg Zx a = ZjF a.1 a.2.1 a.2.2 := by kernel_rfl
def ZjB (c : TC) (s : Int) (g : List Int) : RT (Option (TY × Bool)) :=
 let x1 : List TY := [(12, pcOf c, 0, 6)] ++ [(5, u16.wrap ((spOf c) - 1), u8.wrap (shrI u16 (pcOf c) 8), 3)] ++ [(5, u16.wrap ((spOf c) - 2), u8.wrap (pcOf c), 3)]
 let x3 : List TY := [(bif s == 5 then 8 else 1, pcOf c, 0, 4)]
 let x4 : List TY := x3 ++ [(4, spOf c, 0, 3)] ++ [(4, u16.wrap ((spOf c) + 1), 0, 3)]
 let x6 : Nat := List.length x3
 let x7 := decide (iN (List.length g) ≥ iN x6)
 let x8 := Zf (iN (List.length g)) x6
 let x9 : TY × Bool := (R.get (RY) x3 (iN (List.length g)), true)
 .br (Za s || (!decide (iN (List.length g) > 0) || (!Zf 0 (List.length g) || (Zc c.1 (R.get (R.int u8) g 0)).1 == 26))) (.br (Za s || (!decide (iN (List.length g) > 0) || Zf 0 (List.length g))) (.br (Za s) (fin3 g x1) (.br (decide (iN (List.length g) > 0)) (.br (Zfw (c, s == 5, g, x3) (26, (Zc c.1 (R.get (R.int u8) g 0)).2)) (fin3 g x4) (.br (x7) (.leaf (some (((0, 0, 0, 0), false)))) (.br (x8) (.leaf (some (x9))) (.leaf none)))) (.br (x7) (.leaf (some (((0, 0, 0, 0), false)))) (.br (x8) (.leaf (some (x9))) (.leaf none))))) (.leaf none)) (.leaf none)
theorem Ztg (a : HL Zg) : Zk (envX Tryz.prog (ZT 26) [] 2047 8) Tryz.f42 Zg Zx a = ZjB a.1 a.2.1 a.2.2 := by kernel_rfl
def Zjx (c : TC) (s : Int) (g : List Int) : RT (Option (TY × Bool)) :=
 let x1 := u16.wrap ((spOf c) - 1)
 let x2 := u16.wrap ((spOf c) - 2)
 let x3 : List TY := [(12, pcOf c, 0, 6)] ++ [(5, x1, u8.wrap (shrI u16 (pcOf c) 8), 3)] ++ [(5, x2, u8.wrap (pcOf c), 3)]
 let x5 : List TY := [(bif s == 5 then 8 else 1, pcOf c, 0, 4)]
 let x6 : Int := bif (Zc c.1 (R.get (R.int u8) g 0)).2.2.2.2.1 == 3 then rPSW c.1 c.2.1 else ZaW c.2.1 (Zc c.1 (R.get (R.int u8) g 0)).2.2.2.2.1
 let x7 : List TY := x5 ++ [(5, x1, u8.wrap (shrI u16 x6 8), 3)] ++ [(5, x2, u8.wrap x6, 3)]
 .br (Za s || (!decide (iN (List.length g) > 0) || (!Zf 0 (List.length g) || (Zc c.1 (R.get (R.int u8) g 0)).1 == 30))) (.br (Za s || (!decide (iN (List.length g) > 0) || Zf 0 (List.length g))) (.br (Za s) (fin3 g x3) (.br (decide (iN (List.length g) > 0)) (fin3 g x7) (fin3 g x5))) (.leaf none)) (.leaf none)
theorem Ztc (a : HL Zg) : Zk (envX Tryz.prog (ZT 30) [] 2047 8) Tryz.f42 Zg Zx a = Zjx a.1 a.2.1 a.2.2 := by kernel_rfl
def Zjt (c : TC) (s : Int) (g : List Int) : RT (Option (TY × Bool)) :=
 let x1 : List TY := [(bif s == 5 then 8 else 1, pcOf c, 0, 4)]
 let x2 : List TY := x1 ++ [(9, pcOf c, 0, 3)]
 let x3 : QT4 := (c, s == 5, g, x2)
 let x4 := mAtC x3 1
 let x5 := !x4 || x4
 let x6 := !s == 5 || (!x5 || x4)
 let x7 := !x6
 let x8 := !s == 5 || x5
 let x9 := !x8
 let x10 : List TY := x1 ++ [(2, u16.wrap ((pcOf c) + u16.wrap 1), 0, 3)]
 let x11 : QT4 := (c, s == 5, g, x10)
 let x12 := mAtC x11 1
 let x13 := !x12 || x12
 let x14 := s == 5 || (!x13 || x12)
 let x15 : List TY := [(12, pcOf c, 0, 6)] ++ [(5, u16.wrap ((spOf c) - 1), u8.wrap (shrI u16 (pcOf c) 8), 3)] ++ [(5, u16.wrap ((spOf c) - 2), u8.wrap (pcOf c), 3)]
 let x17 := mAt x3 1
 let x18 : List TY := x2 ++ [(7, ZdC x17 x17, c.2.1.1, 3)]
 let x20 := mAt x11 1
 let x21 : List TY := x10 ++ [(7, ZdC x20 x20, c.2.1.1, 3)]
 .br (Za s || (!decide (iN (List.length g) > 0) || (!Zf 0 (List.length g) || (!(Zc c.1 (R.get (R.int u8) g 0)).1 == 34 || (x7 || (x9 || (!x14 || (s == 5 || x13)))))))) (.br (Za s || (!decide (iN (List.length g) > 0) || (!Zf 0 (List.length g) || (!(Zc c.1 (R.get (R.int u8) g 0)).1 == 34 || (x7 || (x9 || x14)))))) (.br (Za s || (!decide (iN (List.length g) > 0) || (!Zf 0 (List.length g) || (!(Zc c.1 (R.get (R.int u8) g 0)).1 == 34 || (x7 || x8))))) (.br (Za s || (!decide (iN (List.length g) > 0) || (!Zf 0 (List.length g) || (!(Zc c.1 (R.get (R.int u8) g 0)).1 == 34 || x6)))) (.br (Za s || (!decide (iN (List.length g) > 0) || (!Zf 0 (List.length g) || (Zc c.1 (R.get (R.int u8) g 0)).1 == 34))) (.br (Za s || (!decide (iN (List.length g) > 0) || Zf 0 (List.length g))) (.br (Za s) (fin3 g x15) (.br (decide (iN (List.length g) > 0)) (.br (s == 5) (fin3 g x18) (fin3 g x21)) (fin3 g x1))) (.leaf none)) (.leaf none)) (.leaf none)) (.leaf none)) (.leaf none)) (.leaf none)
theorem Zs8 (a : HL Zg) : Zk (envX Tryz.prog (ZT 34) [] 2047 8) Tryz.f42 Zg Zx a = Zjt a.1 a.2.1 a.2.2 := by kernel_rfl
def Zjp (c : TC) (s : Int) (g : List Int) : RT (Option (TY × Bool)) :=
 let x1 : List TY := [(12, pcOf c, 0, 6)] ++ [(5, u16.wrap ((spOf c) - 1), u8.wrap (shrI u16 (pcOf c) 8), 3)] ++ [(5, u16.wrap ((spOf c) - 2), u8.wrap (pcOf c), 3)]
 let x3 : List TY := [(bif s == 5 then 8 else 1, pcOf c, 0, 4)]
 .br (Za s || (!decide (iN (List.length g) > 0) || (!Zf 0 (List.length g) || (Zc c.1 (R.get (R.int u8) g 0)).1 == 38))) (.br (Za s || (!decide (iN (List.length g) > 0) || Zf 0 (List.length g))) (.br (Za s) (fin3 g x1) (fin3 g x3)) (.leaf none)) (.leaf none)
theorem Zs4 (a : HL Zg) : Zk (envX Tryz.prog (ZT 38) [] 2047 8) Tryz.f42 Zg Zx a = Zjp a.1 a.2.1 a.2.2 := by kernel_rfl
def Zjl (c : TC) (s : Int) (g : List Int) : RT (Option (TY × Bool)) :=
 let x1 : List TY := [(12, pcOf c, 0, 6)] ++ [(5, u16.wrap ((spOf c) - 1), u8.wrap (shrI u16 (pcOf c) 8), 3)] ++ [(5, u16.wrap ((spOf c) - 2), u8.wrap (pcOf c), 3)]
 let x3 : List TY := [(bif s == 5 then 8 else 1, pcOf c, 0, 4)]
 let x4 : List TY := [(11, pcOf c, 0, 3)]
 let x5 : List TY := x3 ++ x4 ++ x4
 .br (Za s || (!decide (iN (List.length g) > 0) || (!Zf 0 (List.length g) || (Zc c.1 (R.get (R.int u8) g 0)).1 == 42))) (.br (Za s || (!decide (iN (List.length g) > 0) || Zf 0 (List.length g))) (.br (Za s) (fin3 g x1) (.br (decide (iN (List.length g) > 0)) (fin3 g x5) (fin3 g x3))) (.leaf none)) (.leaf none)
theorem Zs0 (a : HL Zg) : Zk (envX Tryz.prog (ZT 42) [] 2047 8) Tryz.f42 Zg Zx a = Zjl a.1 a.2.1 a.2.2 := by kernel_rfl
def Zjh (c : TC) (s : Int) (g : List Int) : RT (Option (TY × Bool)) :=
 let x1 : List TY := [(12, pcOf c, 0, 6)] ++ [(5, u16.wrap ((spOf c) - 1), u8.wrap (shrI u16 (pcOf c) 8), 3)] ++ [(5, u16.wrap ((spOf c) - 2), u8.wrap (pcOf c), 3)]
 let x3 : List TY := [(bif s == 5 then 8 else 1, pcOf c, 0, 4)]
 let x4 : List TY := x3 ++ [(3, ZaW c.2.1 1, c.2.1.2.2.2.2.2.2.1, 3)] ++ [(3, u16.wrap (ZaW c.2.1 1 + 1), c.2.1.2.2.2.2.2.1, 3)]
 .br (Za s || (!decide (iN (List.length g) > 0) || (!Zf 0 (List.length g) || (Zc c.1 (R.get (R.int u8) g 0)).1 == 46))) (.br (Za s || (!decide (iN (List.length g) > 0) || Zf 0 (List.length g))) (.br (Za s) (fin3 g x1) (.br (decide (iN (List.length g) > 0)) (fin3 g x4) (fin3 g x3))) (.leaf none)) (.leaf none)
theorem ZsW (a : HL Zg) : Zk (envX Tryz.prog (ZT 46) [] 2047 8) Tryz.f42 Zg Zx a = Zjh a.1 a.2.1 a.2.2 := by kernel_rfl
def Zoz (c : TC) (s : Int) (g : List Int) : RT (Option (TY × Bool)) :=
 let x1 : QT0 := (c, s == 5, g, (0, 0, 0, 0, 0, 0, 0, 0), [])
 let x2 := qAtC x1 0
 let x3 := Zc c.1 (qAt x1 0)
 let x4 := !x2 || x3.1 == 2
 let x5 : List TY := [] ++ [(12, pcOf c, 0, 6)] ++ [(5, u16.wrap ((spOf c) - 1), u8.wrap (shrI u16 (pcOf c) 8), 3)] ++ [(5, u16.wrap ((spOf c) - 2), u8.wrap (pcOf c), 3)]
 let x7 : QT9 := ((pcOf c), 0, 4)
 let x8 : List TY := [] ++ [(bif s == 5 then 8 else 1, x7)]
 let x10 := x3.2
 let x11 := x10.2
 let x12 := x11.2.1
 let x13 : List TY := [] ++ [(1, x7)]
 let x14 : QT0 := (c, s == 5, g, (2, x10), x13)
 let x15 := Zc3 x14 2
 let x16 : List TY := bif x12 == 6 then x13 ++ [(2, x15, 0, 3)] else bif x11.1 == 6 then x13 ++ [(3, x15, qReg x14 x12, 3)] else x13
 .br (!x4 || x2) (.br (x4) (.br (Ze s) (fin3 g x5) (.br (iN (List.length g) == 0) (fin3 g x8) (fin3 g x16))) (.leaf none)) (.leaf none)
theorem Zy4 (a : HL Zh) : Zk (envX Tryz.prog (ZU 2) [] 1125900980585471 8) Tryz.f113 Zh Zy a = Zoz a.1 a.2.1 a.2.2 := by kernel_rfl
def Zov (c : TC) (s : Int) (g : List Int) : RT (Option (TY × Bool)) :=
 let x1 : QT0 := (c, s == 5, g, (0, 0, 0, 0, 0, 0, 0, 0), [])
 let x2 := qAtC x1 0
 let x3 := Zc c.1 (qAt x1 0)
 let x4 := !x2 || x3.1 == 6
 let x5 : QT9 := ((pcOf c), 0, 4)
 let x6 : List TY := [] ++ [(1, x5)]
 let x7 : List TY := [(9, pcOf c, 0, 3)]
 let x8 : List TY := bif s == 5 then x6 ++ x7 else x6 ++ [(2, u16.wrap ((pcOf c) + u16.wrap 1), 0, 3)]
 let x9 : List TY := bif s == 5 then x8 ++ x7 else x8 ++ [(2, u16.wrap ((pcOf c) + u16.wrap (i64.wrap (1 + 1))), 0, 3)]
 let x10 : QT0 := (c, s == 5, g, (6, x3.2), x9)
 let x11 : List TY := [] ++ [(12, pcOf c, 0, 6)] ++ [(5, u16.wrap ((spOf c) - 1), u8.wrap (shrI u16 (pcOf c) 8), 3)] ++ [(5, u16.wrap ((spOf c) - 2), u8.wrap (pcOf c), 3)]
 let x13 : List TY := [] ++ [(bif s == 5 then 8 else 1, x5)]
 let x15 : List TY := x9 ++ [(3, ZeC x10 1, c.2.1.1, 3)]
 .br (!x4 || x2) (.br (x4) (.br (Ze s || (iN (List.length g) == 0 || ZbY x10 1)) (.br (Ze s) (fin3 g x11) (.br (iN (List.length g) == 0) (fin3 g x13) (fin3 g x15))) (.leaf none)) (.leaf none)) (.leaf none)
theorem Zy0 (a : HL Zh) : Zk (envX Tryz.prog (ZU 6) [] 1125900980585471 8) Tryz.f113 Zh Zy a = Zov a.1 a.2.1 a.2.2 := by kernel_rfl
def ZkU (c : TC) (s : Int) (g : List Int) : RT (Option (TY × Bool)) :=
 let x1 : QT0 := (c, s == 5, g, (0, 0, 0, 0, 0, 0, 0, 0), [])
 let x2 := qAtC x1 0
 let x3 := Zc c.1 (qAt x1 0)
 let x4 := !x2 || x3.1 == 10
 let x5 : List TY := [] ++ [(12, pcOf c, 0, 6)] ++ [(5, u16.wrap ((spOf c) - 1), u8.wrap (shrI u16 (pcOf c) 8), 3)] ++ [(5, u16.wrap ((spOf c) - 2), u8.wrap (pcOf c), 3)]
 let x7 : QT9 := ((pcOf c), 0, 4)
 let x8 : List TY := [] ++ [(bif s == 5 then 8 else 1, x7)]
 let x10 : List TY := [] ++ [(1, x7)]
 let x11 := x3.2
 let x12 : List TY := x10 ++ [(3, Zc3 (c, s == 5, g, (10, x11), x10) x11.2.2.2.1, c.2.1.1, 3)]
 .br (!x4 || x2) (.br (x4) (.br (Ze s) (fin3 g x5) (.br (iN (List.length g) == 0) (fin3 g x8) (fin3 g x12))) (.leaf none)) (.leaf none)
theorem ZuG (a : HL Zh) : Zk (envX Tryz.prog (ZU 10) [] 1125900980585471 8) Tryz.f113 Zh Zy a = ZkU a.1 a.2.1 a.2.2 := by kernel_rfl
def ZkQ (c : TC) (s : Int) (g : List Int) : RT (Option (TY × Bool)) :=
 let x1 : QT0 := (c, s == 5, g, (0, 0, 0, 0, 0, 0, 0, 0), [])
 let x2 := qAtC x1 0
 let x3 := Zc c.1 (qAt x1 0)
 let x4 := !x2 || x3.1 == 14
 let x5 := x3.2
 let x6 := x5.2.1 == 6
 let x7 : QT5 := (14, x5)
 let x8 : QT9 := ((pcOf c), 0, 4)
 let x9 : List TY := [] ++ [(1, x8)]
 let x10 := Zc3 (c, s == 5, g, x7, x9) 2
 let x11 : List TY := x9 ++ [(2, x10, 0, 3)]
 let x12 : QT0 := (c, s == 5, g, x7, x11)
 let x13 : List TY := [] ++ [(12, pcOf c, 0, 6)] ++ [(5, u16.wrap ((spOf c) - 1), u8.wrap (shrI u16 (pcOf c) 8), 3)] ++ [(5, u16.wrap ((spOf c) - 2), u8.wrap (pcOf c), 3)]
 let x15 : List TY := [] ++ [(bif s == 5 then 8 else 1, x8)]
 let x17 : List TY := bif x6 then x11 ++ [(3, x10, Zgi x12, 3)] else x9
 .br (!x4 || x2) (.br (x4) (.br (Ze s || (iN (List.length g) == 0 || (!x6 || ZeD x12))) (.br (Ze s) (fin3 g x13) (.br (iN (List.length g) == 0) (fin3 g x15) (fin3 g x17))) (.leaf none)) (.leaf none)) (.leaf none)
theorem ZuC (a : HL Zh) : Zk (envX Tryz.prog (ZU 14) [] 1125900980585471 8) Tryz.f113 Zh Zy a = ZkQ a.1 a.2.1 a.2.2 := by kernel_rfl
def ZkM (c : TC) (s : Int) (g : List Int) : RT (Option (TY × Bool)) :=
 let x1 : QT0 := (c, s == 5, g, (0, 0, 0, 0, 0, 0, 0, 0), [])
 let x2 := qAtC x1 0
 let x3 := !x2 || (Zc c.1 (qAt x1 0)).1 == 18
 let x4 : List TY := [] ++ [(12, pcOf c, 0, 6)] ++ [(5, u16.wrap ((spOf c) - 1), u8.wrap (shrI u16 (pcOf c) 8), 3)] ++ [(5, u16.wrap ((spOf c) - 2), u8.wrap (pcOf c), 3)]
 let x6 : QT9 := ((pcOf c), 0, 4)
 let x7 : List TY := [] ++ [(bif s == 5 then 8 else 1, x6)]
 let x9 : List TY := [(11, pcOf c, 0, 3)]
 let x10 : List TY := [] ++ [(1, x6)] ++ x9 ++ x9
 .br (!x3 || x2) (.br (x3) (.br (Ze s) (fin3 g x4) (.br (iN (List.length g) == 0) (fin3 g x7) (fin3 g x10))) (.leaf none)) (.leaf none)
theorem Zuy (a : HL Zh) : Zk (envX Tryz.prog (ZU 18) [] 1125900980585471 8) Tryz.f113 Zh Zy a = ZkM a.1 a.2.1 a.2.2 := by kernel_rfl
def ZkI (c : TC) (s : Int) (g : List Int) : RT (Option (TY × Bool)) :=
 let x1 : QT0 := (c, s == 5, g, (0, 0, 0, 0, 0, 0, 0, 0), [])
 let x2 := qAtC x1 0
 let x3 := !x2 || (Zc c.1 (qAt x1 0)).1 == 22
 let x4 : List TY := [] ++ [(12, pcOf c, 0, 6)] ++ [(5, u16.wrap ((spOf c) - 1), u8.wrap (shrI u16 (pcOf c) 8), 3)] ++ [(5, u16.wrap ((spOf c) - 2), u8.wrap (pcOf c), 3)]
 let x6 : QT9 := ((pcOf c), 0, 4)
 let x7 : List TY := [] ++ [(bif s == 5 then 8 else 1, x6)]
 let x9 : List TY := [] ++ [(1, x6)]
 .br (!x3 || x2) (.br (x3) (.br (Ze s) (fin3 g x4) (.br (iN (List.length g) == 0) (fin3 g x7) (fin3 g x9))) (.leaf none)) (.leaf none)
theorem Zuu (a : HL Zh) : Zk (envX Tryz.prog (ZU 22) [] 1125900980585471 8) Tryz.f113 Zh Zy a = ZkI a.1 a.2.1 a.2.2 := by kernel_rfl
def ZkE (c : TC) (s : Int) (g : List Int) : RT (Option (TY × Bool)) :=
 let x1 : QT0 := (c, s == 5, g, (0, 0, 0, 0, 0, 0, 0, 0), [])
 let x2 := qAtC x1 0
 let x3 := Zc c.1 (qAt x1 0)
 let x4 := !x2 || x3.1 == 26
 let x5 : List TY := [] ++ [(12, pcOf c, 0, 6)] ++ [(5, u16.wrap ((spOf c) - 1), u8.wrap (shrI u16 (pcOf c) 8), 3)] ++ [(5, u16.wrap ((spOf c) - 2), u8.wrap (pcOf c), 3)]
 let x7 : QT9 := ((pcOf c), 0, 4)
 let x8 : List TY := [] ++ [(bif s == 5 then 8 else 1, x7)]
 let x10 : List TY := [] ++ [(1, x7)]
 let x11 : List TY := bif Zfr (c, s == 5, g, (26, x3.2), x10) then x10 ++ [(4, spOf c, 0, 3)] ++ [(4, u16.wrap ((spOf c) + 1), 0, 3)] else x10
 .br (!x4 || x2) (.br (x4) (.br (Ze s) (fin3 g x5) (.br (iN (List.length g) == 0) (fin3 g x8) (fin3 g x11))) (.leaf none)) (.leaf none)
theorem Zuq (a : HL Zh) : Zk (envX Tryz.prog (ZU 26) [] 1125900980585471 8) Tryz.f113 Zh Zy a = ZkE a.1 a.2.1 a.2.2 := by kernel_rfl
def ZkA (c : TC) (s : Int) (g : List Int) : RT (Option (TY × Bool)) :=
 let x1 : QT0 := (c, s == 5, g, (0, 0, 0, 0, 0, 0, 0, 0), [])
 let x2 := qAtC x1 0
 let x3 := Zc c.1 (qAt x1 0)
 let x4 := !x2 || x3.1 == 30
 let x5 := u16.wrap ((spOf c) - 1)
 let x6 := u16.wrap ((spOf c) - 2)
 let x7 : List TY := [] ++ [(12, pcOf c, 0, 6)] ++ [(5, x5, u8.wrap (shrI u16 (pcOf c) 8), 3)] ++ [(5, x6, u8.wrap (pcOf c), 3)]
 let x9 : QT9 := ((pcOf c), 0, 4)
 let x10 : List TY := [] ++ [(bif s == 5 then 8 else 1, x9)]
 let x12 : List TY := [] ++ [(1, x9)]
 let x13 := x3.2
 let x14 := x13.2.2.2.1
 let x15 : Int := bif x14 == 3 then rPSW c.1 c.2.1 else Zc3 (c, s == 5, g, (30, x13), x12) x14
 let x16 : List TY := x12 ++ [(5, x5, u8.wrap (shrI u16 x15 8), 3)] ++ [(5, x6, u8.wrap x15, 3)]
 .br (!x4 || x2) (.br (x4) (.br (Ze s) (fin3 g x7) (.br (iN (List.length g) == 0) (fin3 g x10) (fin3 g x16))) (.leaf none)) (.leaf none)
theorem Zum (a : HL Zh) : Zk (envX Tryz.prog (ZU 30) [] 1125900980585471 8) Tryz.f113 Zh Zy a = ZkA a.1 a.2.1 a.2.2 := by kernel_rfl
def Zkw (c : TC) (s : Int) (g : List Int) : RT (Option (TY × Bool)) :=
 let x1 : QT0 := (c, s == 5, g, (0, 0, 0, 0, 0, 0, 0, 0), [])
 let x2 := qAtC x1 0
 let x3 := Zc c.1 (qAt x1 0)
 let x4 := !x2 || x3.1 == 34
 let x5 : QT9 := ((pcOf c), 0, 4)
 let x6 : List TY := [] ++ [(1, x5)]
 let x7 : List TY := bif s == 5 then x6 ++ [(9, pcOf c, 0, 3)] else x6 ++ [(2, u16.wrap ((pcOf c) + u16.wrap 1), 0, 3)]
 let x8 : QT0 := (c, s == 5, g, (34, x3.2), x7)
 let x9 := qAtC x8 1
 let x10 := !x9 || x9
 let x11 := !x10 || x9
 let x12 := Ze s || (iN (List.length g) == 0 || (!x11 || x10))
 let x13 : List TY := [] ++ [(12, pcOf c, 0, 6)] ++ [(5, u16.wrap ((spOf c) - 1), u8.wrap (shrI u16 (pcOf c) 8), 3)] ++ [(5, u16.wrap ((spOf c) - 2), u8.wrap (pcOf c), 3)]
 let x15 : List TY := [] ++ [(bif s == 5 then 8 else 1, x5)]
 let x17 := qAt x8 1
 let x18 : List TY := x7 ++ [(7, ZdC x17 x17, c.2.1.1, 3)]
 .br (!x4 || x2) (.br (x4) (.br (!x12 || (Ze s || (iN (List.length g) == 0 || x11))) (.br (x12) (.br (Ze s) (fin3 g x13) (.br (iN (List.length g) == 0) (fin3 g x15) (fin3 g x18))) (.leaf none)) (.leaf none)) (.leaf none)) (.leaf none)
theorem Zui (a : HL Zh) : Zk (envX Tryz.prog (ZU 34) [] 1125900980585471 8) Tryz.f113 Zh Zy a = Zkw a.1 a.2.1 a.2.2 := by kernel_rfl
def Zks (c : TC) (s : Int) (g : List Int) : RT (Option (TY × Bool)) :=
 let x1 : QT0 := (c, s == 5, g, (0, 0, 0, 0, 0, 0, 0, 0), [])
 let x2 := qAtC x1 0
 let x3 := !x2 || (Zc c.1 (qAt x1 0)).1 == 38
 let x4 : List TY := [] ++ [(12, pcOf c, 0, 6)] ++ [(5, u16.wrap ((spOf c) - 1), u8.wrap (shrI u16 (pcOf c) 8), 3)] ++ [(5, u16.wrap ((spOf c) - 2), u8.wrap (pcOf c), 3)]
 let x6 : QT9 := ((pcOf c), 0, 4)
 let x7 : List TY := [] ++ [(bif s == 5 then 8 else 1, x6)]
 let x9 : List TY := [] ++ [(1, x6)]
 .br (!x3 || x2) (.br (x3) (.br (Ze s) (fin3 g x4) (.br (iN (List.length g) == 0) (fin3 g x7) (fin3 g x9))) (.leaf none)) (.leaf none)
theorem Zue (a : HL Zh) : Zk (envX Tryz.prog (ZU 38) [] 1125900980585471 8) Tryz.f113 Zh Zy a = Zks a.1 a.2.1 a.2.2 := by kernel_rfl
def Zko (c : TC) (s : Int) (g : List Int) : RT (Option (TY × Bool)) :=
 let x1 : QT0 := (c, s == 5, g, (0, 0, 0, 0, 0, 0, 0, 0), [])
 let x2 := qAtC x1 0
 let x3 := !x2 || (Zc c.1 (qAt x1 0)).1 == 42
 let x4 : List TY := [] ++ [(12, pcOf c, 0, 6)] ++ [(5, u16.wrap ((spOf c) - 1), u8.wrap (shrI u16 (pcOf c) 8), 3)] ++ [(5, u16.wrap ((spOf c) - 2), u8.wrap (pcOf c), 3)]
 let x6 : QT9 := ((pcOf c), 0, 4)
 let x7 : List TY := [] ++ [(bif s == 5 then 8 else 1, x6)]
 let x9 : List TY := [(11, pcOf c, 0, 3)]
 let x10 : List TY := [] ++ [(1, x6)] ++ x9 ++ x9
 .br (!x3 || x2) (.br (x3) (.br (Ze s) (fin3 g x4) (.br (iN (List.length g) == 0) (fin3 g x7) (fin3 g x10))) (.leaf none)) (.leaf none)
theorem Zua (a : HL Zh) : Zk (envX Tryz.prog (ZU 42) [] 1125900980585471 8) Tryz.f113 Zh Zy a = Zko a.1 a.2.1 a.2.2 := by kernel_rfl
def Zkk (c : TC) (s : Int) (g : List Int) : RT (Option (TY × Bool)) :=
 let x1 : QT0 := (c, s == 5, g, (0, 0, 0, 0, 0, 0, 0, 0), [])
 let x2 := qAtC x1 0
 let x3 := Zc c.1 (qAt x1 0)
 let x4 := !x2 || x3.1 == 46
 let x5 : List TY := [] ++ [(12, pcOf c, 0, 6)] ++ [(5, u16.wrap ((spOf c) - 1), u8.wrap (shrI u16 (pcOf c) 8), 3)] ++ [(5, u16.wrap ((spOf c) - 2), u8.wrap (pcOf c), 3)]
 let x7 : QT9 := ((pcOf c), 0, 4)
 let x8 : List TY := [] ++ [(bif s == 5 then 8 else 1, x7)]
 let x10 : List TY := [] ++ [(1, x7)]
 let x11 := Zc3 (c, s == 5, g, (46, x3.2), x10) 1
 let x12 : List TY := x10 ++ [(3, x11, c.2.1.2.2.2.2.2.2.1, 3)] ++ [(3, u16.wrap (x11 + 1), c.2.1.2.2.2.2.2.1, 3)]
 .br (!x4 || x2) (.br (x4) (.br (Ze s) (fin3 g x5) (.br (iN (List.length g) == 0) (fin3 g x8) (fin3 g x12))) (.leaf none)) (.leaf none)
theorem Zt6 (a : HL Zh) : Zk (envX Tryz.prog (ZU 46) [] 1125900980585471 8) Tryz.f113 Zh Zy a = Zkk a.1 a.2.1 a.2.2 := by kernel_rfl
def ZnR (c : TC) (s : Int) (g : List Int) : RT (Option (TY × Bool)) :=
 let x1 := !(Zc c.1 (R.get (R.int u8) g 0)).2.2.1 == 6
 let x2 : List TY := [(bif s == 5 then 8 else 1, pcOf c, 0, 4)]
 let x3 : List TY := x2 ++ [(9, pcOf c, 0, 3)]
 let x4 : QT4 := (c, s == 5, g, x3)
 let x5 := !s == 5 || (x1 || mAtC x4 1)
 let x6 : List TY := x2 ++ [(2, u16.wrap ((pcOf c) + u16.wrap 1), 0, 3)]
 let x7 : QT4 := (c, s == 5, g, x6)
 let x8 : List TY := [(12, pcOf c, 0, 6)] ++ [(5, u16.wrap ((spOf c) - 1), u8.wrap (shrI u16 (pcOf c) 8), 3)] ++ [(5, u16.wrap ((spOf c) - 2), u8.wrap (pcOf c), 3)]
 let x10 : List TY := bif (Zc c.1 (R.get (R.int u8) g 0)).2.2.1 == 6 then x3 ++ [(3, ZaW c.2.1 2, mAt x4 1, 3)] else x3
 let x12 : List TY := bif (Zc c.1 (R.get (R.int u8) g 0)).2.2.1 == 6 then x6 ++ [(3, ZaW c.2.1 2, mAt x7 1, 3)] else x6
 .br (Za s || (!decide (iN (List.length g) > 0) || (!Zf 0 (List.length g) || (!(Zc c.1 (R.get (R.int u8) g 0)).1 == 3 || (!x5 || (s == 5 || (x1 || mAtC x7 1))))))) (.br (Za s || (!decide (iN (List.length g) > 0) || (!Zf 0 (List.length g) || (!(Zc c.1 (R.get (R.int u8) g 0)).1 == 3 || x5)))) (.br (Za s || (!decide (iN (List.length g) > 0) || (!Zf 0 (List.length g) || (Zc c.1 (R.get (R.int u8) g 0)).1 == 3))) (.br (Za s || (!decide (iN (List.length g) > 0) || Zf 0 (List.length g))) (.br (Za s) (fin3 g x8) (.br (decide (iN (List.length g) > 0)) (.br (s == 5) (fin3 g x10) (fin3 g x12)) (fin3 g x2))) (.leaf none)) (.leaf none)) (.leaf none)) (.leaf none)
theorem Zyz (a : HL Zg) : Zk (envX Tryz.prog (ZT 3) [] 2047 8) Tryz.f42 Zg Zx a = ZnR a.1 a.2.1 a.2.2 := by kernel_rfl
def ZnN (c : TC) (s : Int) (g : List Int) : RT (Option (TY × Bool)) :=
 let x1 : List TY := [(bif s == 5 then 8 else 1, pcOf c, 0, 4)]
 let x2 : List TY := [(9, pcOf c, 0, 3)]
 let x3 : List TY := x1 ++ x2
 let x4 : List TY := [(2, u16.wrap ((pcOf c) + u16.wrap (i64.wrap (1 + 1))), 0, 3)]
 let x5 : List TY := bif s == 5 then x3 ++ x2 else x3 ++ x4
 let x6 : QT4 := (c, s == 5, g, x5)
 let x7 := Zda x6 1
 let x8 : List TY := x5 ++ [(2, ZfM x6 1, 0, 3)]
 let x9 : QT4 := (c, s == 5, g, x8)
 let x10 := !s == 5 || (!x7 || Zda x9 1)
 let x11 := !x10
 let x12 := !s == 5 || x7
 let x13 := !x12
 let x14 : List TY := x1 ++ [(2, u16.wrap ((pcOf c) + u16.wrap 1), 0, 3)]
 let x15 : List TY := bif s == 5 then x14 ++ x2 else x14 ++ x4
 let x16 : QT4 := (c, s == 5, g, x15)
 let x17 := Zda x16 1
 let x18 : List TY := x15 ++ [(2, ZfM x16 1, 0, 3)]
 let x19 : QT4 := (c, s == 5, g, x18)
 let x20 := s == 5 || (!x17 || Zda x19 1)
 let x21 : List TY := [(12, pcOf c, 0, 6)] ++ [(5, u16.wrap ((spOf c) - 1), u8.wrap (shrI u16 (pcOf c) 8), 3)] ++ [(5, u16.wrap ((spOf c) - 2), u8.wrap (pcOf c), 3)]
 let x23 : List TY := x8 ++ [(2, u16.wrap (ZfM x9 1 + 1), 0, 3)]
 let x25 : List TY := x18 ++ [(2, u16.wrap (ZfM x19 1 + 1), 0, 3)]
 .br (Za s || (!decide (iN (List.length g) > 0) || (!Zf 0 (List.length g) || (!(Zc c.1 (R.get (R.int u8) g 0)).1 == 7 || (x11 || (x13 || (!x20 || (s == 5 || x17)))))))) (.br (Za s || (!decide (iN (List.length g) > 0) || (!Zf 0 (List.length g) || (!(Zc c.1 (R.get (R.int u8) g 0)).1 == 7 || (x11 || (x13 || x20)))))) (.br (Za s || (!decide (iN (List.length g) > 0) || (!Zf 0 (List.length g) || (!(Zc c.1 (R.get (R.int u8) g 0)).1 == 7 || (x11 || x12))))) (.br (Za s || (!decide (iN (List.length g) > 0) || (!Zf 0 (List.length g) || (!(Zc c.1 (R.get (R.int u8) g 0)).1 == 7 || x10)))) (.br (Za s || (!decide (iN (List.length g) > 0) || (!Zf 0 (List.length g) || (Zc c.1 (R.get (R.int u8) g 0)).1 == 7))) (.br (Za s || (!decide (iN (List.length g) > 0) || Zf 0 (List.length g))) (.br (Za s) (fin3 g x21) (.br (decide (iN (List.length g) > 0)) (.br (s == 5) (fin3 g x23) (fin3 g x25)) (fin3 g x1))) (.leaf none)) (.leaf none)) (.leaf none)) (.leaf none)) (.leaf none)) (.leaf none)
theorem Zyv (a : HL Zg) : Zk (envX Tryz.prog (ZT 7) [] 2047 8) Tryz.f42 Zg Zx a = ZnN a.1 a.2.1 a.2.2 := by kernel_rfl
def ZjQ (c : TC) (s : Int) (g : List Int) : RT (Option (TY × Bool)) :=
 let x1 : List TY := [(12, pcOf c, 0, 6)] ++ [(5, u16.wrap ((spOf c) - 1), u8.wrap (shrI u16 (pcOf c) 8), 3)] ++ [(5, u16.wrap ((spOf c) - 2), u8.wrap (pcOf c), 3)]
 let x3 : List TY := [(bif s == 5 then 8 else 1, pcOf c, 0, 4)]
 .br (Za s || (!decide (iN (List.length g) > 0) || (!Zf 0 (List.length g) || (Zc c.1 (R.get (R.int u8) g 0)).1 == 11))) (.br (Za s || (!decide (iN (List.length g) > 0) || Zf 0 (List.length g))) (.br (Za s) (fin3 g x1) (fin3 g x3)) (.leaf none)) (.leaf none)
theorem Ztv (a : HL Zg) : Zk (envX Tryz.prog (ZT 11) [] 2047 8) Tryz.f42 Zg Zx a = ZjQ a.1 a.2.1 a.2.2 := by kernel_rfl
def ZjM (c : TC) (s : Int) (g : List Int) : RT (Option (TY × Bool)) :=
 let x1 : List TY := [(bif s == 5 then 8 else 1, pcOf c, 0, 4)]
 let x2 : QT4 := (c, s == 5, g, x1)
 let x3 : List TY := [(12, pcOf c, 0, 6)] ++ [(5, u16.wrap ((spOf c) - 1), u8.wrap (shrI u16 (pcOf c) 8), 3)] ++ [(5, u16.wrap ((spOf c) - 2), u8.wrap (pcOf c), 3)]
 let x5 : List TY := x1 ++ [(2, ZaW c.2.1 2, 0, 3)] ++ [(3, ZaW c.2.1 2, (Zit c (15, (Zc c.1 (R.get (R.int u8) g 0)).2) (mAt x2 1)).1, 3)]
 let x7 : Nat := List.length x1
 let x8 := decide (iN (List.length g) ≥ iN x7)
 let x9 := Zf (iN (List.length g)) x7
 let x10 : TY × Bool := (R.get (RY) x1 (iN (List.length g)), true)
 .br (Za s || (!decide (iN (List.length g) > 0) || (!Zf 0 (List.length g) || (!(Zc c.1 (R.get (R.int u8) g 0)).1 == 15 || (!(Zc c.1 (R.get (R.int u8) g 0)).2.2.1 == 6 || mAtC x2 1))))) (.br (Za s || (!decide (iN (List.length g) > 0) || (!Zf 0 (List.length g) || (Zc c.1 (R.get (R.int u8) g 0)).1 == 15))) (.br (Za s || (!decide (iN (List.length g) > 0) || Zf 0 (List.length g))) (.br (Za s) (fin3 g x3) (.br (decide (iN (List.length g) > 0)) (.br ((Zc c.1 (R.get (R.int u8) g 0)).2.2.1 == 6) (fin3 g x5) (.br (x8) (.leaf (some (((0, 0, 0, 0), false)))) (.br (x9) (.leaf (some (x10))) (.leaf none)))) (.br (x8) (.leaf (some (((0, 0, 0, 0), false)))) (.br (x9) (.leaf (some (x10))) (.leaf none))))) (.leaf none)) (.leaf none)) (.leaf none)
theorem Ztr (a : HL Zg) : Zk (envX Tryz.prog (ZT 15) [] 2047 8) Tryz.f42 Zg Zx a = ZjM a.1 a.2.1 a.2.2 := by kernel_rfl
def ZjI (c : TC) (s : Int) (g : List Int) : RT (Option (TY × Bool)) :=
 let x1 : List TY := [(12, pcOf c, 0, 6)] ++ [(5, u16.wrap ((spOf c) - 1), u8.wrap (shrI u16 (pcOf c) 8), 3)] ++ [(5, u16.wrap ((spOf c) - 2), u8.wrap (pcOf c), 3)]
 let x3 : List TY := [(bif s == 5 then 8 else 1, pcOf c, 0, 4)]
 .br (Za s || (!decide (iN (List.length g) > 0) || (!Zf 0 (List.length g) || (Zc c.1 (R.get (R.int u8) g 0)).1 == 19))) (.br (Za s || (!decide (iN (List.length g) > 0) || Zf 0 (List.length g))) (.br (Za s) (fin3 g x1) (fin3 g x3)) (.leaf none)) (.leaf none)
theorem Ztn (a : HL Zg) : Zk (envX Tryz.prog (ZT 19) [] 2047 8) Tryz.f42 Zg Zx a = ZjI a.1 a.2.1 a.2.2 := by kernel_rfl
def ZjE (c : TC) (s : Int) (g : List Int) : RT (Option (TY × Bool)) :=
 let x1 : List TY := [(12, pcOf c, 0, 6)] ++ [(5, u16.wrap ((spOf c) - 1), u8.wrap (shrI u16 (pcOf c) 8), 3)] ++ [(5, u16.wrap ((spOf c) - 2), u8.wrap (pcOf c), 3)]
 let x3 : List TY := [(bif s == 5 then 8 else 1, pcOf c, 0, 4)]
 .br (Za s || (!decide (iN (List.length g) > 0) || (!Zf 0 (List.length g) || (Zc c.1 (R.get (R.int u8) g 0)).1 == 23))) (.br (Za s || (!decide (iN (List.length g) > 0) || Zf 0 (List.length g))) (.br (Za s) (fin3 g x1) (fin3 g x3)) (.leaf none)) (.leaf none)
theorem Ztj (a : HL Zg) : Zk (envX Tryz.prog (ZT 23) [] 2047 8) Tryz.f42 Zg Zx a = ZjE a.1 a.2.1 a.2.2 := by kernel_rfl
def ZjA (c : TC) (s : Int) (g : List Int) : RT (Option (TY × Bool)) :=
 let x1 := u16.wrap ((spOf c) - 1)
 let x2 := u16.wrap ((spOf c) - 2)
 let x3 : List TY := [(12, pcOf c, 0, 6)] ++ [(5, x1, u8.wrap (shrI u16 (pcOf c) 8), 3)] ++ [(5, x2, u8.wrap (pcOf c), 3)]
 let x5 : List TY := [(bif s == 5 then 8 else 1, pcOf c, 0, 4)]
 let x6 := ZeL (c, s == 5, g, x5) (Zc c.1 (R.get (R.int u8) g 0)).2.1
 let x7 : List TY := x5 ++ [(5, x1, u8.wrap (shrI u16 x6 8), 3)] ++ [(5, x2, u8.wrap x6, 3)]
 .br (Za s || (!decide (iN (List.length g) > 0) || (!Zf 0 (List.length g) || (Zc c.1 (R.get (R.int u8) g 0)).1 == 27))) (.br (Za s || (!decide (iN (List.length g) > 0) || Zf 0 (List.length g))) (.br (Za s) (fin3 g x3) (.br (decide (iN (List.length g) > 0)) (fin3 g x7) (fin3 g x5))) (.leaf none)) (.leaf none)
theorem Ztf (a : HL Zg) : Zk (envX Tryz.prog (ZT 27) [] 2047 8) Tryz.f42 Zg Zx a = ZjA a.1 a.2.1 a.2.2 := by kernel_rfl
def Zjw (c : TC) (s : Int) (g : List Int) : RT (Option (TY × Bool)) :=
 let x1 : List TY := [(12, pcOf c, 0, 6)] ++ [(5, u16.wrap ((spOf c) - 1), u8.wrap (shrI u16 (pcOf c) 8), 3)] ++ [(5, u16.wrap ((spOf c) - 2), u8.wrap (pcOf c), 3)]
 let x3 : List TY := [(bif s == 5 then 8 else 1, pcOf c, 0, 4)]
 let x4 : List TY := x3 ++ [(4, spOf c, 0, 3)] ++ [(4, u16.wrap ((spOf c) + 1), 0, 3)]
 .br (Za s || (!decide (iN (List.length g) > 0) || (!Zf 0 (List.length g) || (Zc c.1 (R.get (R.int u8) g 0)).1 == 31))) (.br (Za s || (!decide (iN (List.length g) > 0) || Zf 0 (List.length g))) (.br (Za s) (fin3 g x1) (.br (decide (iN (List.length g) > 0)) (fin3 g x4) (fin3 g x3))) (.leaf none)) (.leaf none)
theorem Ztb (a : HL Zg) : Zk (envX Tryz.prog (ZT 31) [] 2047 8) Tryz.f42 Zg Zx a = Zjw a.1 a.2.1 a.2.2 := by kernel_rfl
def Zjs (c : TC) (s : Int) (g : List Int) : RT (Option (TY × Bool)) :=
 let x1 : List TY := [(12, pcOf c, 0, 6)] ++ [(5, u16.wrap ((spOf c) - 1), u8.wrap (shrI u16 (pcOf c) 8), 3)] ++ [(5, u16.wrap ((spOf c) - 2), u8.wrap (pcOf c), 3)]
 let x3 : List TY := [(bif s == 5 then 8 else 1, pcOf c, 0, 4)]
 .br (Za s || (!decide (iN (List.length g) > 0) || (!Zf 0 (List.length g) || (Zc c.1 (R.get (R.int u8) g 0)).1 == 35))) (.br (Za s || (!decide (iN (List.length g) > 0) || Zf 0 (List.length g))) (.br (Za s) (fin3 g x1) (fin3 g x3)) (.leaf none)) (.leaf none)
theorem Zs7 (a : HL Zg) : Zk (envX Tryz.prog (ZT 35) [] 2047 8) Tryz.f42 Zg Zx a = Zjs a.1 a.2.1 a.2.2 := by kernel_rfl
def Zjo (c : TC) (s : Int) (g : List Int) : RT (Option (TY × Bool)) :=
 let x1 : List TY := [(12, pcOf c, 0, 6)] ++ [(5, u16.wrap ((spOf c) - 1), u8.wrap (shrI u16 (pcOf c) 8), 3)] ++ [(5, u16.wrap ((spOf c) - 2), u8.wrap (pcOf c), 3)]
 let x3 : List TY := [(bif s == 5 then 8 else 1, pcOf c, 0, 4)]
 .br (Za s || (!decide (iN (List.length g) > 0) || (!Zf 0 (List.length g) || (Zc c.1 (R.get (R.int u8) g 0)).1 == 39))) (.br (Za s || (!decide (iN (List.length g) > 0) || Zf 0 (List.length g))) (.br (Za s) (fin3 g x1) (fin3 g x3)) (.leaf none)) (.leaf none)
theorem Zs3 (a : HL Zg) : Zk (envX Tryz.prog (ZT 39) [] 2047 8) Tryz.f42 Zg Zx a = Zjo a.1 a.2.1 a.2.2 := by kernel_rfl
def Zjk (c : TC) (s : Int) (g : List Int) : RT (Option (TY × Bool)) :=
 let x1 : List TY := [(12, pcOf c, 0, 6)] ++ [(5, u16.wrap ((spOf c) - 1), u8.wrap (shrI u16 (pcOf c) 8), 3)] ++ [(5, u16.wrap ((spOf c) - 2), u8.wrap (pcOf c), 3)]
 let x3 : List TY := [(bif s == 5 then 8 else 1, pcOf c, 0, 4)]
 let x4 : QT9 := ((pcOf c), 0, 3)
 let x5 : List TY := [(11, x4)]
 let x6 : List TY := x3 ++ [(9, x4)] ++ x5
 let x8 : List TY := x3 ++ [(2, u16.wrap ((pcOf c) + u16.wrap 1), 0, 3)] ++ x5
 .br (Za s || (!decide (iN (List.length g) > 0) || (!Zf 0 (List.length g) || (Zc c.1 (R.get (R.int u8) g 0)).1 == 43))) (.br (Za s || (!decide (iN (List.length g) > 0) || Zf 0 (List.length g))) (.br (Za s) (fin3 g x1) (.br (decide (iN (List.length g) > 0)) (.br (s == 5) (fin3 g x6) (fin3 g x8)) (fin3 g x3))) (.leaf none)) (.leaf none)
theorem ZsZ (a : HL Zg) : Zk (envX Tryz.prog (ZT 43) [] 2047 8) Tryz.f42 Zg Zx a = Zjk a.1 a.2.1 a.2.2 := by kernel_rfl
def Zjg (c : TC) (s : Int) (g : List Int) : RT (Option (TY × Bool)) :=
 let x1 : List TY := [(12, pcOf c, 0, 6)] ++ [(5, u16.wrap ((spOf c) - 1), u8.wrap (shrI u16 (pcOf c) 8), 3)] ++ [(5, u16.wrap ((spOf c) - 2), u8.wrap (pcOf c), 3)]
 let x3 : List TY := [(bif s == 5 then 8 else 1, pcOf c, 0, 4)]
 let x4 : List TY := x3 ++ [(2, ZaW c.2.1 1, 0, 3)] ++ [(2, u16.wrap (ZaW c.2.1 1 + 1), 0, 3)]
 .br (Za s || (!decide (iN (List.length g) > 0) || (!Zf 0 (List.length g) || (Zc c.1 (R.get (R.int u8) g 0)).1 == 47))) (.br (Za s || (!decide (iN (List.length g) > 0) || Zf 0 (List.length g))) (.br (Za s) (fin3 g x1) (.br (decide (iN (List.length g) > 0)) (fin3 g x4) (fin3 g x3))) (.leaf none)) (.leaf none)
theorem ZsV (a : HL Zg) : Zk (envX Tryz.prog (ZT 47) [] 2047 8) Tryz.f42 Zg Zx a = Zjg a.1 a.2.1 a.2.2 := by kernel_rfl
end
end Go.Proofs.YtghoimllhpjkjaaGreat
