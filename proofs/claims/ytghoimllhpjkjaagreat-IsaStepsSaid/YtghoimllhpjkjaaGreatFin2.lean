/-
  Contracts of functions; each found by the symbolic executor and checked by the kernel. Conditions: none.
-/
import Derived.Test.YtghoimllhpjkjaaGreatPinsEq
import Derived.Test.YtghoimllhpjkjaaGreatS3Nil
import Derived.Test.YtghoimllhpjkjaaGreatS3D
import Derived.Test.YtghoimllhpjkjaaGreatProg
set_option linter.unusedVariables false
set_option linter.unusedSimpArgs false
open Go Go.S3 Go.Proofs
set_option maxRecDepth 100000
namespace Go.Proofs.YtghoimllhpjkjaaGreat
noncomputable section
end
end Go.Proofs.YtghoimllhpjkjaaGreat
open Go.IntKind (u8 u16 i64)
namespace Go.Proofs.YtghoimllhpjkjaaGreat
noncomputable section
abbrev Cyc := Int × Int × Int × Int
abbrev cycR : R := R.pair (R.int i64) (R.pair (R.int u16) (R.pair (R.int u8) (R.int i64)))
theorem Za4 (st) (n : Int) (h : 0 ≤ n) : qAtC st n = true ∧ qAt st n = st.2.2.1.getD n.toNat 0 := by
 by_cases hn : n < (st.2.2.1.length : Int)
 ·simp [qAtC, qAt, qAtT, RT.val, iN, Zf, h, hn, okB, getO, R.get, R.dflt]
 ·have : st.2.2.1.length ≤ n.toNat := by omega
  simp [qAtC, qAt, qAtT, RT.val, iN, Zf, h, hn, okB, getO, R.get, R.dflt, List.getD_eq_getElem?_getD, List.getElem?_eq_none this]
theorem Zbh (st) (n : Int) (h : 0 ≤ n) : mAtC st n = true ∧ mAt st n = st.2.2.1.getD n.toNat 0 := by
 by_cases hn : n < (st.2.2.1.length : Int)
 ·simp [mAtC, mAt, mAtT, RT.val, iN, Zf, h, hn, okB, getO, R.get, R.dflt]
 ·have : st.2.2.1.length ≤ n.toNat := by omega
  simp [mAtC, mAt, mAtT, RT.val, iN, Zf, h, hn, okB, getO, R.get, R.dflt, List.getD_eq_getElem?_getD, List.getElem?_eq_none this]
theorem qat0 (st) : qAtC st 0 = true ∧ qAt st 0 = st.2.2.1.getD 0 0 := Za4 st 0 (by decide)
theorem qat1 (st) : qAtC st 1 = true ∧ qAt st 1 = st.2.2.1.getD 1 0 := Za4 st 1 (by decide)
theorem mat0 (st) : mAtC st 0 = true ∧ mAt st 0 = st.2.2.1.getD 0 0 := Zbh st 0 (by decide)
theorem mat1 (st) : mAtC st 1 = true ∧ mAt st 1 = st.2.2.1.getD 1 0 := Zbh st 1 (by decide)
theorem rg0 (g : List Int) : R.get (.int .u8) g 0 = g.getD 0 0 := rfl
def pick (l : List Cyc) (n : Nat) : Cyc × Bool := (l.getD n (0, 0, 0, 0), decide (n < l.length))
theorem pk (l : List Cyc) (n : Nat) : (cond (decide (iN n ≥ iN l.length)) (some (((0, 0, 0, 0) : Cyc), false)) (cond (Zf (iN n) l.length) (some (R.get cycR l (iN n), true)) none)) = some (pick l n) := by
 by_cases h : n < l.length
 ·have h1 : ¬ (l.length : Int) ≤ n := by omega
  simp [pick, h, h1, Zf, iN, R.get, R.dflt]
 ·have h1 : (l.length : Int) ≤ n := by omega
  simp [pick, h, h1, Zf, iN]
theorem Zbq (x : Cyc) (l) (n : Nat) : pick (x :: l) (n + 1) = pick l n := by simp [pick]
theorem Zbp (x : Cyc) (l) : pick (x :: l) 0 = (x, true) := by simp [pick]
theorem Zv (s : Int) : Ze s = Za s := rfl
theorem len0 (g : List Int) (a : Int) : (iN (a :: g).length == 0) = false ∧ decide (iN (a :: g).length > 0) = true ∧ Zf 0 (a :: g).length = true := by
 have : ((g.length : Int) + 1 == 0) = false := by simp; omega
 simp [iN, Zf, this]
theorem Zmo : (iN ([] : List Int).length == 0) = true ∧ decide (iN ([] : List Int).length > 0) = false ∧ Zf 0 ([] : List Int).length = false := by decide
theorem ZW (s) (n) : Zdn s n = Zac s.1.2.1 n := rfl
theorem Z7 (s) (n) : qReg s n = rGet s.1.2.1 n := rfl
theorem ZG (s) : Zf4 s = ZdG s.2.2.2.1.2.2.2.2.2.2.1 s.1.2.1.2.2.2.2.2.2.2.1 := rfl
theorem ZH (s i) : ZdJ s i = ZdG i.2.2.2.2.2.2.1 s.1.2.1.2.2.2.2.2.2.2.1 := rfl
theorem Zx (s) : ZD s = cond s.2.1 s.1.2.1.2.2.2.2.2.2.2.2.2 (IntKind.wrap .u16 (s.1.2.1.2.2.2.2.2.2.2.2.2 + IntKind.wrap .u16 s.2.2.2.1.2.1)) := rfl
theorem Zz (s n) : ZA s n = cond s.2.1 s.1.2.1.2.2.2.2.2.2.2.2.2 (IntKind.wrap .u16 (s.1.2.1.2.2.2.2.2.2.2.2.2 + IntKind.wrap .u16 n)) := rfl
theorem Zby : IntKind.wrap .i64 2 = 2 ∧ IntKind.wrap .i64 4 = 4 := by decide
theorem ZaE (s) : Zch s 1 = true ∧ Ze9 s 1 = Zcg (s.2.2.1.getD 2 0) (s.2.2.1.getD 1 0) := by
 simp [Zch, Ze9, Zs7, RT.val, Zby, Za4 s 2 (by decide), Za4 s 1 (by decide), okB, getO]
theorem ZbX (s) : Zch s 3 = true ∧ Ze9 s 3 = Zcg (s.2.2.1.getD 4 0) (s.2.2.1.getD 3 0) := by
 simp [Zch, Ze9, Zs7, RT.val, Zby, Za4 s 4 (by decide), Za4 s 3 (by decide), okB, getO]
theorem ZaG (s) : ZbO s 1 = true ∧ ZdP s 1 = Zcg (s.2.2.1.getD 2 0) (s.2.2.1.getD 1 0) := by
 simp [ZbO, ZdP, ZAi, RT.val, Zby, Zbh s 2 (by decide), Zbh s 1 (by decide), okB, getO]
theorem ZaF (s) : Zfa s = true ∧ ZgV s = cond (s.2.2.2.1.1 == 14) (rInr s.1.1 (s.2.2.1.getD 1 0) s.1.2.1.2.2.2.2.2.2.2.1).1 (rDcr s.1.1 (s.2.2.1.getD 1 0) s.1.2.1.2.2.2.2.2.2.2.1).1 := by
 simp [Zfa, ZgV, ZgU, RT.val, qat1, okB, getO]
theorem Zu (c i v) : ZfF c i v = cond (i.1 == 14) (rInr c.1 v c.2.1.2.2.2.2.2.2.2.1) (rDcr c.1 v c.2.1.2.2.2.2.2.2.2.1) := rfl
abbrev FlgT := Bool × Bool × Bool × Bool × Bool × Bool × Bool
abbrev RegT := Int × Int × Int × Int × Int × Int × Int × FlgT × Int × Int
abbrev CpuT := Int × RegT × Bool × Bool × Bool × Int × Bool × Bool × Bool × Bool × Bool × Bool × Bool
abbrev InsT := QT5
def opC (c : CpuT) (inj : Bool) (k : Int) : Cyc := bif inj then (9, pcOf c, 0, 3) else (2, IntKind.wrap .u16 (pcOf c + IntKind.wrap .u16 k), 0, 3)
def ZbI (c : CpuT) (w : Int) : List Cyc := [(5, IntKind.wrap .u16 (spOf c - 1), IntKind.wrap .u8 (shrI .u16 w 8), 3), (5, IntKind.wrap .u16 (spOf c - 2), IntKind.wrap .u8 w, 3)]
def popX (c : CpuT) : List Cyc := [(4, spOf c, 0, 3), (4, IntKind.wrap .u16 (spOf c + 1), 0, 3)]
def ZJ (c : CpuT) (inj : Bool) (i : InsT) : Int := bif inj then pcOf c else IntKind.wrap .u16 (pcOf c + IntKind.wrap .u16 i.2.1)
def ZaZ (c : CpuT) (i : InsT) : Bool := ZdG i.2.2.2.2.2.2.1 c.2.1.2.2.2.2.2.2.2.1
def Zgf (a : Int) : List Cyc := [(2, a, 0, 3), (2, IntKind.wrap .u16 (a + 1), 0, 3)]
def Zdd (c : CpuT) (a : Int) : List Cyc := [(3, a, c.2.1.2.2.2.2.2.2.1, 3), (3, IntKind.wrap .u16 (a + 1), c.2.1.2.2.2.2.2.1, 3)]
def ZbT (c : CpuT) (inj : Bool) (i : InsT) : List Cyc := bif c.1 == 2 && !ZaZ c i then [opC c inj 1] else [opC c inj 1, opC c inj 2]
def ZaR (g : List Int) (n : Nat) : Int := Zcg (g.getD (n + 1) 0) (g.getD n 0)
def ZfY (c : CpuT) : Cyc := (11, pcOf c, 0, 3)
def ZeC (c : CpuT) (i : InsT) (v : Int) : Int := bif i.1 == 14 then (rInr c.1 v c.2.1.2.2.2.2.2.2.2.1).1 else (rDcr c.1 v c.2.1.2.2.2.2.2.2.2.1).1
def ZfZ (c : CpuT) (inj : Bool) (g : List Int) (i : InsT) : List Cyc :=
 let hl := Zac c.2.1 2
 let dst := i.2.2.1
 let src := i.2.2.2.1
 let pr := i.2.2.2.2.1
 bif i.1 == 2 then (bif src == 6 then [(2, hl, 0, 3)] else bif dst == 6 then [(3, hl, rGet c.2.1 src, 3)] else []) else
 bif i.1 == 3 then opC c inj 1 :: (bif dst == 6 then [(3, hl, g.getD 1 0, 3)] else []) else
 bif i.1 == 4 then [opC c inj 1, opC c inj 2] else
 bif i.1 == 5 then [opC c inj 1, opC c inj 2, (2, ZaR g 1, 0, 3)] else
 bif i.1 == 6 then [opC c inj 1, opC c inj 2, (3, ZaR g 1, c.2.1.1, 3)] else
 bif i.1 == 7 then opC c inj 1 :: opC c inj 2 :: Zgf (ZaR g 1) else
 bif i.1 == 8 then opC c inj 1 :: opC c inj 2 :: Zdd c (ZaR g 1) else
 bif i.1 == 9 then [(2, Zac c.2.1 pr, 0, 3)] else
 bif i.1 == 10 then [(3, Zac c.2.1 pr, c.2.1.1, 3)] else
 bif i.1 == 12 then (bif src == 6 then [(2, hl, 0, 3)] else []) else
 bif i.1 == 13 then [opC c inj 1] else
 bif i.1 == 14 || i.1 == 15 then (bif dst == 6 then [(2, hl, 0, 3), (3, hl, ZeC c i (g.getD 1 0), 3)] else []) else
 bif i.1 == 18 || i.1 == 40 || i.1 == 42 then [ZfY c, ZfY c] else
 bif i.1 == 24 then ZbT c inj i else
 bif i.1 == 25 then ZbT c inj i ++ (bif ZaZ c i then ZbI c (ZJ c inj i) else []) else
 bif i.1 == 26 then (bif ZaZ c i then popX c else []) else
 bif i.1 == 27 then ZbI c (ZJ c inj i) else
 bif i.1 == 45 then (bif ZaZ c i then ZbI c (ZJ c inj i) else []) else
 bif i.1 == 30 then ZbI c (bif pr == 3 then rPSW c.1 c.2.1 else Zac c.2.1 pr) else
 bif i.1 == 31 then popX c else
 bif i.1 == 32 then popX c ++ [(5, IntKind.wrap .u16 (spOf c + 1), c.2.1.2.2.2.2.2.1, 3), (5, spOf c, c.2.1.2.2.2.2.2.2.1, bif c.1 == 2 then 3 else 5)] else
 bif i.1 == 33 then [opC c inj 1, (6, Zcg (g.getD 1 0) (g.getD 1 0), 0, 3)] else
 bif i.1 == 34 then [opC c inj 1, (7, Zcg (g.getD 1 0) (g.getD 1 0), c.2.1.1, 3)] else
 bif i.1 == 37 then (bif c.1 == 2 then [] else [(10, pcOf c, 0, 3)]) else
 bif i.1 == 41 then [ZfY c] else
 bif i.1 == 43 || i.1 == 44 then [opC c inj 1, ZfY c] else
 bif i.1 == 46 then Zdd c (Zac c.2.1 1) else
 bif i.1 == 47 then Zgf (Zac c.2.1 1) else
 []
def Zfc (c : CpuT) (s : Int) (g : List Int) : List Cyc :=
 bif Za s then (12, pcOf c, 0, 6) :: ZbI c (pcOf c)
 else (bif s == 5 then 8 else 1, pcOf c, 0, 4) :: match g with
  | [] => []
  | o :: _ => ZfZ c (s == 5) g (Zb c.1 o)
def Zl (c : CpuT) (s : Int) (g : List Int) : Cyc × Bool := pick (Zfc c s g) g.length
def sk (x : Cyc) : Cyc := (x.1, 0, 0, x.2.2.2)
def ZIk (c op : Int) : Bool := decide (1 ≤ (Zb c op).1) && decide ((Zb c op).1 ≤ 47)
theorem ZrI (c op : Int) (h : inR .u8 op) : 1 ≤ (Zb c op).1 ∧ (Zb c op).1 ≤ 47 := by
 have fin : ZIk c op = true → 1 ≤ (Zb c op).1 ∧ (Zb c op).1 ≤ 47 := by
  intro hc; simpa [ZIk] using hc
 by_cases hc : c = 2
 ·subst hc; exact fin (Zhv (ZIk 2) (by kernel_rfl) op h)
 ·have h0 := Zhv (ZIk 0) (by kernel_rfl) op h
  have e : Zb c op = Zb 0 op := by unfold Zb; rw [Zsx c op hc]
  refine fin ?_
  simp only [ZIk, e] at h0 ⊢; exact h0
theorem ZrN {g : List Int} (h : (R.sl (.int .u8)).ok g) : inR .u8 (g.getD 0 0) := by
 cases g with
 | nil => rw [Zf6]; simp
 | cons x l => exact h.2 x (by simp)
theorem ZrH {n : Int} (h1 : 1 ≤ n) (h2 : n ≤ 47) : n = 1 ∨ n = 2 ∨ n = 3 ∨ n = 4 ∨ n = 5 ∨ n = 6 ∨ n = 7 ∨ n = 8 ∨ n = 9 ∨ n = 10 ∨ n = 11 ∨ n = 12 ∨ n = 13 ∨ n = 14 ∨ n = 15 ∨ n = 16 ∨ n = 17 ∨ n = 18 ∨ n = 19 ∨ n = 20 ∨ n = 21 ∨ n = 22 ∨ n = 23 ∨ n = 24 ∨ n = 25 ∨ n = 26 ∨ n = 27 ∨ n = 28 ∨ n = 29 ∨ n = 30 ∨ n = 31 ∨ n = 32 ∨ n = 33 ∨ n = 34 ∨ n = 35 ∨ n = 36 ∨ n = 37 ∨ n = 38 ∨ n = 39 ∨ n = 40 ∨ n = 41 ∨ n = 42 ∨ n = 43 ∨ n = 44 ∨ n = 45 ∨ n = 46 ∨ n = 47 := by omega
def ZcM (k : Int) : Entry := .tree (ZN (envX Tryz.prog [(182, Ztt k), (222, qAtE)] [] 255 8) Tryz.f178)
theorem Zep (k : Int) : Zc Tryz.prog 178 (ZcM k) := Zaa (P := Tryz.prog) (n := 255) (k := 8) (l := [(182, Ztt k), (222, qAtE)]) (ol := []) ⟨(Zz6 k), ZgX, trivial⟩ Tryz.func178 rfl (by kernel_rfl) Tryz.call178 trivial
def Zq : Entry := .tree (ZN (envX Tryz.prog [] [] 255 8) Tryz.f230)
theorem ZU : Zc Tryz.prog 230 Zq := Zaa (P := Tryz.prog) (n := 255) (k := 8) (l := []) (ol := []) trivial Tryz.func230 rfl (by kernel_rfl) Tryz.call230 trivial
def ZaY : Entry := .tree (ZN (envX Tryz.prog [(230, Zq)] [] 15 8) Tryz.f180)
theorem Zck : Zc Tryz.prog 180 ZaY := Zaa (P := Tryz.prog) (n := 15) (k := 8) (l := [(230, Zq)]) (ol := []) ⟨ZU, trivial⟩ Tryz.func180 rfl (by kernel_rfl) Tryz.call180 trivial
def ZC : Entry := .tree (ZN (envX Tryz.prog [(230, Zq)] [] 31 8) Tryz.f233)
theorem Zah : Zc Tryz.prog 233 ZC := Zaa (P := Tryz.prog) (n := 31) (k := 8) (l := [(230, Zq)]) (ol := []) ⟨ZU, trivial⟩ Tryz.func233 rfl (by kernel_rfl) Tryz.call233 trivial
def Zao : Entry := .tree (ZN (envX Tryz.prog [(230, Zq)] [] 63 8) Tryz.f237)
theorem Zcc : Zc Tryz.prog 237 Zao := Zaa (P := Tryz.prog) (n := 63) (k := 8) (l := [(230, Zq)]) (ol := []) ⟨ZU, trivial⟩ Tryz.func237 rfl (by kernel_rfl) Tryz.call237 trivial
def ZaN : Entry := .tree (ZN (envX Tryz.prog [(230, Zq), (233, ZC), (237, Zao), (270, ZkW)] [] 268570631 8) Tryz.f235)
theorem Zc7 : Zc Tryz.prog 235 ZaN := Zaa (P := Tryz.prog) (n := 268570631) (k := 8) (l := [(230, Zq), (233, ZC), (237, Zao), (270, ZkW)]) (ol := []) ⟨ZU, Zah, Zcc, ZpZ, trivial⟩ Tryz.func235 rfl (by kernel_rfl) Tryz.call235 trivial
def ZbL : Entry := .tree (ZN (envX Tryz.prog [(233, ZC), (280, Zgi)] [] 15 8) Tryz.f288)
theorem ZeI : Zc Tryz.prog 288 ZbL := Zaa (P := Tryz.prog) (n := 15) (k := 8) (l := [(233, ZC), (280, Zgi)]) (ol := []) ⟨Zah, ZkS, trivial⟩ Tryz.func288 rfl (by kernel_rfl) Tryz.call288 trivial
def ZbV : Entry := .tree (ZN (envX Tryz.prog [(230, Zq)] [] 3 8) Tryz.f289)
theorem Zfp : Zc Tryz.prog 289 ZbV := Zaa (P := Tryz.prog) (n := 3) (k := 8) (l := [(230, Zq)]) (ol := []) ⟨ZU, trivial⟩ Tryz.func289 rfl (by kernel_rfl) Tryz.call289 trivial
def ZbM : Entry := .tree (ZN (envX Tryz.prog [(230, Zq)] [] 15 8) Tryz.f291)
theorem ZeJ : Zc Tryz.prog 291 ZbM := Zaa (P := Tryz.prog) (n := 15) (k := 8) (l := [(230, Zq)]) (ol := []) ⟨ZU, trivial⟩ Tryz.func291 rfl (by kernel_rfl) Tryz.call291 trivial
def ZaJ : Entry := .tree (ZN (envX Tryz.prog [(180, ZaY), (223, ZgW), (230, Zq), (231, Ze7), (233, ZC), (280, Zgi), (288, ZbL), (289, ZbV), (290, ZGN), (291, ZbM)] [] 1517844491342638470129438826421819271357141255 8) Tryz.f238)
theorem ZcR : Zc Tryz.prog 238 ZaJ := Zaa (P := Tryz.prog) (n := 1517844491342638470129438826421819271357141255) (k := 8) (l := [(180, ZaY), (223, ZgW), (230, Zq), (231, Ze7), (233, ZC), (280, Zgi), (288, ZbL), (289, ZbV), (290, ZGN), (291, ZbM)]) (ol := []) ⟨Zck, ZnN, ZU, ZgR, Zah, ZkS, ZeI, Zfp, ZKI, ZeJ, trivial⟩ Tryz.func238 rfl (by kernel_rfl) Tryz.call238 trivial
def ZcZ : Entry := .tree (ZN (envX Tryz.prog [(222, qAtE), (230, Zq), (231, Ze7), (232, Zs6), (233, ZC), (234, ZkX), (235, ZaN), (236, Zqx), (237, Zao), (238, ZaJ)] [] 2854495396045824897803138545268610783927869455 8) Tryz.f181)
theorem ZeK : Zc Tryz.prog 181 ZcZ := Zaa (P := Tryz.prog) (n := 2854495396045824897803138545268610783927869455) (k := 8) (l := [(222, qAtE), (230, Zq), (231, Ze7), (232, Zs6), (233, ZC), (234, ZkX), (235, ZaN), (236, Zqx), (237, Zao), (238, ZaJ)]) (ol := []) ⟨ZgX, ZU, ZgR, ZpY, Zah, Zwd, Zc7, Ztq, Zcc, ZcR, trivial⟩ Tryz.func181 rfl (by kernel_rfl) Tryz.call181 trivial
abbrev Zj : List Sh := [Sh.agg Zaf, Sh.one (R.int i64), Sh.one (R.sl (R.int u8))]
abbrev ZF : Rs := Rs.tup [Sh.agg (RY), Sh.one R.bool]
def Z2 (k : Int) : List (FuncId × Entry) := [(176, ZhU), (178, ZcM k), (180, ZaY), (181, ZcZ)]
theorem ZGV (k : Int) : ZcN Tryz.prog (Z2 k) := ⟨ZiA, (Zep k), Zck, ZeK, trivial⟩
def Zs : Entry := .tree (ZN (envX Tryz.prog [] [] 255 8) Tryz.f162)
theorem Z4 : Zc Tryz.prog 162 Zs := Zaa (P := Tryz.prog) (n := 255) (k := 8) (l := []) (ol := []) trivial Tryz.func162 rfl (by kernel_rfl) Tryz.call162 trivial
def Zad : Entry := .tree (ZN (envX Tryz.prog [(162, Zs)] [] 15 8) Tryz.f105)
theorem Zbd : Zc Tryz.prog 105 Zad := Zaa (P := Tryz.prog) (n := 15) (k := 8) (l := [(162, Zs)]) (ol := []) ⟨Z4, trivial⟩ Tryz.func105 rfl (by kernel_rfl) Tryz.call105 trivial
def ZQ : Entry := .tree (ZN (envX Tryz.prog [(162, Zs)] [] 31 8) Tryz.f164)
theorem ZaT : Zc Tryz.prog 164 ZQ := Zaa (P := Tryz.prog) (n := 31) (k := 8) (l := [(162, Zs)]) (ol := []) ⟨Z4, trivial⟩ Tryz.func164 rfl (by kernel_rfl) Tryz.call164 trivial
def ZaI : Entry := .tree (ZN (envX Tryz.prog [(162, Zs)] [] 31 8) Tryz.f167)
theorem ZcP : Zc Tryz.prog 167 ZaI := Zaa (P := Tryz.prog) (n := 31) (k := 8) (l := [(162, Zs)]) (ol := []) ⟨Z4, trivial⟩ Tryz.func167 rfl (by kernel_rfl) Tryz.call167 trivial
def Zaw : Entry := .tree (ZN (envX Tryz.prog [(146, rOnE), (164, ZQ), (169, Zgn)] [] 15 8) Tryz.f168)
theorem Zcv : Zc Tryz.prog 168 Zaw := Zaa (P := Tryz.prog) (n := 15) (k := 8) (l := [(146, rOnE), (164, ZQ), (169, Zgn)]) (ol := []) ⟨Zf3, ZaT, Zme, trivial⟩ Tryz.func168 rfl (by kernel_rfl) Tryz.call168 trivial
def ZaM : Entry := .tree (ZN (envX Tryz.prog [(162, Zs)] [] 3 8) Tryz.f170)
theorem Zc6 : Zc Tryz.prog 170 ZaM := Zaa (P := Tryz.prog) (n := 3) (k := 8) (l := [(162, Zs)]) (ol := []) ⟨Z4, trivial⟩ Tryz.func170 rfl (by kernel_rfl) Tryz.call170 trivial
def Zbv : Entry := .tree (ZN (envX Tryz.prog [(105, Zad), (146, rOnE), (153, mAtE), (157, ZfL), (158, Ze3), (162, Zs), (163, ZkQ), (164, ZQ), (165, Zmc), (166, ZeZ), (167, ZaI), (168, Zaw), (169, Zgn), (170, ZaM), (171, ZFc), (172, ZkN)] [] 546879438939764547011187383507185256060619065560359097919357232620146805215141852592455017411118079 8) Tryz.f106)
theorem ZcQ : Zc Tryz.prog 106 Zbv := Zaa (P := Tryz.prog) (n := 546879438939764547011187383507185256060619065560359097919357232620146805215141852592455017411118079) (k := 8) (l := [(105, Zad), (146, rOnE), (153, mAtE), (157, ZfL), (158, Ze3), (162, Zs), (163, ZkQ), (164, ZQ), (165, Zmc), (166, ZeZ), (167, ZaI), (168, Zaw), (169, Zgn), (170, ZaM), (171, ZFc), (172, ZkN)]) (ol := []) ⟨Zbd, Zf3, ZtY, Zh4, ZgI, Z4, Zpg, ZaT, Zrx, Zj3, ZcP, Zcv, Zme, Zc6, ZJ5, ZgO, trivial⟩ Tryz.func106 rfl (by kernel_rfl) Tryz.call106 trivial
abbrev Zi : List Sh := [Sh.agg Zaf, Sh.one (R.int i64), Sh.one (R.sl (R.int u8))]
abbrev ZE : Rs := Rs.tup [Sh.agg (RY), Sh.one R.bool]
def Z0 (k : Int) : List (FuncId × Entry) := [(104, ZhO), (105, Zad), (106, Zbv), (107, ZFS k)]
theorem ZFl (k : Int) : ZcN Tryz.prog (Z0 k) := ⟨Ziz, Zbd, ZcQ, (Zzs k), trivial⟩
def Zqu (c : TC) (s : Int) (g : List Int) : RT (Option (TY × Bool)) :=
 let x1 : QT1 := (c, s == 5, g, (0, 0, 0, 0, 0, 0, 0, 0), [])
 let x2 := qAtC x1 0
 let x3 := !x2 || (Zb c.1 (qAt x1 0)).1 == 1
 let x4 : List TY := [] ++ [(12, pcOf c, 0, 6)] ++ [(5, u16.wrap ((spOf c) - 1), u8.wrap (shrI u16 (pcOf c) 8), 3)] ++ [(5, u16.wrap ((spOf c) - 2), u8.wrap (pcOf c), 3)]
 let x6 : QT8 := ((pcOf c), 0, 4)
 let x7 : List TY := [] ++ [(bif s == 5 then 8 else 1, x6)]
 let x9 : List TY := [] ++ [(1, x6)]
 .br (!x3 || x2) (.br (x3) (.br (Ze s) (fin3 g x4) (.br (iN (List.length g) == 0) (fin3 g x7) (fin3 g x9))) (.leaf none)) (.leaf none)
theorem ZCx (a : HL Zj) : Zg (envX Tryz.prog (Z2 1) [] 1125900980585471 8) Tryz.f113 Zj ZF a = Zqu a.1 a.2.1 a.2.2 := by kernel_rfl
def Zqq (c : TC) (s : Int) (g : List Int) : RT (Option (TY × Bool)) :=
 let x1 : QT1 := (c, s == 5, g, (0, 0, 0, 0, 0, 0, 0, 0), [])
 let x2 := qAtC x1 0
 let x3 := Zb c.1 (qAt x1 0)
 let x4 := !x2 || x3.1 == 5
 let x5 : QT8 := ((pcOf c), 0, 4)
 let x6 : List TY := [] ++ [(1, x5)]
 let x7 : List TY := [(9, pcOf c, 0, 3)]
 let x8 : List TY := bif s == 5 then x6 ++ x7 else x6 ++ [(2, u16.wrap ((pcOf c) + u16.wrap 1), 0, 3)]
 let x9 : List TY := bif s == 5 then x8 ++ x7 else x8 ++ [(2, u16.wrap ((pcOf c) + u16.wrap (i64.wrap (1 + 1))), 0, 3)]
 let x10 : QT1 := (c, s == 5, g, (5, x3.2), x9)
 let x11 : List TY := [] ++ [(12, pcOf c, 0, 6)] ++ [(5, u16.wrap ((spOf c) - 1), u8.wrap (shrI u16 (pcOf c) 8), 3)] ++ [(5, u16.wrap ((spOf c) - 2), u8.wrap (pcOf c), 3)]
 let x13 : List TY := [] ++ [(bif s == 5 then 8 else 1, x5)]
 let x15 : List TY := x9 ++ [(2, Ze9 x10 1, 0, 3)]
 .br (!x4 || x2) (.br (x4) (.br (Ze s || (iN (List.length g) == 0 || Zch x10 1)) (.br (Ze s) (fin3 g x11) (.br (iN (List.length g) == 0) (fin3 g x13) (fin3 g x15))) (.leaf none)) (.leaf none)) (.leaf none)
theorem ZCt (a : HL Zj) : Zg (envX Tryz.prog (Z2 5) [] 1125900980585471 8) Tryz.f113 Zj ZF a = Zqq a.1 a.2.1 a.2.2 := by kernel_rfl
def Zqm (c : TC) (s : Int) (g : List Int) : RT (Option (TY × Bool)) :=
 let x1 : QT1 := (c, s == 5, g, (0, 0, 0, 0, 0, 0, 0, 0), [])
 let x2 := qAtC x1 0
 let x3 := Zb c.1 (qAt x1 0)
 let x4 := !x2 || x3.1 == 9
 let x5 : List TY := [] ++ [(12, pcOf c, 0, 6)] ++ [(5, u16.wrap ((spOf c) - 1), u8.wrap (shrI u16 (pcOf c) 8), 3)] ++ [(5, u16.wrap ((spOf c) - 2), u8.wrap (pcOf c), 3)]
 let x7 : QT8 := ((pcOf c), 0, 4)
 let x8 : List TY := [] ++ [(bif s == 5 then 8 else 1, x7)]
 let x10 : List TY := [] ++ [(1, x7)]
 let x11 := x3.2
 let x12 : List TY := x10 ++ [(2, Zdn (c, s == 5, g, (9, x11), x10) x11.2.2.2.1, 0, 3)]
 .br (!x4 || x2) (.br (x4) (.br (Ze s) (fin3 g x5) (.br (iN (List.length g) == 0) (fin3 g x8) (fin3 g x12))) (.leaf none)) (.leaf none)
theorem ZCp (a : HL Zj) : Zg (envX Tryz.prog (Z2 9) [] 1125900980585471 8) Tryz.f113 Zj ZF a = Zqm a.1 a.2.1 a.2.2 := by kernel_rfl
def ZlL (c : TC) (s : Int) (g : List Int) : RT (Option (TY × Bool)) :=
 let x1 : QT1 := (c, s == 5, g, (0, 0, 0, 0, 0, 0, 0, 0), [])
 let x2 := qAtC x1 0
 let x3 := !x2 || (Zb c.1 (qAt x1 0)).1 == 13
 let x4 : List TY := [] ++ [(12, pcOf c, 0, 6)] ++ [(5, u16.wrap ((spOf c) - 1), u8.wrap (shrI u16 (pcOf c) 8), 3)] ++ [(5, u16.wrap ((spOf c) - 2), u8.wrap (pcOf c), 3)]
 let x6 : QT8 := ((pcOf c), 0, 4)
 let x7 : List TY := [] ++ [(bif s == 5 then 8 else 1, x6)]
 let x9 : List TY := [] ++ [(1, x6)]
 let x10 : List TY := bif s == 5 then x9 ++ [(9, pcOf c, 0, 3)] else x9 ++ [(2, u16.wrap ((pcOf c) + u16.wrap 1), 0, 3)]
 .br (!x3 || x2) (.br (x3) (.br (Ze s) (fin3 g x4) (.br (iN (List.length g) == 0) (fin3 g x7) (fin3 g x10))) (.leaf none)) (.leaf none)
theorem Zw9 (a : HL Zj) : Zg (envX Tryz.prog (Z2 13) [] 1125900980585471 8) Tryz.f113 Zj ZF a = ZlL a.1 a.2.1 a.2.2 := by kernel_rfl
def ZlH (c : TC) (s : Int) (g : List Int) : RT (Option (TY × Bool)) :=
 let x1 : QT1 := (c, s == 5, g, (0, 0, 0, 0, 0, 0, 0, 0), [])
 let x2 := qAtC x1 0
 let x3 := !x2 || (Zb c.1 (qAt x1 0)).1 == 17
 let x4 : List TY := [] ++ [(12, pcOf c, 0, 6)] ++ [(5, u16.wrap ((spOf c) - 1), u8.wrap (shrI u16 (pcOf c) 8), 3)] ++ [(5, u16.wrap ((spOf c) - 2), u8.wrap (pcOf c), 3)]
 let x6 : QT8 := ((pcOf c), 0, 4)
 let x7 : List TY := [] ++ [(bif s == 5 then 8 else 1, x6)]
 let x9 : List TY := [] ++ [(1, x6)]
 .br (!x3 || x2) (.br (x3) (.br (Ze s) (fin3 g x4) (.br (iN (List.length g) == 0) (fin3 g x7) (fin3 g x9))) (.leaf none)) (.leaf none)
theorem Zw5 (a : HL Zj) : Zg (envX Tryz.prog (Z2 17) [] 1125900980585471 8) Tryz.f113 Zj ZF a = ZlH a.1 a.2.1 a.2.2 := by kernel_rfl
def ZlD (c : TC) (s : Int) (g : List Int) : RT (Option (TY × Bool)) :=
 let x1 : QT1 := (c, s == 5, g, (0, 0, 0, 0, 0, 0, 0, 0), [])
 let x2 := qAtC x1 0
 let x3 := !x2 || (Zb c.1 (qAt x1 0)).1 == 21
 let x4 : List TY := [] ++ [(12, pcOf c, 0, 6)] ++ [(5, u16.wrap ((spOf c) - 1), u8.wrap (shrI u16 (pcOf c) 8), 3)] ++ [(5, u16.wrap ((spOf c) - 2), u8.wrap (pcOf c), 3)]
 let x6 : QT8 := ((pcOf c), 0, 4)
 let x7 : List TY := [] ++ [(bif s == 5 then 8 else 1, x6)]
 let x9 : List TY := [] ++ [(1, x6)]
 .br (!x3 || x2) (.br (x3) (.br (Ze s) (fin3 g x4) (.br (iN (List.length g) == 0) (fin3 g x7) (fin3 g x9))) (.leaf none)) (.leaf none)
theorem Zw1 (a : HL Zj) : Zg (envX Tryz.prog (Z2 21) [] 1125900980585471 8) Tryz.f113 Zj ZF a = ZlD a.1 a.2.1 a.2.2 := by kernel_rfl
def Zlz (c : TC) (s : Int) (g : List Int) : RT (Option (TY × Bool)) :=
 let x1 : QT1 := (c, s == 5, g, (0, 0, 0, 0, 0, 0, 0, 0), [])
 let x2 := qAtC x1 0
 let x3 := Zb c.1 (qAt x1 0)
 let x4 := !x2 || x3.1 == 25
 let x5 := u16.wrap ((spOf c) - 1)
 let x6 := u16.wrap ((spOf c) - 2)
 let x7 : List TY := [] ++ [(12, pcOf c, 0, 6)] ++ [(5, x5, u8.wrap (shrI u16 (pcOf c) 8), 3)] ++ [(5, x6, u8.wrap (pcOf c), 3)]
 let x9 : QT8 := ((pcOf c), 0, 4)
 let x10 : List TY := [] ++ [(bif s == 5 then 8 else 1, x9)]
 let x12 : QT5 := (25, x3.2)
 let x13 : List TY := [] ++ [(1, x9)]
 let x14 := Zf4 (c, s == 5, g, x12, x13)
 let x15 : List TY := [(9, pcOf c, 0, 3)]
 let x16 : List TY := bif s == 5 then x13 ++ x15 else x13 ++ [(2, u16.wrap ((pcOf c) + u16.wrap 1), 0, 3)]
 let x17 : List TY := bif !x14 && c.1 == 2 then x16 else bif s == 5 then x16 ++ x15 else x16 ++ [(2, u16.wrap ((pcOf c) + u16.wrap (i64.wrap (1 + 1))), 0, 3)]
 let x18 := ZD (c, s == 5, g, x12, x17)
 let x19 : List TY := bif x14 then x17 ++ [(5, x5, u8.wrap (shrI u16 x18 8), 3)] ++ [(5, x6, u8.wrap x18, 3)] else x17
 .br (!x4 || x2) (.br (x4) (.br (Ze s) (fin3 g x7) (.br (iN (List.length g) == 0) (fin3 g x10) (fin3 g x19))) (.leaf none)) (.leaf none)
theorem ZwX (a : HL Zj) : Zg (envX Tryz.prog (Z2 25) [] 1125900980585471 8) Tryz.f113 Zj ZF a = Zlz a.1 a.2.1 a.2.2 := by kernel_rfl
def Zlv (c : TC) (s : Int) (g : List Int) : RT (Option (TY × Bool)) :=
 let x1 : QT1 := (c, s == 5, g, (0, 0, 0, 0, 0, 0, 0, 0), [])
 let x2 := qAtC x1 0
 let x3 := !x2 || (Zb c.1 (qAt x1 0)).1 == 29
 let x4 : List TY := [] ++ [(12, pcOf c, 0, 6)] ++ [(5, u16.wrap ((spOf c) - 1), u8.wrap (shrI u16 (pcOf c) 8), 3)] ++ [(5, u16.wrap ((spOf c) - 2), u8.wrap (pcOf c), 3)]
 let x6 : QT8 := ((pcOf c), 0, 4)
 let x7 : List TY := [] ++ [(bif s == 5 then 8 else 1, x6)]
 let x9 : List TY := [] ++ [(1, x6)]
 .br (!x3 || x2) (.br (x3) (.br (Ze s) (fin3 g x4) (.br (iN (List.length g) == 0) (fin3 g x7) (fin3 g x9))) (.leaf none)) (.leaf none)
theorem ZwT (a : HL Zj) : Zg (envX Tryz.prog (Z2 29) [] 1125900980585471 8) Tryz.f113 Zj ZF a = Zlv a.1 a.2.1 a.2.2 := by kernel_rfl
def Zlr (c : TC) (s : Int) (g : List Int) : RT (Option (TY × Bool)) :=
 let x1 : QT1 := (c, s == 5, g, (0, 0, 0, 0, 0, 0, 0, 0), [])
 let x2 := qAtC x1 0
 let x3 := Zb c.1 (qAt x1 0)
 let x4 := !x2 || x3.1 == 33
 let x5 : QT8 := ((pcOf c), 0, 4)
 let x6 : List TY := [] ++ [(1, x5)]
 let x7 : List TY := bif s == 5 then x6 ++ [(9, pcOf c, 0, 3)] else x6 ++ [(2, u16.wrap ((pcOf c) + u16.wrap 1), 0, 3)]
 let x8 : QT1 := (c, s == 5, g, (33, x3.2), x7)
 let x9 := qAtC x8 1
 let x10 := !x9 || x9
 let x11 := !x10 || x9
 let x12 := Ze s || (iN (List.length g) == 0 || (!x11 || x10))
 let x13 : List TY := [] ++ [(12, pcOf c, 0, 6)] ++ [(5, u16.wrap ((spOf c) - 1), u8.wrap (shrI u16 (pcOf c) 8), 3)] ++ [(5, u16.wrap ((spOf c) - 2), u8.wrap (pcOf c), 3)]
 let x15 : List TY := [] ++ [(bif s == 5 then 8 else 1, x5)]
 let x17 := qAt x8 1
 let x18 : List TY := x7 ++ [(6, Zcg x17 x17, 0, 3)]
 .br (!x4 || x2) (.br (x4) (.br (!x12 || (Ze s || (iN (List.length g) == 0 || x11))) (.br (x12) (.br (Ze s) (fin3 g x13) (.br (iN (List.length g) == 0) (fin3 g x15) (fin3 g x18))) (.leaf none)) (.leaf none)) (.leaf none)) (.leaf none)
theorem ZwP (a : HL Zj) : Zg (envX Tryz.prog (Z2 33) [] 1125900980585471 8) Tryz.f113 Zj ZF a = Zlr a.1 a.2.1 a.2.2 := by kernel_rfl
def Zln (c : TC) (s : Int) (g : List Int) : RT (Option (TY × Bool)) :=
 let x1 : QT1 := (c, s == 5, g, (0, 0, 0, 0, 0, 0, 0, 0), [])
 let x2 := qAtC x1 0
 let x3 := !x2 || (Zb c.1 (qAt x1 0)).1 == 37
 let x4 : List TY := [] ++ [(12, pcOf c, 0, 6)] ++ [(5, u16.wrap ((spOf c) - 1), u8.wrap (shrI u16 (pcOf c) 8), 3)] ++ [(5, u16.wrap ((spOf c) - 2), u8.wrap (pcOf c), 3)]
 let x6 : QT8 := ((pcOf c), 0, 4)
 let x7 : List TY := [] ++ [(bif s == 5 then 8 else 1, x6)]
 let x9 : List TY := [] ++ [(1, x6)]
 let x10 : List TY := bif c.1 != 2 then x9 ++ [(10, pcOf c, 0, 3)] else x9
 .br (!x3 || x2) (.br (x3) (.br (Ze s) (fin3 g x4) (.br (iN (List.length g) == 0) (fin3 g x7) (fin3 g x10))) (.leaf none)) (.leaf none)
theorem ZwL (a : HL Zj) : Zg (envX Tryz.prog (Z2 37) [] 1125900980585471 8) Tryz.f113 Zj ZF a = Zln a.1 a.2.1 a.2.2 := by kernel_rfl
def Zlj (c : TC) (s : Int) (g : List Int) : RT (Option (TY × Bool)) :=
 let x1 : QT1 := (c, s == 5, g, (0, 0, 0, 0, 0, 0, 0, 0), [])
 let x2 := qAtC x1 0
 let x3 := !x2 || (Zb c.1 (qAt x1 0)).1 == 41
 let x4 : List TY := [] ++ [(12, pcOf c, 0, 6)] ++ [(5, u16.wrap ((spOf c) - 1), u8.wrap (shrI u16 (pcOf c) 8), 3)] ++ [(5, u16.wrap ((spOf c) - 2), u8.wrap (pcOf c), 3)]
 let x6 : QT8 := ((pcOf c), 0, 4)
 let x7 : List TY := [] ++ [(bif s == 5 then 8 else 1, x6)]
 let x9 : List TY := [] ++ [(1, x6)] ++ [(11, pcOf c, 0, 3)]
 .br (!x3 || x2) (.br (x3) (.br (Ze s) (fin3 g x4) (.br (iN (List.length g) == 0) (fin3 g x7) (fin3 g x9))) (.leaf none)) (.leaf none)
theorem ZwH (a : HL Zj) : Zg (envX Tryz.prog (Z2 41) [] 1125900980585471 8) Tryz.f113 Zj ZF a = Zlj a.1 a.2.1 a.2.2 := by kernel_rfl
def Zlf (c : TC) (s : Int) (g : List Int) : RT (Option (TY × Bool)) :=
 let x1 : QT1 := (c, s == 5, g, (0, 0, 0, 0, 0, 0, 0, 0), [])
 let x2 := qAtC x1 0
 let x3 := Zb c.1 (qAt x1 0)
 let x4 := !x2 || x3.1 == 45
 let x5 := u16.wrap ((spOf c) - 1)
 let x6 := u16.wrap ((spOf c) - 2)
 let x7 : List TY := [] ++ [(12, pcOf c, 0, 6)] ++ [(5, x5, u8.wrap (shrI u16 (pcOf c) 8), 3)] ++ [(5, x6, u8.wrap (pcOf c), 3)]
 let x9 : QT8 := ((pcOf c), 0, 4)
 let x10 : List TY := [] ++ [(bif s == 5 then 8 else 1, x9)]
 let x12 : List TY := [] ++ [(1, x9)]
 let x13 : QT1 := (c, s == 5, g, (45, x3.2), x12)
 let x14 := ZD x13
 let x15 : List TY := bif Zf4 x13 then x12 ++ [(5, x5, u8.wrap (shrI u16 x14 8), 3)] ++ [(5, x6, u8.wrap x14, 3)] else x12
 .br (!x4 || x2) (.br (x4) (.br (Ze s) (fin3 g x7) (.br (iN (List.length g) == 0) (fin3 g x10) (fin3 g x15))) (.leaf none)) (.leaf none)
theorem ZwD (a : HL Zj) : Zg (envX Tryz.prog (Z2 45) [] 1125900980585471 8) Tryz.f113 Zj ZF a = Zlf a.1 a.2.1 a.2.2 := by kernel_rfl
def Zpa (c : TC) (s : Int) (g : List Int) : RT (Option (TY × Bool)) :=
 let x1 : List TY := [(12, pcOf c, 0, 6)] ++ [(5, u16.wrap ((spOf c) - 1), u8.wrap (shrI u16 (pcOf c) 8), 3)] ++ [(5, u16.wrap ((spOf c) - 2), u8.wrap (pcOf c), 3)]
 let x3 : List TY := [(bif s == 5 then 8 else 1, pcOf c, 0, 4)]
 let x4 : List TY := x3 ++ [(2, Zac c.2.1 2, 0, 3)]
 let x6 : List TY := x3 ++ [(3, Zac c.2.1 2, rGet c.2.1 (Zb c.1 (R.get (R.int u8) g 0)).2.2.2.1, 3)]
 let x8 : Nat := List.length x3
 let x9 := decide (iN (List.length g) ≥ iN x8)
 let x10 := Zf (iN (List.length g)) x8
 let x11 : TY × Bool := (R.get (RY) x3 (iN (List.length g)), true)
 .br (Za s || (!decide (iN (List.length g) > 0) || (!Zf 0 (List.length g) || (Zb c.1 (R.get (R.int u8) g 0)).1 == 2))) (.br (Za s || (!decide (iN (List.length g) > 0) || Zf 0 (List.length g))) (.br (Za s) (fin3 g x1) (.br (decide (iN (List.length g) > 0)) (.br ((Zb c.1 (R.get (R.int u8) g 0)).2.2.2.1 == 6) (fin3 g x4) (.br ((Zb c.1 (R.get (R.int u8) g 0)).2.2.1 == 6) (fin3 g x6) (.br (x9) (.leaf (some (((0, 0, 0, 0), false)))) (.br (x10) (.leaf (some (x11))) (.leaf none))))) (.br (x9) (.leaf (some (((0, 0, 0, 0), false)))) (.br (x10) (.leaf (some (x11))) (.leaf none))))) (.leaf none)) (.leaf none)
theorem ZBq (a : HL Zi) : Zg (envX Tryz.prog (Z0 2) [] 2047 8) Tryz.f42 Zi ZE a = Zpa a.1 a.2.1 a.2.2 := by kernel_rfl
def Zo6 (c : TC) (s : Int) (g : List Int) : RT (Option (TY × Bool)) :=
 let x1 : List TY := [(bif s == 5 then 8 else 1, pcOf c, 0, 4)]
 let x2 : List TY := [(9, pcOf c, 0, 3)]
 let x3 : List TY := x1 ++ x2
 let x4 : List TY := [(2, u16.wrap ((pcOf c) + u16.wrap (i64.wrap (1 + 1))), 0, 3)]
 let x5 : List TY := bif s == 5 then x3 ++ x2 else x3 ++ x4
 let x6 : QT3 := (c, s == 5, g, x5)
 let x7 := !s == 5 || ZbO x6 1
 let x8 : List TY := x1 ++ [(2, u16.wrap ((pcOf c) + u16.wrap 1), 0, 3)]
 let x9 : List TY := bif s == 5 then x8 ++ x2 else x8 ++ x4
 let x10 : QT3 := (c, s == 5, g, x9)
 let x11 : List TY := [(12, pcOf c, 0, 6)] ++ [(5, u16.wrap ((spOf c) - 1), u8.wrap (shrI u16 (pcOf c) 8), 3)] ++ [(5, u16.wrap ((spOf c) - 2), u8.wrap (pcOf c), 3)]
 let x13 : List TY := x5 ++ [(3, ZdP x6 1, c.2.1.1, 3)]
 let x15 : List TY := x9 ++ [(3, ZdP x10 1, c.2.1.1, 3)]
 .br (Za s || (!decide (iN (List.length g) > 0) || (!Zf 0 (List.length g) || (!(Zb c.1 (R.get (R.int u8) g 0)).1 == 6 || (!x7 || (s == 5 || ZbO x10 1)))))) (.br (Za s || (!decide (iN (List.length g) > 0) || (!Zf 0 (List.length g) || (!(Zb c.1 (R.get (R.int u8) g 0)).1 == 6 || x7)))) (.br (Za s || (!decide (iN (List.length g) > 0) || (!Zf 0 (List.length g) || (Zb c.1 (R.get (R.int u8) g 0)).1 == 6))) (.br (Za s || (!decide (iN (List.length g) > 0) || Zf 0 (List.length g))) (.br (Za s) (fin3 g x11) (.br (decide (iN (List.length g) > 0)) (.br (s == 5) (fin3 g x13) (fin3 g x15)) (fin3 g x1))) (.leaf none)) (.leaf none)) (.leaf none)) (.leaf none)
theorem ZBm (a : HL Zi) : Zg (envX Tryz.prog (Z0 6) [] 2047 8) Tryz.f42 Zi ZE a = Zo6 a.1 a.2.1 a.2.2 := by kernel_rfl
def ZkK (c : TC) (s : Int) (g : List Int) : RT (Option (TY × Bool)) :=
 let x1 : List TY := [(12, pcOf c, 0, 6)] ++ [(5, u16.wrap ((spOf c) - 1), u8.wrap (shrI u16 (pcOf c) 8), 3)] ++ [(5, u16.wrap ((spOf c) - 2), u8.wrap (pcOf c), 3)]
 let x3 : List TY := [(bif s == 5 then 8 else 1, pcOf c, 0, 4)]
 let x4 : List TY := x3 ++ [(3, Zac c.2.1 (Zb c.1 (R.get (R.int u8) g 0)).2.2.2.2.1, c.2.1.1, 3)]
 .br (Za s || (!decide (iN (List.length g) > 0) || (!Zf 0 (List.length g) || (Zb c.1 (R.get (R.int u8) g 0)).1 == 10))) (.br (Za s || (!decide (iN (List.length g) > 0) || Zf 0 (List.length g))) (.br (Za s) (fin3 g x1) (.br (decide (iN (List.length g) > 0)) (fin3 g x4) (fin3 g x3))) (.leaf none)) (.leaf none)
theorem ZvO (a : HL Zi) : Zg (envX Tryz.prog (Z0 10) [] 2047 8) Tryz.f42 Zi ZE a = ZkK a.1 a.2.1 a.2.2 := by kernel_rfl
def ZkG (c : TC) (s : Int) (g : List Int) : RT (Option (TY × Bool)) :=
 let x1 : List TY := [(bif s == 5 then 8 else 1, pcOf c, 0, 4)]
 let x2 : QT3 := (c, s == 5, g, x1)
 let x3 : List TY := [(12, pcOf c, 0, 6)] ++ [(5, u16.wrap ((spOf c) - 1), u8.wrap (shrI u16 (pcOf c) 8), 3)] ++ [(5, u16.wrap ((spOf c) - 2), u8.wrap (pcOf c), 3)]
 let x5 : List TY := x1 ++ [(2, Zac c.2.1 2, 0, 3)] ++ [(3, Zac c.2.1 2, (ZfF c (14, (Zb c.1 (R.get (R.int u8) g 0)).2) (mAt x2 1)).1, 3)]
 let x7 : Nat := List.length x1
 let x8 := decide (iN (List.length g) ≥ iN x7)
 let x9 := Zf (iN (List.length g)) x7
 let x10 : TY × Bool := (R.get (RY) x1 (iN (List.length g)), true)
 .br (Za s || (!decide (iN (List.length g) > 0) || (!Zf 0 (List.length g) || (!(Zb c.1 (R.get (R.int u8) g 0)).1 == 14 || (!(Zb c.1 (R.get (R.int u8) g 0)).2.2.1 == 6 || mAtC x2 1))))) (.br (Za s || (!decide (iN (List.length g) > 0) || (!Zf 0 (List.length g) || (Zb c.1 (R.get (R.int u8) g 0)).1 == 14))) (.br (Za s || (!decide (iN (List.length g) > 0) || Zf 0 (List.length g))) (.br (Za s) (fin3 g x3) (.br (decide (iN (List.length g) > 0)) (.br ((Zb c.1 (R.get (R.int u8) g 0)).2.2.1 == 6) (fin3 g x5) (.br (x8) (.leaf (some (((0, 0, 0, 0), false)))) (.br (x9) (.leaf (some (x10))) (.leaf none)))) (.br (x8) (.leaf (some (((0, 0, 0, 0), false)))) (.br (x9) (.leaf (some (x10))) (.leaf none))))) (.leaf none)) (.leaf none)) (.leaf none)
theorem ZvK (a : HL Zi) : Zg (envX Tryz.prog (Z0 14) [] 2047 8) Tryz.f42 Zi ZE a = ZkG a.1 a.2.1 a.2.2 := by kernel_rfl
def ZkC (c : TC) (s : Int) (g : List Int) : RT (Option (TY × Bool)) :=
 let x1 : List TY := [(12, pcOf c, 0, 6)] ++ [(5, u16.wrap ((spOf c) - 1), u8.wrap (shrI u16 (pcOf c) 8), 3)] ++ [(5, u16.wrap ((spOf c) - 2), u8.wrap (pcOf c), 3)]
 let x3 : List TY := [(bif s == 5 then 8 else 1, pcOf c, 0, 4)]
 let x4 : List TY := [(11, pcOf c, 0, 3)]
 let x5 : List TY := x3 ++ x4 ++ x4
 .br (Za s || (!decide (iN (List.length g) > 0) || (!Zf 0 (List.length g) || (Zb c.1 (R.get (R.int u8) g 0)).1 == 18))) (.br (Za s || (!decide (iN (List.length g) > 0) || Zf 0 (List.length g))) (.br (Za s) (fin3 g x1) (.br (decide (iN (List.length g) > 0)) (fin3 g x5) (fin3 g x3))) (.leaf none)) (.leaf none)
theorem ZvG (a : HL Zi) : Zg (envX Tryz.prog (Z0 18) [] 2047 8) Tryz.f42 Zi ZE a = ZkC a.1 a.2.1 a.2.2 := by kernel_rfl
def Zky (c : TC) (s : Int) (g : List Int) : RT (Option (TY × Bool)) :=
 let x1 : List TY := [(12, pcOf c, 0, 6)] ++ [(5, u16.wrap ((spOf c) - 1), u8.wrap (shrI u16 (pcOf c) 8), 3)] ++ [(5, u16.wrap ((spOf c) - 2), u8.wrap (pcOf c), 3)]
 let x3 : List TY := [(bif s == 5 then 8 else 1, pcOf c, 0, 4)]
 .br (Za s || (!decide (iN (List.length g) > 0) || (!Zf 0 (List.length g) || (Zb c.1 (R.get (R.int u8) g 0)).1 == 22))) (.br (Za s || (!decide (iN (List.length g) > 0) || Zf 0 (List.length g))) (.br (Za s) (fin3 g x1) (fin3 g x3)) (.leaf none)) (.leaf none)
theorem ZvC (a : HL Zi) : Zg (envX Tryz.prog (Z0 22) [] 2047 8) Tryz.f42 Zi ZE a = Zky a.1 a.2.1 a.2.2 := by kernel_rfl
def Zku (c : TC) (s : Int) (g : List Int) : RT (Option (TY × Bool)) :=
 let x1 : List TY := [(12, pcOf c, 0, 6)] ++ [(5, u16.wrap ((spOf c) - 1), u8.wrap (shrI u16 (pcOf c) 8), 3)] ++ [(5, u16.wrap ((spOf c) - 2), u8.wrap (pcOf c), 3)]
 let x3 : List TY := [(bif s == 5 then 8 else 1, pcOf c, 0, 4)]
 let x4 : List TY := x3 ++ [(4, spOf c, 0, 3)] ++ [(4, u16.wrap ((spOf c) + 1), 0, 3)]
 let x6 : Nat := List.length x3
 let x7 := decide (iN (List.length g) ≥ iN x6)
 let x8 := Zf (iN (List.length g)) x6
 let x9 : TY × Bool := (R.get (RY) x3 (iN (List.length g)), true)
 .br (Za s || (!decide (iN (List.length g) > 0) || (!Zf 0 (List.length g) || (Zb c.1 (R.get (R.int u8) g 0)).1 == 26))) (.br (Za s || (!decide (iN (List.length g) > 0) || Zf 0 (List.length g))) (.br (Za s) (fin3 g x1) (.br (decide (iN (List.length g) > 0)) (.br (ZdJ (c, s == 5, g, x3) (26, (Zb c.1 (R.get (R.int u8) g 0)).2)) (fin3 g x4) (.br (x7) (.leaf (some (((0, 0, 0, 0), false)))) (.br (x8) (.leaf (some (x9))) (.leaf none)))) (.br (x7) (.leaf (some (((0, 0, 0, 0), false)))) (.br (x8) (.leaf (some (x9))) (.leaf none))))) (.leaf none)) (.leaf none)
theorem Zvy (a : HL Zi) : Zg (envX Tryz.prog (Z0 26) [] 2047 8) Tryz.f42 Zi ZE a = Zku a.1 a.2.1 a.2.2 := by kernel_rfl
def Zkq (c : TC) (s : Int) (g : List Int) : RT (Option (TY × Bool)) :=
 let x1 := u16.wrap ((spOf c) - 1)
 let x2 := u16.wrap ((spOf c) - 2)
 let x3 : List TY := [(12, pcOf c, 0, 6)] ++ [(5, x1, u8.wrap (shrI u16 (pcOf c) 8), 3)] ++ [(5, x2, u8.wrap (pcOf c), 3)]
 let x5 : List TY := [(bif s == 5 then 8 else 1, pcOf c, 0, 4)]
 let x6 : Int := bif (Zb c.1 (R.get (R.int u8) g 0)).2.2.2.2.1 == 3 then rPSW c.1 c.2.1 else Zac c.2.1 (Zb c.1 (R.get (R.int u8) g 0)).2.2.2.2.1
 let x7 : List TY := x5 ++ [(5, x1, u8.wrap (shrI u16 x6 8), 3)] ++ [(5, x2, u8.wrap x6, 3)]
 .br (Za s || (!decide (iN (List.length g) > 0) || (!Zf 0 (List.length g) || (Zb c.1 (R.get (R.int u8) g 0)).1 == 30))) (.br (Za s || (!decide (iN (List.length g) > 0) || Zf 0 (List.length g))) (.br (Za s) (fin3 g x3) (.br (decide (iN (List.length g) > 0)) (fin3 g x7) (fin3 g x5))) (.leaf none)) (.leaf none)
theorem Zvu (a : HL Zi) : Zg (envX Tryz.prog (Z0 30) [] 2047 8) Tryz.f42 Zi ZE a = Zkq a.1 a.2.1 a.2.2 := by kernel_rfl
def Zkm (c : TC) (s : Int) (g : List Int) : RT (Option (TY × Bool)) :=
 let x1 : List TY := [(bif s == 5 then 8 else 1, pcOf c, 0, 4)]
 let x2 : List TY := x1 ++ [(9, pcOf c, 0, 3)]
 let x3 : QT3 := (c, s == 5, g, x2)
 let x4 := mAtC x3 1
 let x5 := !x4 || x4
 let x6 := !s == 5 || (!x5 || x4)
 let x7 := !x6
 let x8 := !s == 5 || x5
 let x9 := !x8
 let x10 : List TY := x1 ++ [(2, u16.wrap ((pcOf c) + u16.wrap 1), 0, 3)]
 let x11 : QT3 := (c, s == 5, g, x10)
 let x12 := mAtC x11 1
 let x13 := !x12 || x12
 let x14 := s == 5 || (!x13 || x12)
 let x15 : List TY := [(12, pcOf c, 0, 6)] ++ [(5, u16.wrap ((spOf c) - 1), u8.wrap (shrI u16 (pcOf c) 8), 3)] ++ [(5, u16.wrap ((spOf c) - 2), u8.wrap (pcOf c), 3)]
 let x17 := mAt x3 1
 let x18 : List TY := x2 ++ [(7, Zcg x17 x17, c.2.1.1, 3)]
 let x20 := mAt x11 1
 let x21 : List TY := x10 ++ [(7, Zcg x20 x20, c.2.1.1, 3)]
 .br (Za s || (!decide (iN (List.length g) > 0) || (!Zf 0 (List.length g) || (!(Zb c.1 (R.get (R.int u8) g 0)).1 == 34 || (x7 || (x9 || (!x14 || (s == 5 || x13)))))))) (.br (Za s || (!decide (iN (List.length g) > 0) || (!Zf 0 (List.length g) || (!(Zb c.1 (R.get (R.int u8) g 0)).1 == 34 || (x7 || (x9 || x14)))))) (.br (Za s || (!decide (iN (List.length g) > 0) || (!Zf 0 (List.length g) || (!(Zb c.1 (R.get (R.int u8) g 0)).1 == 34 || (x7 || x8))))) (.br (Za s || (!decide (iN (List.length g) > 0) || (!Zf 0 (List.length g) || (!(Zb c.1 (R.get (R.int u8) g 0)).1 == 34 || x6)))) (.br (Za s || (!decide (iN (List.length g) > 0) || (!Zf 0 (List.length g) || (Zb c.1 (R.get (R.int u8) g 0)).1 == 34))) (.br (Za s || (!decide (iN (List.length g) > 0) || Zf 0 (List.length g))) (.br (Za s) (fin3 g x15) (.br (decide (iN (List.length g) > 0)) (.br (s == 5) (fin3 g x18) (fin3 g x21)) (fin3 g x1))) (.leaf none)) (.leaf none)) (.leaf none)) (.leaf none)) (.leaf none)) (.leaf none)
theorem Zvq (a : HL Zi) : Zg (envX Tryz.prog (Z0 34) [] 2047 8) Tryz.f42 Zi ZE a = Zkm a.1 a.2.1 a.2.2 := by kernel_rfl
def Zki (c : TC) (s : Int) (g : List Int) : RT (Option (TY × Bool)) :=
 let x1 : List TY := [(12, pcOf c, 0, 6)] ++ [(5, u16.wrap ((spOf c) - 1), u8.wrap (shrI u16 (pcOf c) 8), 3)] ++ [(5, u16.wrap ((spOf c) - 2), u8.wrap (pcOf c), 3)]
 let x3 : List TY := [(bif s == 5 then 8 else 1, pcOf c, 0, 4)]
 .br (Za s || (!decide (iN (List.length g) > 0) || (!Zf 0 (List.length g) || (Zb c.1 (R.get (R.int u8) g 0)).1 == 38))) (.br (Za s || (!decide (iN (List.length g) > 0) || Zf 0 (List.length g))) (.br (Za s) (fin3 g x1) (fin3 g x3)) (.leaf none)) (.leaf none)
theorem Zvm (a : HL Zi) : Zg (envX Tryz.prog (Z0 38) [] 2047 8) Tryz.f42 Zi ZE a = Zki a.1 a.2.1 a.2.2 := by kernel_rfl
def Zke (c : TC) (s : Int) (g : List Int) : RT (Option (TY × Bool)) :=
 let x1 : List TY := [(12, pcOf c, 0, 6)] ++ [(5, u16.wrap ((spOf c) - 1), u8.wrap (shrI u16 (pcOf c) 8), 3)] ++ [(5, u16.wrap ((spOf c) - 2), u8.wrap (pcOf c), 3)]
 let x3 : List TY := [(bif s == 5 then 8 else 1, pcOf c, 0, 4)]
 let x4 : List TY := [(11, pcOf c, 0, 3)]
 let x5 : List TY := x3 ++ x4 ++ x4
 .br (Za s || (!decide (iN (List.length g) > 0) || (!Zf 0 (List.length g) || (Zb c.1 (R.get (R.int u8) g 0)).1 == 42))) (.br (Za s || (!decide (iN (List.length g) > 0) || Zf 0 (List.length g))) (.br (Za s) (fin3 g x1) (.br (decide (iN (List.length g) > 0)) (fin3 g x5) (fin3 g x3))) (.leaf none)) (.leaf none)
theorem Zvi (a : HL Zi) : Zg (envX Tryz.prog (Z0 42) [] 2047 8) Tryz.f42 Zi ZE a = Zke a.1 a.2.1 a.2.2 := by kernel_rfl
def Zka (c : TC) (s : Int) (g : List Int) : RT (Option (TY × Bool)) :=
 let x1 : List TY := [(12, pcOf c, 0, 6)] ++ [(5, u16.wrap ((spOf c) - 1), u8.wrap (shrI u16 (pcOf c) 8), 3)] ++ [(5, u16.wrap ((spOf c) - 2), u8.wrap (pcOf c), 3)]
 let x3 : List TY := [(bif s == 5 then 8 else 1, pcOf c, 0, 4)]
 let x4 : List TY := x3 ++ [(3, Zac c.2.1 1, c.2.1.2.2.2.2.2.2.1, 3)] ++ [(3, u16.wrap (Zac c.2.1 1 + 1), c.2.1.2.2.2.2.2.1, 3)]
 .br (Za s || (!decide (iN (List.length g) > 0) || (!Zf 0 (List.length g) || (Zb c.1 (R.get (R.int u8) g 0)).1 == 46))) (.br (Za s || (!decide (iN (List.length g) > 0) || Zf 0 (List.length g))) (.br (Za s) (fin3 g x1) (.br (decide (iN (List.length g) > 0)) (fin3 g x4) (fin3 g x3))) (.leaf none)) (.leaf none)
theorem Zve (a : HL Zi) : Zg (envX Tryz.prog (Z0 46) [] 2047 8) Tryz.f42 Zi ZE a = Zka a.1 a.2.1 a.2.2 := by kernel_rfl
def Zqt (c : TC) (s : Int) (g : List Int) : RT (Option (TY × Bool)) :=
 let x1 : QT1 := (c, s == 5, g, (0, 0, 0, 0, 0, 0, 0, 0), [])
 let x2 := qAtC x1 0
 let x3 := Zb c.1 (qAt x1 0)
 let x4 := !x2 || x3.1 == 2
 let x5 : List TY := [] ++ [(12, pcOf c, 0, 6)] ++ [(5, u16.wrap ((spOf c) - 1), u8.wrap (shrI u16 (pcOf c) 8), 3)] ++ [(5, u16.wrap ((spOf c) - 2), u8.wrap (pcOf c), 3)]
 let x7 : QT8 := ((pcOf c), 0, 4)
 let x8 : List TY := [] ++ [(bif s == 5 then 8 else 1, x7)]
 let x10 := x3.2
 let x11 := x10.2
 let x12 := x11.2.1
 let x13 : List TY := [] ++ [(1, x7)]
 let x14 : QT1 := (c, s == 5, g, (2, x10), x13)
 let x15 := Zdn x14 2
 let x16 : List TY := bif x12 == 6 then x13 ++ [(2, x15, 0, 3)] else bif x11.1 == 6 then x13 ++ [(3, x15, qReg x14 x12, 3)] else x13
 .br (!x4 || x2) (.br (x4) (.br (Ze s) (fin3 g x5) (.br (iN (List.length g) == 0) (fin3 g x8) (fin3 g x16))) (.leaf none)) (.leaf none)
theorem ZCw (a : HL Zj) : Zg (envX Tryz.prog (Z2 2) [] 1125900980585471 8) Tryz.f113 Zj ZF a = Zqt a.1 a.2.1 a.2.2 := by kernel_rfl
def Zqp (c : TC) (s : Int) (g : List Int) : RT (Option (TY × Bool)) :=
 let x1 : QT1 := (c, s == 5, g, (0, 0, 0, 0, 0, 0, 0, 0), [])
 let x2 := qAtC x1 0
 let x3 := Zb c.1 (qAt x1 0)
 let x4 := !x2 || x3.1 == 6
 let x5 : QT8 := ((pcOf c), 0, 4)
 let x6 : List TY := [] ++ [(1, x5)]
 let x7 : List TY := [(9, pcOf c, 0, 3)]
 let x8 : List TY := bif s == 5 then x6 ++ x7 else x6 ++ [(2, u16.wrap ((pcOf c) + u16.wrap 1), 0, 3)]
 let x9 : List TY := bif s == 5 then x8 ++ x7 else x8 ++ [(2, u16.wrap ((pcOf c) + u16.wrap (i64.wrap (1 + 1))), 0, 3)]
 let x10 : QT1 := (c, s == 5, g, (6, x3.2), x9)
 let x11 : List TY := [] ++ [(12, pcOf c, 0, 6)] ++ [(5, u16.wrap ((spOf c) - 1), u8.wrap (shrI u16 (pcOf c) 8), 3)] ++ [(5, u16.wrap ((spOf c) - 2), u8.wrap (pcOf c), 3)]
 let x13 : List TY := [] ++ [(bif s == 5 then 8 else 1, x5)]
 let x15 : List TY := x9 ++ [(3, Ze9 x10 1, c.2.1.1, 3)]
 .br (!x4 || x2) (.br (x4) (.br (Ze s || (iN (List.length g) == 0 || Zch x10 1)) (.br (Ze s) (fin3 g x11) (.br (iN (List.length g) == 0) (fin3 g x13) (fin3 g x15))) (.leaf none)) (.leaf none)) (.leaf none)
theorem ZCs (a : HL Zj) : Zg (envX Tryz.prog (Z2 6) [] 1125900980585471 8) Tryz.f113 Zj ZF a = Zqp a.1 a.2.1 a.2.2 := by kernel_rfl
def ZlO (c : TC) (s : Int) (g : List Int) : RT (Option (TY × Bool)) :=
 let x1 : QT1 := (c, s == 5, g, (0, 0, 0, 0, 0, 0, 0, 0), [])
 let x2 := qAtC x1 0
 let x3 := Zb c.1 (qAt x1 0)
 let x4 := !x2 || x3.1 == 10
 let x5 : List TY := [] ++ [(12, pcOf c, 0, 6)] ++ [(5, u16.wrap ((spOf c) - 1), u8.wrap (shrI u16 (pcOf c) 8), 3)] ++ [(5, u16.wrap ((spOf c) - 2), u8.wrap (pcOf c), 3)]
 let x7 : QT8 := ((pcOf c), 0, 4)
 let x8 : List TY := [] ++ [(bif s == 5 then 8 else 1, x7)]
 let x10 : List TY := [] ++ [(1, x7)]
 let x11 := x3.2
 let x12 : List TY := x10 ++ [(3, Zdn (c, s == 5, g, (10, x11), x10) x11.2.2.2.1, c.2.1.1, 3)]
 .br (!x4 || x2) (.br (x4) (.br (Ze s) (fin3 g x5) (.br (iN (List.length g) == 0) (fin3 g x8) (fin3 g x12))) (.leaf none)) (.leaf none)
theorem Zxc (a : HL Zj) : Zg (envX Tryz.prog (Z2 10) [] 1125900980585471 8) Tryz.f113 Zj ZF a = ZlO a.1 a.2.1 a.2.2 := by kernel_rfl
def ZlK (c : TC) (s : Int) (g : List Int) : RT (Option (TY × Bool)) :=
 let x1 : QT1 := (c, s == 5, g, (0, 0, 0, 0, 0, 0, 0, 0), [])
 let x2 := qAtC x1 0
 let x3 := Zb c.1 (qAt x1 0)
 let x4 := !x2 || x3.1 == 14
 let x5 := x3.2
 let x6 := x5.2.1 == 6
 let x7 : QT5 := (14, x5)
 let x8 : QT8 := ((pcOf c), 0, 4)
 let x9 : List TY := [] ++ [(1, x8)]
 let x10 := Zdn (c, s == 5, g, x7, x9) 2
 let x11 : List TY := x9 ++ [(2, x10, 0, 3)]
 let x12 : QT1 := (c, s == 5, g, x7, x11)
 let x13 : List TY := [] ++ [(12, pcOf c, 0, 6)] ++ [(5, u16.wrap ((spOf c) - 1), u8.wrap (shrI u16 (pcOf c) 8), 3)] ++ [(5, u16.wrap ((spOf c) - 2), u8.wrap (pcOf c), 3)]
 let x15 : List TY := [] ++ [(bif s == 5 then 8 else 1, x8)]
 let x17 : List TY := bif x6 then x11 ++ [(3, x10, ZgV x12, 3)] else x9
 .br (!x4 || x2) (.br (x4) (.br (Ze s || (iN (List.length g) == 0 || (!x6 || Zfa x12))) (.br (Ze s) (fin3 g x13) (.br (iN (List.length g) == 0) (fin3 g x15) (fin3 g x17))) (.leaf none)) (.leaf none)) (.leaf none)
theorem Zw8 (a : HL Zj) : Zg (envX Tryz.prog (Z2 14) [] 1125900980585471 8) Tryz.f113 Zj ZF a = ZlK a.1 a.2.1 a.2.2 := by kernel_rfl
def ZlG (c : TC) (s : Int) (g : List Int) : RT (Option (TY × Bool)) :=
 let x1 : QT1 := (c, s == 5, g, (0, 0, 0, 0, 0, 0, 0, 0), [])
 let x2 := qAtC x1 0
 let x3 := !x2 || (Zb c.1 (qAt x1 0)).1 == 18
 let x4 : List TY := [] ++ [(12, pcOf c, 0, 6)] ++ [(5, u16.wrap ((spOf c) - 1), u8.wrap (shrI u16 (pcOf c) 8), 3)] ++ [(5, u16.wrap ((spOf c) - 2), u8.wrap (pcOf c), 3)]
 let x6 : QT8 := ((pcOf c), 0, 4)
 let x7 : List TY := [] ++ [(bif s == 5 then 8 else 1, x6)]
 let x9 : List TY := [(11, pcOf c, 0, 3)]
 let x10 : List TY := [] ++ [(1, x6)] ++ x9 ++ x9
 .br (!x3 || x2) (.br (x3) (.br (Ze s) (fin3 g x4) (.br (iN (List.length g) == 0) (fin3 g x7) (fin3 g x10))) (.leaf none)) (.leaf none)
theorem Zw4 (a : HL Zj) : Zg (envX Tryz.prog (Z2 18) [] 1125900980585471 8) Tryz.f113 Zj ZF a = ZlG a.1 a.2.1 a.2.2 := by kernel_rfl
def ZlC (c : TC) (s : Int) (g : List Int) : RT (Option (TY × Bool)) :=
 let x1 : QT1 := (c, s == 5, g, (0, 0, 0, 0, 0, 0, 0, 0), [])
 let x2 := qAtC x1 0
 let x3 := !x2 || (Zb c.1 (qAt x1 0)).1 == 22
 let x4 : List TY := [] ++ [(12, pcOf c, 0, 6)] ++ [(5, u16.wrap ((spOf c) - 1), u8.wrap (shrI u16 (pcOf c) 8), 3)] ++ [(5, u16.wrap ((spOf c) - 2), u8.wrap (pcOf c), 3)]
 let x6 : QT8 := ((pcOf c), 0, 4)
 let x7 : List TY := [] ++ [(bif s == 5 then 8 else 1, x6)]
 let x9 : List TY := [] ++ [(1, x6)]
 .br (!x3 || x2) (.br (x3) (.br (Ze s) (fin3 g x4) (.br (iN (List.length g) == 0) (fin3 g x7) (fin3 g x9))) (.leaf none)) (.leaf none)
theorem Zw0 (a : HL Zj) : Zg (envX Tryz.prog (Z2 22) [] 1125900980585471 8) Tryz.f113 Zj ZF a = ZlC a.1 a.2.1 a.2.2 := by kernel_rfl
def Zly (c : TC) (s : Int) (g : List Int) : RT (Option (TY × Bool)) :=
 let x1 : QT1 := (c, s == 5, g, (0, 0, 0, 0, 0, 0, 0, 0), [])
 let x2 := qAtC x1 0
 let x3 := Zb c.1 (qAt x1 0)
 let x4 := !x2 || x3.1 == 26
 let x5 : List TY := [] ++ [(12, pcOf c, 0, 6)] ++ [(5, u16.wrap ((spOf c) - 1), u8.wrap (shrI u16 (pcOf c) 8), 3)] ++ [(5, u16.wrap ((spOf c) - 2), u8.wrap (pcOf c), 3)]
 let x7 : QT8 := ((pcOf c), 0, 4)
 let x8 : List TY := [] ++ [(bif s == 5 then 8 else 1, x7)]
 let x10 : List TY := [] ++ [(1, x7)]
 let x11 : List TY := bif Zf4 (c, s == 5, g, (26, x3.2), x10) then x10 ++ [(4, spOf c, 0, 3)] ++ [(4, u16.wrap ((spOf c) + 1), 0, 3)] else x10
 .br (!x4 || x2) (.br (x4) (.br (Ze s) (fin3 g x5) (.br (iN (List.length g) == 0) (fin3 g x8) (fin3 g x11))) (.leaf none)) (.leaf none)
theorem ZwW (a : HL Zj) : Zg (envX Tryz.prog (Z2 26) [] 1125900980585471 8) Tryz.f113 Zj ZF a = Zly a.1 a.2.1 a.2.2 := by kernel_rfl
def Zlu (c : TC) (s : Int) (g : List Int) : RT (Option (TY × Bool)) :=
 let x1 : QT1 := (c, s == 5, g, (0, 0, 0, 0, 0, 0, 0, 0), [])
 let x2 := qAtC x1 0
 let x3 := Zb c.1 (qAt x1 0)
 let x4 := !x2 || x3.1 == 30
 let x5 := u16.wrap ((spOf c) - 1)
 let x6 := u16.wrap ((spOf c) - 2)
 let x7 : List TY := [] ++ [(12, pcOf c, 0, 6)] ++ [(5, x5, u8.wrap (shrI u16 (pcOf c) 8), 3)] ++ [(5, x6, u8.wrap (pcOf c), 3)]
 let x9 : QT8 := ((pcOf c), 0, 4)
 let x10 : List TY := [] ++ [(bif s == 5 then 8 else 1, x9)]
 let x12 : List TY := [] ++ [(1, x9)]
 let x13 := x3.2
 let x14 := x13.2.2.2.1
 let x15 : Int := bif x14 == 3 then rPSW c.1 c.2.1 else Zdn (c, s == 5, g, (30, x13), x12) x14
 let x16 : List TY := x12 ++ [(5, x5, u8.wrap (shrI u16 x15 8), 3)] ++ [(5, x6, u8.wrap x15, 3)]
 .br (!x4 || x2) (.br (x4) (.br (Ze s) (fin3 g x7) (.br (iN (List.length g) == 0) (fin3 g x10) (fin3 g x16))) (.leaf none)) (.leaf none)
theorem ZwS (a : HL Zj) : Zg (envX Tryz.prog (Z2 30) [] 1125900980585471 8) Tryz.f113 Zj ZF a = Zlu a.1 a.2.1 a.2.2 := by kernel_rfl
def Zlq (c : TC) (s : Int) (g : List Int) : RT (Option (TY × Bool)) :=
 let x1 : QT1 := (c, s == 5, g, (0, 0, 0, 0, 0, 0, 0, 0), [])
 let x2 := qAtC x1 0
 let x3 := Zb c.1 (qAt x1 0)
 let x4 := !x2 || x3.1 == 34
 let x5 : QT8 := ((pcOf c), 0, 4)
 let x6 : List TY := [] ++ [(1, x5)]
 let x7 : List TY := bif s == 5 then x6 ++ [(9, pcOf c, 0, 3)] else x6 ++ [(2, u16.wrap ((pcOf c) + u16.wrap 1), 0, 3)]
 let x8 : QT1 := (c, s == 5, g, (34, x3.2), x7)
 let x9 := qAtC x8 1
 let x10 := !x9 || x9
 let x11 := !x10 || x9
 let x12 := Ze s || (iN (List.length g) == 0 || (!x11 || x10))
 let x13 : List TY := [] ++ [(12, pcOf c, 0, 6)] ++ [(5, u16.wrap ((spOf c) - 1), u8.wrap (shrI u16 (pcOf c) 8), 3)] ++ [(5, u16.wrap ((spOf c) - 2), u8.wrap (pcOf c), 3)]
 let x15 : List TY := [] ++ [(bif s == 5 then 8 else 1, x5)]
 let x17 := qAt x8 1
 let x18 : List TY := x7 ++ [(7, Zcg x17 x17, c.2.1.1, 3)]
 .br (!x4 || x2) (.br (x4) (.br (!x12 || (Ze s || (iN (List.length g) == 0 || x11))) (.br (x12) (.br (Ze s) (fin3 g x13) (.br (iN (List.length g) == 0) (fin3 g x15) (fin3 g x18))) (.leaf none)) (.leaf none)) (.leaf none)) (.leaf none)
theorem ZwO (a : HL Zj) : Zg (envX Tryz.prog (Z2 34) [] 1125900980585471 8) Tryz.f113 Zj ZF a = Zlq a.1 a.2.1 a.2.2 := by kernel_rfl
def Zlm (c : TC) (s : Int) (g : List Int) : RT (Option (TY × Bool)) :=
 let x1 : QT1 := (c, s == 5, g, (0, 0, 0, 0, 0, 0, 0, 0), [])
 let x2 := qAtC x1 0
 let x3 := !x2 || (Zb c.1 (qAt x1 0)).1 == 38
 let x4 : List TY := [] ++ [(12, pcOf c, 0, 6)] ++ [(5, u16.wrap ((spOf c) - 1), u8.wrap (shrI u16 (pcOf c) 8), 3)] ++ [(5, u16.wrap ((spOf c) - 2), u8.wrap (pcOf c), 3)]
 let x6 : QT8 := ((pcOf c), 0, 4)
 let x7 : List TY := [] ++ [(bif s == 5 then 8 else 1, x6)]
 let x9 : List TY := [] ++ [(1, x6)]
 .br (!x3 || x2) (.br (x3) (.br (Ze s) (fin3 g x4) (.br (iN (List.length g) == 0) (fin3 g x7) (fin3 g x9))) (.leaf none)) (.leaf none)
theorem ZwK (a : HL Zj) : Zg (envX Tryz.prog (Z2 38) [] 1125900980585471 8) Tryz.f113 Zj ZF a = Zlm a.1 a.2.1 a.2.2 := by kernel_rfl
def Zli (c : TC) (s : Int) (g : List Int) : RT (Option (TY × Bool)) :=
 let x1 : QT1 := (c, s == 5, g, (0, 0, 0, 0, 0, 0, 0, 0), [])
 let x2 := qAtC x1 0
 let x3 := !x2 || (Zb c.1 (qAt x1 0)).1 == 42
 let x4 : List TY := [] ++ [(12, pcOf c, 0, 6)] ++ [(5, u16.wrap ((spOf c) - 1), u8.wrap (shrI u16 (pcOf c) 8), 3)] ++ [(5, u16.wrap ((spOf c) - 2), u8.wrap (pcOf c), 3)]
 let x6 : QT8 := ((pcOf c), 0, 4)
 let x7 : List TY := [] ++ [(bif s == 5 then 8 else 1, x6)]
 let x9 : List TY := [(11, pcOf c, 0, 3)]
 let x10 : List TY := [] ++ [(1, x6)] ++ x9 ++ x9
 .br (!x3 || x2) (.br (x3) (.br (Ze s) (fin3 g x4) (.br (iN (List.length g) == 0) (fin3 g x7) (fin3 g x10))) (.leaf none)) (.leaf none)
theorem ZwG (a : HL Zj) : Zg (envX Tryz.prog (Z2 42) [] 1125900980585471 8) Tryz.f113 Zj ZF a = Zli a.1 a.2.1 a.2.2 := by kernel_rfl
def Zle (c : TC) (s : Int) (g : List Int) : RT (Option (TY × Bool)) :=
 let x1 : QT1 := (c, s == 5, g, (0, 0, 0, 0, 0, 0, 0, 0), [])
 let x2 := qAtC x1 0
 let x3 := Zb c.1 (qAt x1 0)
 let x4 := !x2 || x3.1 == 46
 let x5 : List TY := [] ++ [(12, pcOf c, 0, 6)] ++ [(5, u16.wrap ((spOf c) - 1), u8.wrap (shrI u16 (pcOf c) 8), 3)] ++ [(5, u16.wrap ((spOf c) - 2), u8.wrap (pcOf c), 3)]
 let x7 : QT8 := ((pcOf c), 0, 4)
 let x8 : List TY := [] ++ [(bif s == 5 then 8 else 1, x7)]
 let x10 : List TY := [] ++ [(1, x7)]
 let x11 := Zdn (c, s == 5, g, (46, x3.2), x10) 1
 let x12 : List TY := x10 ++ [(3, x11, c.2.1.2.2.2.2.2.2.1, 3)] ++ [(3, u16.wrap (x11 + 1), c.2.1.2.2.2.2.2.1, 3)]
 .br (!x4 || x2) (.br (x4) (.br (Ze s) (fin3 g x5) (.br (iN (List.length g) == 0) (fin3 g x8) (fin3 g x12))) (.leaf none)) (.leaf none)
theorem ZwC (a : HL Zj) : Zg (envX Tryz.prog (Z2 46) [] 1125900980585471 8) Tryz.f113 Zj ZF a = Zle a.1 a.2.1 a.2.2 := by kernel_rfl
def Zo9 (c : TC) (s : Int) (g : List Int) : RT (Option (TY × Bool)) :=
 let x1 := !(Zb c.1 (R.get (R.int u8) g 0)).2.2.1 == 6
 let x2 : List TY := [(bif s == 5 then 8 else 1, pcOf c, 0, 4)]
 let x3 : List TY := x2 ++ [(9, pcOf c, 0, 3)]
 let x4 : QT3 := (c, s == 5, g, x3)
 let x5 := !s == 5 || (x1 || mAtC x4 1)
 let x6 : List TY := x2 ++ [(2, u16.wrap ((pcOf c) + u16.wrap 1), 0, 3)]
 let x7 : QT3 := (c, s == 5, g, x6)
 let x8 : List TY := [(12, pcOf c, 0, 6)] ++ [(5, u16.wrap ((spOf c) - 1), u8.wrap (shrI u16 (pcOf c) 8), 3)] ++ [(5, u16.wrap ((spOf c) - 2), u8.wrap (pcOf c), 3)]
 let x10 : List TY := bif (Zb c.1 (R.get (R.int u8) g 0)).2.2.1 == 6 then x3 ++ [(3, Zac c.2.1 2, mAt x4 1, 3)] else x3
 let x12 : List TY := bif (Zb c.1 (R.get (R.int u8) g 0)).2.2.1 == 6 then x6 ++ [(3, Zac c.2.1 2, mAt x7 1, 3)] else x6
 .br (Za s || (!decide (iN (List.length g) > 0) || (!Zf 0 (List.length g) || (!(Zb c.1 (R.get (R.int u8) g 0)).1 == 3 || (!x5 || (s == 5 || (x1 || mAtC x7 1))))))) (.br (Za s || (!decide (iN (List.length g) > 0) || (!Zf 0 (List.length g) || (!(Zb c.1 (R.get (R.int u8) g 0)).1 == 3 || x5)))) (.br (Za s || (!decide (iN (List.length g) > 0) || (!Zf 0 (List.length g) || (Zb c.1 (R.get (R.int u8) g 0)).1 == 3))) (.br (Za s || (!decide (iN (List.length g) > 0) || Zf 0 (List.length g))) (.br (Za s) (fin3 g x8) (.br (decide (iN (List.length g) > 0)) (.br (s == 5) (fin3 g x10) (fin3 g x12)) (fin3 g x2))) (.leaf none)) (.leaf none)) (.leaf none)) (.leaf none)
theorem ZBp (a : HL Zi) : Zg (envX Tryz.prog (Z0 3) [] 2047 8) Tryz.f42 Zi ZE a = Zo9 a.1 a.2.1 a.2.2 := by kernel_rfl
def Zo5 (c : TC) (s : Int) (g : List Int) : RT (Option (TY × Bool)) :=
 let x1 : List TY := [(bif s == 5 then 8 else 1, pcOf c, 0, 4)]
 let x2 : List TY := [(9, pcOf c, 0, 3)]
 let x3 : List TY := x1 ++ x2
 let x4 : List TY := [(2, u16.wrap ((pcOf c) + u16.wrap (i64.wrap (1 + 1))), 0, 3)]
 let x5 : List TY := bif s == 5 then x3 ++ x2 else x3 ++ x4
 let x6 : QT3 := (c, s == 5, g, x5)
 let x7 := ZbO x6 1
 let x8 : List TY := x5 ++ [(2, ZdP x6 1, 0, 3)]
 let x9 : QT3 := (c, s == 5, g, x8)
 let x10 := !s == 5 || (!x7 || ZbO x9 1)
 let x11 := !x10
 let x12 := !s == 5 || x7
 let x13 := !x12
 let x14 : List TY := x1 ++ [(2, u16.wrap ((pcOf c) + u16.wrap 1), 0, 3)]
 let x15 : List TY := bif s == 5 then x14 ++ x2 else x14 ++ x4
 let x16 : QT3 := (c, s == 5, g, x15)
 let x17 := ZbO x16 1
 let x18 : List TY := x15 ++ [(2, ZdP x16 1, 0, 3)]
 let x19 : QT3 := (c, s == 5, g, x18)
 let x20 := s == 5 || (!x17 || ZbO x19 1)
 let x21 : List TY := [(12, pcOf c, 0, 6)] ++ [(5, u16.wrap ((spOf c) - 1), u8.wrap (shrI u16 (pcOf c) 8), 3)] ++ [(5, u16.wrap ((spOf c) - 2), u8.wrap (pcOf c), 3)]
 let x23 : List TY := x8 ++ [(2, u16.wrap (ZdP x9 1 + 1), 0, 3)]
 let x25 : List TY := x18 ++ [(2, u16.wrap (ZdP x19 1 + 1), 0, 3)]
 .br (Za s || (!decide (iN (List.length g) > 0) || (!Zf 0 (List.length g) || (!(Zb c.1 (R.get (R.int u8) g 0)).1 == 7 || (x11 || (x13 || (!x20 || (s == 5 || x17)))))))) (.br (Za s || (!decide (iN (List.length g) > 0) || (!Zf 0 (List.length g) || (!(Zb c.1 (R.get (R.int u8) g 0)).1 == 7 || (x11 || (x13 || x20)))))) (.br (Za s || (!decide (iN (List.length g) > 0) || (!Zf 0 (List.length g) || (!(Zb c.1 (R.get (R.int u8) g 0)).1 == 7 || (x11 || x12))))) (.br (Za s || (!decide (iN (List.length g) > 0) || (!Zf 0 (List.length g) || (!(Zb c.1 (R.get (R.int u8) g 0)).1 == 7 || x10)))) (.br (Za s || (!decide (iN (List.length g) > 0) || (!Zf 0 (List.length g) || (Zb c.1 (R.get (R.int u8) g 0)).1 == 7))) (.br (Za s || (!decide (iN (List.length g) > 0) || Zf 0 (List.length g))) (.br (Za s) (fin3 g x21) (.br (decide (iN (List.length g) > 0)) (.br (s == 5) (fin3 g x23) (fin3 g x25)) (fin3 g x1))) (.leaf none)) (.leaf none)) (.leaf none)) (.leaf none)) (.leaf none)) (.leaf none)
theorem ZBl (a : HL Zi) : Zg (envX Tryz.prog (Z0 7) [] 2047 8) Tryz.f42 Zi ZE a = Zo5 a.1 a.2.1 a.2.2 := by kernel_rfl
def ZkJ (c : TC) (s : Int) (g : List Int) : RT (Option (TY × Bool)) :=
 let x1 : List TY := [(12, pcOf c, 0, 6)] ++ [(5, u16.wrap ((spOf c) - 1), u8.wrap (shrI u16 (pcOf c) 8), 3)] ++ [(5, u16.wrap ((spOf c) - 2), u8.wrap (pcOf c), 3)]
 let x3 : List TY := [(bif s == 5 then 8 else 1, pcOf c, 0, 4)]
 .br (Za s || (!decide (iN (List.length g) > 0) || (!Zf 0 (List.length g) || (Zb c.1 (R.get (R.int u8) g 0)).1 == 11))) (.br (Za s || (!decide (iN (List.length g) > 0) || Zf 0 (List.length g))) (.br (Za s) (fin3 g x1) (fin3 g x3)) (.leaf none)) (.leaf none)
theorem ZvN (a : HL Zi) : Zg (envX Tryz.prog (Z0 11) [] 2047 8) Tryz.f42 Zi ZE a = ZkJ a.1 a.2.1 a.2.2 := by kernel_rfl
def ZkF (c : TC) (s : Int) (g : List Int) : RT (Option (TY × Bool)) :=
 let x1 : List TY := [(bif s == 5 then 8 else 1, pcOf c, 0, 4)]
 let x2 : QT3 := (c, s == 5, g, x1)
 let x3 : List TY := [(12, pcOf c, 0, 6)] ++ [(5, u16.wrap ((spOf c) - 1), u8.wrap (shrI u16 (pcOf c) 8), 3)] ++ [(5, u16.wrap ((spOf c) - 2), u8.wrap (pcOf c), 3)]
 let x5 : List TY := x1 ++ [(2, Zac c.2.1 2, 0, 3)] ++ [(3, Zac c.2.1 2, (ZfF c (15, (Zb c.1 (R.get (R.int u8) g 0)).2) (mAt x2 1)).1, 3)]
 let x7 : Nat := List.length x1
 let x8 := decide (iN (List.length g) ≥ iN x7)
 let x9 := Zf (iN (List.length g)) x7
 let x10 : TY × Bool := (R.get (RY) x1 (iN (List.length g)), true)
 .br (Za s || (!decide (iN (List.length g) > 0) || (!Zf 0 (List.length g) || (!(Zb c.1 (R.get (R.int u8) g 0)).1 == 15 || (!(Zb c.1 (R.get (R.int u8) g 0)).2.2.1 == 6 || mAtC x2 1))))) (.br (Za s || (!decide (iN (List.length g) > 0) || (!Zf 0 (List.length g) || (Zb c.1 (R.get (R.int u8) g 0)).1 == 15))) (.br (Za s || (!decide (iN (List.length g) > 0) || Zf 0 (List.length g))) (.br (Za s) (fin3 g x3) (.br (decide (iN (List.length g) > 0)) (.br ((Zb c.1 (R.get (R.int u8) g 0)).2.2.1 == 6) (fin3 g x5) (.br (x8) (.leaf (some (((0, 0, 0, 0), false)))) (.br (x9) (.leaf (some (x10))) (.leaf none)))) (.br (x8) (.leaf (some (((0, 0, 0, 0), false)))) (.br (x9) (.leaf (some (x10))) (.leaf none))))) (.leaf none)) (.leaf none)) (.leaf none)
theorem ZvJ (a : HL Zi) : Zg (envX Tryz.prog (Z0 15) [] 2047 8) Tryz.f42 Zi ZE a = ZkF a.1 a.2.1 a.2.2 := by kernel_rfl
def ZkB (c : TC) (s : Int) (g : List Int) : RT (Option (TY × Bool)) :=
 let x1 : List TY := [(12, pcOf c, 0, 6)] ++ [(5, u16.wrap ((spOf c) - 1), u8.wrap (shrI u16 (pcOf c) 8), 3)] ++ [(5, u16.wrap ((spOf c) - 2), u8.wrap (pcOf c), 3)]
 let x3 : List TY := [(bif s == 5 then 8 else 1, pcOf c, 0, 4)]
 .br (Za s || (!decide (iN (List.length g) > 0) || (!Zf 0 (List.length g) || (Zb c.1 (R.get (R.int u8) g 0)).1 == 19))) (.br (Za s || (!decide (iN (List.length g) > 0) || Zf 0 (List.length g))) (.br (Za s) (fin3 g x1) (fin3 g x3)) (.leaf none)) (.leaf none)
theorem ZvF (a : HL Zi) : Zg (envX Tryz.prog (Z0 19) [] 2047 8) Tryz.f42 Zi ZE a = ZkB a.1 a.2.1 a.2.2 := by kernel_rfl
def Zkx (c : TC) (s : Int) (g : List Int) : RT (Option (TY × Bool)) :=
 let x1 : List TY := [(12, pcOf c, 0, 6)] ++ [(5, u16.wrap ((spOf c) - 1), u8.wrap (shrI u16 (pcOf c) 8), 3)] ++ [(5, u16.wrap ((spOf c) - 2), u8.wrap (pcOf c), 3)]
 let x3 : List TY := [(bif s == 5 then 8 else 1, pcOf c, 0, 4)]
 .br (Za s || (!decide (iN (List.length g) > 0) || (!Zf 0 (List.length g) || (Zb c.1 (R.get (R.int u8) g 0)).1 == 23))) (.br (Za s || (!decide (iN (List.length g) > 0) || Zf 0 (List.length g))) (.br (Za s) (fin3 g x1) (fin3 g x3)) (.leaf none)) (.leaf none)
theorem ZvB (a : HL Zi) : Zg (envX Tryz.prog (Z0 23) [] 2047 8) Tryz.f42 Zi ZE a = Zkx a.1 a.2.1 a.2.2 := by kernel_rfl
def Zkt (c : TC) (s : Int) (g : List Int) : RT (Option (TY × Bool)) :=
 let x1 := u16.wrap ((spOf c) - 1)
 let x2 := u16.wrap ((spOf c) - 2)
 let x3 : List TY := [(12, pcOf c, 0, 6)] ++ [(5, x1, u8.wrap (shrI u16 (pcOf c) 8), 3)] ++ [(5, x2, u8.wrap (pcOf c), 3)]
 let x5 : List TY := [(bif s == 5 then 8 else 1, pcOf c, 0, 4)]
 let x6 := ZA (c, s == 5, g, x5) (Zb c.1 (R.get (R.int u8) g 0)).2.1
 let x7 : List TY := x5 ++ [(5, x1, u8.wrap (shrI u16 x6 8), 3)] ++ [(5, x2, u8.wrap x6, 3)]
 .br (Za s || (!decide (iN (List.length g) > 0) || (!Zf 0 (List.length g) || (Zb c.1 (R.get (R.int u8) g 0)).1 == 27))) (.br (Za s || (!decide (iN (List.length g) > 0) || Zf 0 (List.length g))) (.br (Za s) (fin3 g x3) (.br (decide (iN (List.length g) > 0)) (fin3 g x7) (fin3 g x5))) (.leaf none)) (.leaf none)
theorem Zvx (a : HL Zi) : Zg (envX Tryz.prog (Z0 27) [] 2047 8) Tryz.f42 Zi ZE a = Zkt a.1 a.2.1 a.2.2 := by kernel_rfl
def Zkp (c : TC) (s : Int) (g : List Int) : RT (Option (TY × Bool)) :=
 let x1 : List TY := [(12, pcOf c, 0, 6)] ++ [(5, u16.wrap ((spOf c) - 1), u8.wrap (shrI u16 (pcOf c) 8), 3)] ++ [(5, u16.wrap ((spOf c) - 2), u8.wrap (pcOf c), 3)]
 let x3 : List TY := [(bif s == 5 then 8 else 1, pcOf c, 0, 4)]
 let x4 : List TY := x3 ++ [(4, spOf c, 0, 3)] ++ [(4, u16.wrap ((spOf c) + 1), 0, 3)]
 .br (Za s || (!decide (iN (List.length g) > 0) || (!Zf 0 (List.length g) || (Zb c.1 (R.get (R.int u8) g 0)).1 == 31))) (.br (Za s || (!decide (iN (List.length g) > 0) || Zf 0 (List.length g))) (.br (Za s) (fin3 g x1) (.br (decide (iN (List.length g) > 0)) (fin3 g x4) (fin3 g x3))) (.leaf none)) (.leaf none)
theorem Zvt (a : HL Zi) : Zg (envX Tryz.prog (Z0 31) [] 2047 8) Tryz.f42 Zi ZE a = Zkp a.1 a.2.1 a.2.2 := by kernel_rfl
def Zkl (c : TC) (s : Int) (g : List Int) : RT (Option (TY × Bool)) :=
 let x1 : List TY := [(12, pcOf c, 0, 6)] ++ [(5, u16.wrap ((spOf c) - 1), u8.wrap (shrI u16 (pcOf c) 8), 3)] ++ [(5, u16.wrap ((spOf c) - 2), u8.wrap (pcOf c), 3)]
 let x3 : List TY := [(bif s == 5 then 8 else 1, pcOf c, 0, 4)]
 .br (Za s || (!decide (iN (List.length g) > 0) || (!Zf 0 (List.length g) || (Zb c.1 (R.get (R.int u8) g 0)).1 == 35))) (.br (Za s || (!decide (iN (List.length g) > 0) || Zf 0 (List.length g))) (.br (Za s) (fin3 g x1) (fin3 g x3)) (.leaf none)) (.leaf none)
theorem Zvp (a : HL Zi) : Zg (envX Tryz.prog (Z0 35) [] 2047 8) Tryz.f42 Zi ZE a = Zkl a.1 a.2.1 a.2.2 := by kernel_rfl
def Zkh (c : TC) (s : Int) (g : List Int) : RT (Option (TY × Bool)) :=
 let x1 : List TY := [(12, pcOf c, 0, 6)] ++ [(5, u16.wrap ((spOf c) - 1), u8.wrap (shrI u16 (pcOf c) 8), 3)] ++ [(5, u16.wrap ((spOf c) - 2), u8.wrap (pcOf c), 3)]
 let x3 : List TY := [(bif s == 5 then 8 else 1, pcOf c, 0, 4)]
 .br (Za s || (!decide (iN (List.length g) > 0) || (!Zf 0 (List.length g) || (Zb c.1 (R.get (R.int u8) g 0)).1 == 39))) (.br (Za s || (!decide (iN (List.length g) > 0) || Zf 0 (List.length g))) (.br (Za s) (fin3 g x1) (fin3 g x3)) (.leaf none)) (.leaf none)
theorem Zvl (a : HL Zi) : Zg (envX Tryz.prog (Z0 39) [] 2047 8) Tryz.f42 Zi ZE a = Zkh a.1 a.2.1 a.2.2 := by kernel_rfl
def Zkd (c : TC) (s : Int) (g : List Int) : RT (Option (TY × Bool)) :=
 let x1 : List TY := [(12, pcOf c, 0, 6)] ++ [(5, u16.wrap ((spOf c) - 1), u8.wrap (shrI u16 (pcOf c) 8), 3)] ++ [(5, u16.wrap ((spOf c) - 2), u8.wrap (pcOf c), 3)]
 let x3 : List TY := [(bif s == 5 then 8 else 1, pcOf c, 0, 4)]
 let x4 : QT8 := ((pcOf c), 0, 3)
 let x5 : List TY := [(11, x4)]
 let x6 : List TY := x3 ++ [(9, x4)] ++ x5
 let x8 : List TY := x3 ++ [(2, u16.wrap ((pcOf c) + u16.wrap 1), 0, 3)] ++ x5
 .br (Za s || (!decide (iN (List.length g) > 0) || (!Zf 0 (List.length g) || (Zb c.1 (R.get (R.int u8) g 0)).1 == 43))) (.br (Za s || (!decide (iN (List.length g) > 0) || Zf 0 (List.length g))) (.br (Za s) (fin3 g x1) (.br (decide (iN (List.length g) > 0)) (.br (s == 5) (fin3 g x6) (fin3 g x8)) (fin3 g x3))) (.leaf none)) (.leaf none)
theorem Zvh (a : HL Zi) : Zg (envX Tryz.prog (Z0 43) [] 2047 8) Tryz.f42 Zi ZE a = Zkd a.1 a.2.1 a.2.2 := by kernel_rfl
def Zj9 (c : TC) (s : Int) (g : List Int) : RT (Option (TY × Bool)) :=
 let x1 : List TY := [(12, pcOf c, 0, 6)] ++ [(5, u16.wrap ((spOf c) - 1), u8.wrap (shrI u16 (pcOf c) 8), 3)] ++ [(5, u16.wrap ((spOf c) - 2), u8.wrap (pcOf c), 3)]
 let x3 : List TY := [(bif s == 5 then 8 else 1, pcOf c, 0, 4)]
 let x4 : List TY := x3 ++ [(2, Zac c.2.1 1, 0, 3)] ++ [(2, u16.wrap (Zac c.2.1 1 + 1), 0, 3)]
 .br (Za s || (!decide (iN (List.length g) > 0) || (!Zf 0 (List.length g) || (Zb c.1 (R.get (R.int u8) g 0)).1 == 47))) (.br (Za s || (!decide (iN (List.length g) > 0) || Zf 0 (List.length g))) (.br (Za s) (fin3 g x1) (.br (decide (iN (List.length g) > 0)) (fin3 g x4) (fin3 g x3))) (.leaf none)) (.leaf none)
theorem Zvd (a : HL Zi) : Zg (envX Tryz.prog (Z0 47) [] 2047 8) Tryz.f42 Zi ZE a = Zj9 a.1 a.2.1 a.2.2 := by kernel_rfl
def Zqs (c : TC) (s : Int) (g : List Int) : RT (Option (TY × Bool)) :=
 let x1 : QT1 := (c, s == 5, g, (0, 0, 0, 0, 0, 0, 0, 0), [])
 let x2 := qAtC x1 0
 let x3 := Zb c.1 (qAt x1 0)
 let x4 := !x2 || x3.1 == 3
 let x5 := x3.2
 let x6 := x5.2.1 == 6
 let x7 : QT5 := (3, x5)
 let x8 : QT8 := ((pcOf c), 0, 4)
 let x9 : List TY := [] ++ [(1, x8)]
 let x10 : List TY := bif s == 5 then x9 ++ [(9, pcOf c, 0, 3)] else x9 ++ [(2, u16.wrap ((pcOf c) + u16.wrap 1), 0, 3)]
 let x11 : QT1 := (c, s == 5, g, x7, x10)
 let x12 : List TY := [] ++ [(12, pcOf c, 0, 6)] ++ [(5, u16.wrap ((spOf c) - 1), u8.wrap (shrI u16 (pcOf c) 8), 3)] ++ [(5, u16.wrap ((spOf c) - 2), u8.wrap (pcOf c), 3)]
 let x14 : List TY := [] ++ [(bif s == 5 then 8 else 1, x8)]
 let x16 : List TY := bif x6 then x10 ++ [(3, Zdn (c, s == 5, g, x7, x9) 2, qAt x11 1, 3)] else x10
 .br (!x4 || x2) (.br (x4) (.br (Ze s || (iN (List.length g) == 0 || (!x6 || qAtC x11 1))) (.br (Ze s) (fin3 g x12) (.br (iN (List.length g) == 0) (fin3 g x14) (fin3 g x16))) (.leaf none)) (.leaf none)) (.leaf none)
theorem ZCv (a : HL Zj) : Zg (envX Tryz.prog (Z2 3) [] 1125900980585471 8) Tryz.f113 Zj ZF a = Zqs a.1 a.2.1 a.2.2 := by kernel_rfl
def Zqo (c : TC) (s : Int) (g : List Int) : RT (Option (TY × Bool)) :=
 let x1 : QT1 := (c, s == 5, g, (0, 0, 0, 0, 0, 0, 0, 0), [])
 let x2 := qAtC x1 0
 let x3 := Zb c.1 (qAt x1 0)
 let x4 := !x2 || x3.1 == 7
 let x5 : QT8 := ((pcOf c), 0, 4)
 let x6 : List TY := [] ++ [(1, x5)]
 let x7 : List TY := [(9, pcOf c, 0, 3)]
 let x8 : List TY := bif s == 5 then x6 ++ x7 else x6 ++ [(2, u16.wrap ((pcOf c) + u16.wrap 1), 0, 3)]
 let x9 : List TY := bif s == 5 then x8 ++ x7 else x8 ++ [(2, u16.wrap ((pcOf c) + u16.wrap (i64.wrap (1 + 1))), 0, 3)]
 let x10 : QT1 := (c, s == 5, g, (7, x3.2), x9)
 let x11 : List TY := [] ++ [(12, pcOf c, 0, 6)] ++ [(5, u16.wrap ((spOf c) - 1), u8.wrap (shrI u16 (pcOf c) 8), 3)] ++ [(5, u16.wrap ((spOf c) - 2), u8.wrap (pcOf c), 3)]
 let x13 : List TY := [] ++ [(bif s == 5 then 8 else 1, x5)]
 let x15 := Ze9 x10 1
 let x16 : List TY := x9 ++ [(2, x15, 0, 3)] ++ [(2, u16.wrap (x15 + 1), 0, 3)]
 .br (!x4 || x2) (.br (x4) (.br (Ze s || (iN (List.length g) == 0 || Zch x10 1)) (.br (Ze s) (fin3 g x11) (.br (iN (List.length g) == 0) (fin3 g x13) (fin3 g x16))) (.leaf none)) (.leaf none)) (.leaf none)
theorem ZCr (a : HL Zj) : Zg (envX Tryz.prog (Z2 7) [] 1125900980585471 8) Tryz.f113 Zj ZF a = Zqo a.1 a.2.1 a.2.2 := by kernel_rfl
def ZlN (c : TC) (s : Int) (g : List Int) : RT (Option (TY × Bool)) :=
 let x1 : QT1 := (c, s == 5, g, (0, 0, 0, 0, 0, 0, 0, 0), [])
 let x2 := qAtC x1 0
 let x3 := !x2 || (Zb c.1 (qAt x1 0)).1 == 11
 let x4 : List TY := [] ++ [(12, pcOf c, 0, 6)] ++ [(5, u16.wrap ((spOf c) - 1), u8.wrap (shrI u16 (pcOf c) 8), 3)] ++ [(5, u16.wrap ((spOf c) - 2), u8.wrap (pcOf c), 3)]
 let x6 : QT8 := ((pcOf c), 0, 4)
 let x7 : List TY := [] ++ [(bif s == 5 then 8 else 1, x6)]
 let x9 : List TY := [] ++ [(1, x6)]
 .br (!x3 || x2) (.br (x3) (.br (Ze s) (fin3 g x4) (.br (iN (List.length g) == 0) (fin3 g x7) (fin3 g x9))) (.leaf none)) (.leaf none)
theorem Zxb (a : HL Zj) : Zg (envX Tryz.prog (Z2 11) [] 1125900980585471 8) Tryz.f113 Zj ZF a = ZlN a.1 a.2.1 a.2.2 := by kernel_rfl
def ZlJ (c : TC) (s : Int) (g : List Int) : RT (Option (TY × Bool)) :=
 let x1 : QT1 := (c, s == 5, g, (0, 0, 0, 0, 0, 0, 0, 0), [])
 let x2 := qAtC x1 0
 let x3 := Zb c.1 (qAt x1 0)
 let x4 := !x2 || x3.1 == 15
 let x5 := x3.2
 let x6 := x5.2.1 == 6
 let x7 : QT5 := (15, x5)
 let x8 : QT8 := ((pcOf c), 0, 4)
 let x9 : List TY := [] ++ [(1, x8)]
 let x10 := Zdn (c, s == 5, g, x7, x9) 2
 let x11 : List TY := x9 ++ [(2, x10, 0, 3)]
 let x12 : QT1 := (c, s == 5, g, x7, x11)
 let x13 : List TY := [] ++ [(12, pcOf c, 0, 6)] ++ [(5, u16.wrap ((spOf c) - 1), u8.wrap (shrI u16 (pcOf c) 8), 3)] ++ [(5, u16.wrap ((spOf c) - 2), u8.wrap (pcOf c), 3)]
 let x15 : List TY := [] ++ [(bif s == 5 then 8 else 1, x8)]
 let x17 : List TY := bif x6 then x11 ++ [(3, x10, ZgV x12, 3)] else x9
 .br (!x4 || x2) (.br (x4) (.br (Ze s || (iN (List.length g) == 0 || (!x6 || Zfa x12))) (.br (Ze s) (fin3 g x13) (.br (iN (List.length g) == 0) (fin3 g x15) (fin3 g x17))) (.leaf none)) (.leaf none)) (.leaf none)
theorem Zw7 (a : HL Zj) : Zg (envX Tryz.prog (Z2 15) [] 1125900980585471 8) Tryz.f113 Zj ZF a = ZlJ a.1 a.2.1 a.2.2 := by kernel_rfl
def ZlF (c : TC) (s : Int) (g : List Int) : RT (Option (TY × Bool)) :=
 let x1 : QT1 := (c, s == 5, g, (0, 0, 0, 0, 0, 0, 0, 0), [])
 let x2 := qAtC x1 0
 let x3 := !x2 || (Zb c.1 (qAt x1 0)).1 == 19
 let x4 : List TY := [] ++ [(12, pcOf c, 0, 6)] ++ [(5, u16.wrap ((spOf c) - 1), u8.wrap (shrI u16 (pcOf c) 8), 3)] ++ [(5, u16.wrap ((spOf c) - 2), u8.wrap (pcOf c), 3)]
 let x6 : QT8 := ((pcOf c), 0, 4)
 let x7 : List TY := [] ++ [(bif s == 5 then 8 else 1, x6)]
 let x9 : List TY := [] ++ [(1, x6)]
 .br (!x3 || x2) (.br (x3) (.br (Ze s) (fin3 g x4) (.br (iN (List.length g) == 0) (fin3 g x7) (fin3 g x9))) (.leaf none)) (.leaf none)
theorem Zw3 (a : HL Zj) : Zg (envX Tryz.prog (Z2 19) [] 1125900980585471 8) Tryz.f113 Zj ZF a = ZlF a.1 a.2.1 a.2.2 := by kernel_rfl
def ZlB (c : TC) (s : Int) (g : List Int) : RT (Option (TY × Bool)) :=
 let x1 : QT1 := (c, s == 5, g, (0, 0, 0, 0, 0, 0, 0, 0), [])
 let x2 := qAtC x1 0
 let x3 := !x2 || (Zb c.1 (qAt x1 0)).1 == 23
 let x4 : List TY := [] ++ [(12, pcOf c, 0, 6)] ++ [(5, u16.wrap ((spOf c) - 1), u8.wrap (shrI u16 (pcOf c) 8), 3)] ++ [(5, u16.wrap ((spOf c) - 2), u8.wrap (pcOf c), 3)]
 let x6 : QT8 := ((pcOf c), 0, 4)
 let x7 : List TY := [] ++ [(bif s == 5 then 8 else 1, x6)]
 let x9 : List TY := [] ++ [(1, x6)]
 .br (!x3 || x2) (.br (x3) (.br (Ze s) (fin3 g x4) (.br (iN (List.length g) == 0) (fin3 g x7) (fin3 g x9))) (.leaf none)) (.leaf none)
theorem ZwZ (a : HL Zj) : Zg (envX Tryz.prog (Z2 23) [] 1125900980585471 8) Tryz.f113 Zj ZF a = ZlB a.1 a.2.1 a.2.2 := by kernel_rfl
def Zlx (c : TC) (s : Int) (g : List Int) : RT (Option (TY × Bool)) :=
 let x1 : QT1 := (c, s == 5, g, (0, 0, 0, 0, 0, 0, 0, 0), [])
 let x2 := qAtC x1 0
 let x3 := Zb c.1 (qAt x1 0)
 let x4 := !x2 || x3.1 == 27
 let x5 := u16.wrap ((spOf c) - 1)
 let x6 := u16.wrap ((spOf c) - 2)
 let x7 : List TY := [] ++ [(12, pcOf c, 0, 6)] ++ [(5, x5, u8.wrap (shrI u16 (pcOf c) 8), 3)] ++ [(5, x6, u8.wrap (pcOf c), 3)]
 let x9 : QT8 := ((pcOf c), 0, 4)
 let x10 : List TY := [] ++ [(bif s == 5 then 8 else 1, x9)]
 let x12 : List TY := [] ++ [(1, x9)]
 let x13 := ZD (c, s == 5, g, (27, x3.2), x12)
 let x14 : List TY := x12 ++ [(5, x5, u8.wrap (shrI u16 x13 8), 3)] ++ [(5, x6, u8.wrap x13, 3)]
 .br (!x4 || x2) (.br (x4) (.br (Ze s) (fin3 g x7) (.br (iN (List.length g) == 0) (fin3 g x10) (fin3 g x14))) (.leaf none)) (.leaf none)
theorem ZwV (a : HL Zj) : Zg (envX Tryz.prog (Z2 27) [] 1125900980585471 8) Tryz.f113 Zj ZF a = Zlx a.1 a.2.1 a.2.2 := by kernel_rfl
def Zlt (c : TC) (s : Int) (g : List Int) : RT (Option (TY × Bool)) :=
 let x1 : QT1 := (c, s == 5, g, (0, 0, 0, 0, 0, 0, 0, 0), [])
 let x2 := qAtC x1 0
 let x3 := !x2 || (Zb c.1 (qAt x1 0)).1 == 31
 let x4 : List TY := [] ++ [(12, pcOf c, 0, 6)] ++ [(5, u16.wrap ((spOf c) - 1), u8.wrap (shrI u16 (pcOf c) 8), 3)] ++ [(5, u16.wrap ((spOf c) - 2), u8.wrap (pcOf c), 3)]
 let x6 : QT8 := ((pcOf c), 0, 4)
 let x7 : List TY := [] ++ [(bif s == 5 then 8 else 1, x6)]
 let x9 : List TY := [] ++ [(1, x6)] ++ [(4, spOf c, 0, 3)] ++ [(4, u16.wrap ((spOf c) + 1), 0, 3)]
 .br (!x3 || x2) (.br (x3) (.br (Ze s) (fin3 g x4) (.br (iN (List.length g) == 0) (fin3 g x7) (fin3 g x9))) (.leaf none)) (.leaf none)
theorem ZwR (a : HL Zj) : Zg (envX Tryz.prog (Z2 31) [] 1125900980585471 8) Tryz.f113 Zj ZF a = Zlt a.1 a.2.1 a.2.2 := by kernel_rfl
def Zlp (c : TC) (s : Int) (g : List Int) : RT (Option (TY × Bool)) :=
 let x1 : QT1 := (c, s == 5, g, (0, 0, 0, 0, 0, 0, 0, 0), [])
 let x2 := qAtC x1 0
 let x3 := !x2 || (Zb c.1 (qAt x1 0)).1 == 35
 let x4 : List TY := [] ++ [(12, pcOf c, 0, 6)] ++ [(5, u16.wrap ((spOf c) - 1), u8.wrap (shrI u16 (pcOf c) 8), 3)] ++ [(5, u16.wrap ((spOf c) - 2), u8.wrap (pcOf c), 3)]
 let x6 : QT8 := ((pcOf c), 0, 4)
 let x7 : List TY := [] ++ [(bif s == 5 then 8 else 1, x6)]
 let x9 : List TY := [] ++ [(1, x6)]
 .br (!x3 || x2) (.br (x3) (.br (Ze s) (fin3 g x4) (.br (iN (List.length g) == 0) (fin3 g x7) (fin3 g x9))) (.leaf none)) (.leaf none)
theorem ZwN (a : HL Zj) : Zg (envX Tryz.prog (Z2 35) [] 1125900980585471 8) Tryz.f113 Zj ZF a = Zlp a.1 a.2.1 a.2.2 := by kernel_rfl
def Zll (c : TC) (s : Int) (g : List Int) : RT (Option (TY × Bool)) :=
 let x1 : QT1 := (c, s == 5, g, (0, 0, 0, 0, 0, 0, 0, 0), [])
 let x2 := qAtC x1 0
 let x3 := !x2 || (Zb c.1 (qAt x1 0)).1 == 39
 let x4 : List TY := [] ++ [(12, pcOf c, 0, 6)] ++ [(5, u16.wrap ((spOf c) - 1), u8.wrap (shrI u16 (pcOf c) 8), 3)] ++ [(5, u16.wrap ((spOf c) - 2), u8.wrap (pcOf c), 3)]
 let x6 : QT8 := ((pcOf c), 0, 4)
 let x7 : List TY := [] ++ [(bif s == 5 then 8 else 1, x6)]
 let x9 : List TY := [] ++ [(1, x6)]
 .br (!x3 || x2) (.br (x3) (.br (Ze s) (fin3 g x4) (.br (iN (List.length g) == 0) (fin3 g x7) (fin3 g x9))) (.leaf none)) (.leaf none)
theorem ZwJ (a : HL Zj) : Zg (envX Tryz.prog (Z2 39) [] 1125900980585471 8) Tryz.f113 Zj ZF a = Zll a.1 a.2.1 a.2.2 := by kernel_rfl
def Zlh (c : TC) (s : Int) (g : List Int) : RT (Option (TY × Bool)) :=
 let x1 : QT1 := (c, s == 5, g, (0, 0, 0, 0, 0, 0, 0, 0), [])
 let x2 := qAtC x1 0
 let x3 := !x2 || (Zb c.1 (qAt x1 0)).1 == 43
 let x4 : List TY := [] ++ [(12, pcOf c, 0, 6)] ++ [(5, u16.wrap ((spOf c) - 1), u8.wrap (shrI u16 (pcOf c) 8), 3)] ++ [(5, u16.wrap ((spOf c) - 2), u8.wrap (pcOf c), 3)]
 let x6 : QT8 := ((pcOf c), 0, 4)
 let x7 : List TY := [] ++ [(bif s == 5 then 8 else 1, x6)]
 let x9 : List TY := [] ++ [(1, x6)]
 let x10 : QT8 := ((pcOf c), 0, 3)
 let x11 : List TY := (bif s == 5 then x9 ++ [(9, x10)] else x9 ++ [(2, u16.wrap ((pcOf c) + u16.wrap 1), 0, 3)]) ++ [(11, x10)]
 .br (!x3 || x2) (.br (x3) (.br (Ze s) (fin3 g x4) (.br (iN (List.length g) == 0) (fin3 g x7) (fin3 g x11))) (.leaf none)) (.leaf none)
theorem ZwF (a : HL Zj) : Zg (envX Tryz.prog (Z2 43) [] 1125900980585471 8) Tryz.f113 Zj ZF a = Zlh a.1 a.2.1 a.2.2 := by kernel_rfl
def Zld (c : TC) (s : Int) (g : List Int) : RT (Option (TY × Bool)) :=
 let x1 : QT1 := (c, s == 5, g, (0, 0, 0, 0, 0, 0, 0, 0), [])
 let x2 := qAtC x1 0
 let x3 := Zb c.1 (qAt x1 0)
 let x4 := !x2 || x3.1 == 47
 let x5 : List TY := [] ++ [(12, pcOf c, 0, 6)] ++ [(5, u16.wrap ((spOf c) - 1), u8.wrap (shrI u16 (pcOf c) 8), 3)] ++ [(5, u16.wrap ((spOf c) - 2), u8.wrap (pcOf c), 3)]
 let x7 : QT8 := ((pcOf c), 0, 4)
 let x8 : List TY := [] ++ [(bif s == 5 then 8 else 1, x7)]
 let x10 : List TY := [] ++ [(1, x7)]
 let x11 := Zdn (c, s == 5, g, (47, x3.2), x10) 1
 let x12 : List TY := x10 ++ [(2, x11, 0, 3)] ++ [(2, u16.wrap (x11 + 1), 0, 3)]
 .br (!x4 || x2) (.br (x4) (.br (Ze s) (fin3 g x5) (.br (iN (List.length g) == 0) (fin3 g x8) (fin3 g x12))) (.leaf none)) (.leaf none)
theorem ZwB (a : HL Zj) : Zg (envX Tryz.prog (Z2 47) [] 1125900980585471 8) Tryz.f113 Zj ZF a = Zld a.1 a.2.1 a.2.2 := by kernel_rfl
def Zo8 (c : TC) (s : Int) (g : List Int) : RT (Option (TY × Bool)) :=
 let x1 : List TY := [(12, pcOf c, 0, 6)] ++ [(5, u16.wrap ((spOf c) - 1), u8.wrap (shrI u16 (pcOf c) 8), 3)] ++ [(5, u16.wrap ((spOf c) - 2), u8.wrap (pcOf c), 3)]
 let x3 : List TY := [(bif s == 5 then 8 else 1, pcOf c, 0, 4)]
 let x4 : List TY := [(9, pcOf c, 0, 3)]
 let x5 : List TY := x3 ++ x4
 let x6 : List TY := [(2, u16.wrap ((pcOf c) + u16.wrap (i64.wrap (1 + 1))), 0, 3)]
 let x7 : List TY := bif s == 5 then x5 ++ x4 else x5 ++ x6
 let x9 : List TY := x3 ++ [(2, u16.wrap ((pcOf c) + u16.wrap 1), 0, 3)]
 let x10 : List TY := bif s == 5 then x9 ++ x4 else x9 ++ x6
 .br (Za s || (!decide (iN (List.length g) > 0) || (!Zf 0 (List.length g) || (Zb c.1 (R.get (R.int u8) g 0)).1 == 4))) (.br (Za s || (!decide (iN (List.length g) > 0) || Zf 0 (List.length g))) (.br (Za s) (fin3 g x1) (.br (decide (iN (List.length g) > 0)) (.br (s == 5) (fin3 g x7) (fin3 g x10)) (fin3 g x3))) (.leaf none)) (.leaf none)
theorem ZBo (a : HL Zi) : Zg (envX Tryz.prog (Z0 4) [] 2047 8) Tryz.f42 Zi ZE a = Zo8 a.1 a.2.1 a.2.2 := by kernel_rfl
def Zo4 (c : TC) (s : Int) (g : List Int) : RT (Option (TY × Bool)) :=
 let x1 : List TY := [(bif s == 5 then 8 else 1, pcOf c, 0, 4)]
 let x2 : List TY := [(9, pcOf c, 0, 3)]
 let x3 : List TY := x1 ++ x2
 let x4 : List TY := [(2, u16.wrap ((pcOf c) + u16.wrap (i64.wrap (1 + 1))), 0, 3)]
 let x5 : List TY := bif s == 5 then x3 ++ x2 else x3 ++ x4
 let x6 : QT3 := (c, s == 5, g, x5)
 let x7 := ZbO x6 1
 let x8 : List TY := x5 ++ [(3, ZdP x6 1, c.2.1.2.2.2.2.2.2.1, 3)]
 let x9 : QT3 := (c, s == 5, g, x8)
 let x10 := !s == 5 || (!x7 || ZbO x9 1)
 let x11 := !x10
 let x12 := !s == 5 || x7
 let x13 := !x12
 let x14 : List TY := x1 ++ [(2, u16.wrap ((pcOf c) + u16.wrap 1), 0, 3)]
 let x15 : List TY := bif s == 5 then x14 ++ x2 else x14 ++ x4
 let x16 : QT3 := (c, s == 5, g, x15)
 let x17 := ZbO x16 1
 let x18 : List TY := x15 ++ [(3, ZdP x16 1, c.2.1.2.2.2.2.2.2.1, 3)]
 let x19 : QT3 := (c, s == 5, g, x18)
 let x20 := s == 5 || (!x17 || ZbO x19 1)
 let x21 : List TY := [(12, pcOf c, 0, 6)] ++ [(5, u16.wrap ((spOf c) - 1), u8.wrap (shrI u16 (pcOf c) 8), 3)] ++ [(5, u16.wrap ((spOf c) - 2), u8.wrap (pcOf c), 3)]
 let x23 : List TY := x8 ++ [(3, u16.wrap (ZdP x9 1 + 1), c.2.1.2.2.2.2.2.1, 3)]
 let x25 : List TY := x18 ++ [(3, u16.wrap (ZdP x19 1 + 1), c.2.1.2.2.2.2.2.1, 3)]
 .br (Za s || (!decide (iN (List.length g) > 0) || (!Zf 0 (List.length g) || (!(Zb c.1 (R.get (R.int u8) g 0)).1 == 8 || (x11 || (x13 || (!x20 || (s == 5 || x17)))))))) (.br (Za s || (!decide (iN (List.length g) > 0) || (!Zf 0 (List.length g) || (!(Zb c.1 (R.get (R.int u8) g 0)).1 == 8 || (x11 || (x13 || x20)))))) (.br (Za s || (!decide (iN (List.length g) > 0) || (!Zf 0 (List.length g) || (!(Zb c.1 (R.get (R.int u8) g 0)).1 == 8 || (x11 || x12))))) (.br (Za s || (!decide (iN (List.length g) > 0) || (!Zf 0 (List.length g) || (!(Zb c.1 (R.get (R.int u8) g 0)).1 == 8 || x10)))) (.br (Za s || (!decide (iN (List.length g) > 0) || (!Zf 0 (List.length g) || (Zb c.1 (R.get (R.int u8) g 0)).1 == 8))) (.br (Za s || (!decide (iN (List.length g) > 0) || Zf 0 (List.length g))) (.br (Za s) (fin3 g x21) (.br (decide (iN (List.length g) > 0)) (.br (s == 5) (fin3 g x23) (fin3 g x25)) (fin3 g x1))) (.leaf none)) (.leaf none)) (.leaf none)) (.leaf none)) (.leaf none)) (.leaf none)
theorem ZBk (a : HL Zi) : Zg (envX Tryz.prog (Z0 8) [] 2047 8) Tryz.f42 Zi ZE a = Zo4 a.1 a.2.1 a.2.2 := by kernel_rfl
def ZkI (c : TC) (s : Int) (g : List Int) : RT (Option (TY × Bool)) :=
 let x1 : List TY := [(12, pcOf c, 0, 6)] ++ [(5, u16.wrap ((spOf c) - 1), u8.wrap (shrI u16 (pcOf c) 8), 3)] ++ [(5, u16.wrap ((spOf c) - 2), u8.wrap (pcOf c), 3)]
 let x3 : List TY := [(bif s == 5 then 8 else 1, pcOf c, 0, 4)]
 let x4 : List TY := x3 ++ [(2, Zac c.2.1 2, 0, 3)]
 let x6 : Nat := List.length x3
 let x7 := decide (iN (List.length g) ≥ iN x6)
 let x8 := Zf (iN (List.length g)) x6
 let x9 : TY × Bool := (R.get (RY) x3 (iN (List.length g)), true)
 .br (Za s || (!decide (iN (List.length g) > 0) || (!Zf 0 (List.length g) || (Zb c.1 (R.get (R.int u8) g 0)).1 == 12))) (.br (Za s || (!decide (iN (List.length g) > 0) || Zf 0 (List.length g))) (.br (Za s) (fin3 g x1) (.br (decide (iN (List.length g) > 0)) (.br ((Zb c.1 (R.get (R.int u8) g 0)).2.2.2.1 == 6) (fin3 g x4) (.br (x7) (.leaf (some (((0, 0, 0, 0), false)))) (.br (x8) (.leaf (some (x9))) (.leaf none)))) (.br (x7) (.leaf (some (((0, 0, 0, 0), false)))) (.br (x8) (.leaf (some (x9))) (.leaf none))))) (.leaf none)) (.leaf none)
theorem ZvM (a : HL Zi) : Zg (envX Tryz.prog (Z0 12) [] 2047 8) Tryz.f42 Zi ZE a = ZkI a.1 a.2.1 a.2.2 := by kernel_rfl
def ZkE (c : TC) (s : Int) (g : List Int) : RT (Option (TY × Bool)) :=
 let x1 : List TY := [(12, pcOf c, 0, 6)] ++ [(5, u16.wrap ((spOf c) - 1), u8.wrap (shrI u16 (pcOf c) 8), 3)] ++ [(5, u16.wrap ((spOf c) - 2), u8.wrap (pcOf c), 3)]
 let x3 : List TY := [(bif s == 5 then 8 else 1, pcOf c, 0, 4)]
 .br (Za s || (!decide (iN (List.length g) > 0) || (!Zf 0 (List.length g) || (Zb c.1 (R.get (R.int u8) g 0)).1 == 16))) (.br (Za s || (!decide (iN (List.length g) > 0) || Zf 0 (List.length g))) (.br (Za s) (fin3 g x1) (fin3 g x3)) (.leaf none)) (.leaf none)
theorem ZvI (a : HL Zi) : Zg (envX Tryz.prog (Z0 16) [] 2047 8) Tryz.f42 Zi ZE a = ZkE a.1 a.2.1 a.2.2 := by kernel_rfl
def ZkA (c : TC) (s : Int) (g : List Int) : RT (Option (TY × Bool)) :=
 let x1 : List TY := [(12, pcOf c, 0, 6)] ++ [(5, u16.wrap ((spOf c) - 1), u8.wrap (shrI u16 (pcOf c) 8), 3)] ++ [(5, u16.wrap ((spOf c) - 2), u8.wrap (pcOf c), 3)]
 let x3 : List TY := [(bif s == 5 then 8 else 1, pcOf c, 0, 4)]
 .br (Za s || (!decide (iN (List.length g) > 0) || (!Zf 0 (List.length g) || (Zb c.1 (R.get (R.int u8) g 0)).1 == 20))) (.br (Za s || (!decide (iN (List.length g) > 0) || Zf 0 (List.length g))) (.br (Za s) (fin3 g x1) (fin3 g x3)) (.leaf none)) (.leaf none)
theorem ZvE (a : HL Zi) : Zg (envX Tryz.prog (Z0 20) [] 2047 8) Tryz.f42 Zi ZE a = ZkA a.1 a.2.1 a.2.2 := by kernel_rfl
def Zkw (c : TC) (s : Int) (g : List Int) : RT (Option (TY × Bool)) :=
 let x1 : List TY := [(12, pcOf c, 0, 6)] ++ [(5, u16.wrap ((spOf c) - 1), u8.wrap (shrI u16 (pcOf c) 8), 3)] ++ [(5, u16.wrap ((spOf c) - 2), u8.wrap (pcOf c), 3)]
 let x3 : List TY := [(bif s == 5 then 8 else 1, pcOf c, 0, 4)]
 let x4 : List TY := [(9, pcOf c, 0, 3)]
 let x5 : List TY := x3 ++ x4
 let x7 : List TY := x3 ++ [(2, u16.wrap ((pcOf c) + u16.wrap 1), 0, 3)]
 let x9 : List TY := [(2, u16.wrap ((pcOf c) + u16.wrap (i64.wrap (1 + 1))), 0, 3)]
 let x10 : List TY := bif s == 5 then x5 ++ x4 else x5 ++ x9
 let x12 : List TY := bif s == 5 then x7 ++ x4 else x7 ++ x9
 .br (Za s || (!decide (iN (List.length g) > 0) || (!Zf 0 (List.length g) || (Zb c.1 (R.get (R.int u8) g 0)).1 == 24))) (.br (Za s || (!decide (iN (List.length g) > 0) || Zf 0 (List.length g))) (.br (Za s) (fin3 g x1) (.br (decide (iN (List.length g) > 0)) (.br (rOn c.1 && !ZdJ (c, s == 5, g, x3) (24, (Zb c.1 (R.get (R.int u8) g 0)).2)) (.br (s == 5) (fin3 g x5) (fin3 g x7)) (.br (s == 5) (fin3 g x10) (fin3 g x12))) (fin3 g x3))) (.leaf none)) (.leaf none)
theorem ZvA (a : HL Zi) : Zg (envX Tryz.prog (Z0 24) [] 2047 8) Tryz.f42 Zi ZE a = Zkw a.1 a.2.1 a.2.2 := by kernel_rfl
def Zks (c : TC) (s : Int) (g : List Int) : RT (Option (TY × Bool)) :=
 let x1 : List TY := [(12, pcOf c, 0, 6)] ++ [(5, u16.wrap ((spOf c) - 1), u8.wrap (shrI u16 (pcOf c) 8), 3)] ++ [(5, u16.wrap ((spOf c) - 2), u8.wrap (pcOf c), 3)]
 let x3 : List TY := [(bif s == 5 then 8 else 1, pcOf c, 0, 4)]
 .br (Za s || (!decide (iN (List.length g) > 0) || (!Zf 0 (List.length g) || (Zb c.1 (R.get (R.int u8) g 0)).1 == 28))) (.br (Za s || (!decide (iN (List.length g) > 0) || Zf 0 (List.length g))) (.br (Za s) (fin3 g x1) (fin3 g x3)) (.leaf none)) (.leaf none)
theorem Zvw (a : HL Zi) : Zg (envX Tryz.prog (Z0 28) [] 2047 8) Tryz.f42 Zi ZE a = Zks a.1 a.2.1 a.2.2 := by kernel_rfl
def Zko (c : TC) (s : Int) (g : List Int) : RT (Option (TY × Bool)) :=
 let x1 : List TY := [(12, pcOf c, 0, 6)] ++ [(5, u16.wrap ((spOf c) - 1), u8.wrap (shrI u16 (pcOf c) 8), 3)] ++ [(5, u16.wrap ((spOf c) - 2), u8.wrap (pcOf c), 3)]
 let x3 : List TY := [(bif s == 5 then 8 else 1, pcOf c, 0, 4)]
 let x4 := u16.wrap ((spOf c) + 1)
 let x5 : List TY := x3 ++ [(4, spOf c, 0, 3)] ++ [(4, x4, 0, 3)] ++ [(5, x4, c.2.1.2.2.2.2.2.1, 3)] ++ [(5, spOf c, c.2.1.2.2.2.2.2.2.1, 3)]
 let x6 := i64.wrap (iN (List.length x5) - 1)
 let x7 : Int × Int × Int × Int := R.get (RY) x5 x6
 let x8 := x7.2
 let x9 : List TY := bif !rOn c.1 then setI x5 x6 (x7.1, x8.1, x8.2.1, 5) else x5
 .br (Za s || (!decide (iN (List.length g) > 0) || (!Zf 0 (List.length g) || (Zb c.1 (R.get (R.int u8) g 0)).1 == 32))) (.br (Za s || (!decide (iN (List.length g) > 0) || Zf 0 (List.length g))) (.br (Za s) (fin3 g x1) (.br (decide (iN (List.length g) > 0)) (fin3 g x9) (fin3 g x3))) (.leaf none)) (.leaf none)
theorem Zvs (a : HL Zi) : Zg (envX Tryz.prog (Z0 32) [] 2047 8) Tryz.f42 Zi ZE a = Zko a.1 a.2.1 a.2.2 := by kernel_rfl
def Zkk (c : TC) (s : Int) (g : List Int) : RT (Option (TY × Bool)) :=
 let x1 : List TY := [(12, pcOf c, 0, 6)] ++ [(5, u16.wrap ((spOf c) - 1), u8.wrap (shrI u16 (pcOf c) 8), 3)] ++ [(5, u16.wrap ((spOf c) - 2), u8.wrap (pcOf c), 3)]
 let x3 : List TY := [(bif s == 5 then 8 else 1, pcOf c, 0, 4)]
 .br (Za s || (!decide (iN (List.length g) > 0) || (!Zf 0 (List.length g) || (Zb c.1 (R.get (R.int u8) g 0)).1 == 36))) (.br (Za s || (!decide (iN (List.length g) > 0) || Zf 0 (List.length g))) (.br (Za s) (fin3 g x1) (fin3 g x3)) (.leaf none)) (.leaf none)
theorem Zvo (a : HL Zi) : Zg (envX Tryz.prog (Z0 36) [] 2047 8) Tryz.f42 Zi ZE a = Zkk a.1 a.2.1 a.2.2 := by kernel_rfl
def Zkg (c : TC) (s : Int) (g : List Int) : RT (Option (TY × Bool)) :=
 let x1 : List TY := [(12, pcOf c, 0, 6)] ++ [(5, u16.wrap ((spOf c) - 1), u8.wrap (shrI u16 (pcOf c) 8), 3)] ++ [(5, u16.wrap ((spOf c) - 2), u8.wrap (pcOf c), 3)]
 let x3 : List TY := [(bif s == 5 then 8 else 1, pcOf c, 0, 4)]
 let x4 : List TY := [(11, pcOf c, 0, 3)]
 let x5 : List TY := x3 ++ x4 ++ x4
 .br (Za s || (!decide (iN (List.length g) > 0) || (!Zf 0 (List.length g) || (Zb c.1 (R.get (R.int u8) g 0)).1 == 40))) (.br (Za s || (!decide (iN (List.length g) > 0) || Zf 0 (List.length g))) (.br (Za s) (fin3 g x1) (.br (decide (iN (List.length g) > 0)) (fin3 g x5) (fin3 g x3))) (.leaf none)) (.leaf none)
theorem Zvk (a : HL Zi) : Zg (envX Tryz.prog (Z0 40) [] 2047 8) Tryz.f42 Zi ZE a = Zkg a.1 a.2.1 a.2.2 := by kernel_rfl
def Zkc (c : TC) (s : Int) (g : List Int) : RT (Option (TY × Bool)) :=
 let x1 : List TY := [(12, pcOf c, 0, 6)] ++ [(5, u16.wrap ((spOf c) - 1), u8.wrap (shrI u16 (pcOf c) 8), 3)] ++ [(5, u16.wrap ((spOf c) - 2), u8.wrap (pcOf c), 3)]
 let x3 : List TY := [(bif s == 5 then 8 else 1, pcOf c, 0, 4)]
 let x4 : QT8 := ((pcOf c), 0, 3)
 let x5 : List TY := [(11, x4)]
 let x6 : List TY := x3 ++ [(9, x4)] ++ x5
 let x8 : List TY := x3 ++ [(2, u16.wrap ((pcOf c) + u16.wrap 1), 0, 3)] ++ x5
 .br (Za s || (!decide (iN (List.length g) > 0) || (!Zf 0 (List.length g) || (Zb c.1 (R.get (R.int u8) g 0)).1 == 44))) (.br (Za s || (!decide (iN (List.length g) > 0) || Zf 0 (List.length g))) (.br (Za s) (fin3 g x1) (.br (decide (iN (List.length g) > 0)) (.br (s == 5) (fin3 g x6) (fin3 g x8)) (fin3 g x3))) (.leaf none)) (.leaf none)
theorem Zvg (a : HL Zi) : Zg (envX Tryz.prog (Z0 44) [] 2047 8) Tryz.f42 Zi ZE a = Zkc a.1 a.2.1 a.2.2 := by kernel_rfl
def Zqr (c : TC) (s : Int) (g : List Int) : RT (Option (TY × Bool)) :=
 let x1 : QT1 := (c, s == 5, g, (0, 0, 0, 0, 0, 0, 0, 0), [])
 let x2 := qAtC x1 0
 let x3 := Zb c.1 (qAt x1 0)
 let x4 := !x2 || x3.1 == 4
 let x5 : QT8 := ((pcOf c), 0, 4)
 let x6 : List TY := [] ++ [(1, x5)]
 let x7 : List TY := [(9, pcOf c, 0, 3)]
 let x8 : List TY := bif s == 5 then x6 ++ x7 else x6 ++ [(2, u16.wrap ((pcOf c) + u16.wrap 1), 0, 3)]
 let x9 : List TY := bif s == 5 then x8 ++ x7 else x8 ++ [(2, u16.wrap ((pcOf c) + u16.wrap (i64.wrap (1 + 1))), 0, 3)]
 let x10 : List TY := [] ++ [(12, pcOf c, 0, 6)] ++ [(5, u16.wrap ((spOf c) - 1), u8.wrap (shrI u16 (pcOf c) 8), 3)] ++ [(5, u16.wrap ((spOf c) - 2), u8.wrap (pcOf c), 3)]
 let x12 : List TY := [] ++ [(bif s == 5 then 8 else 1, x5)]
 .br (!x4 || x2) (.br (x4) (.br (Ze s || (iN (List.length g) == 0 || Zch (c, s == 5, g, (4, x3.2), x9) 1)) (.br (Ze s) (fin3 g x10) (.br (iN (List.length g) == 0) (fin3 g x12) (fin3 g x9))) (.leaf none)) (.leaf none)) (.leaf none)
theorem ZCu (a : HL Zj) : Zg (envX Tryz.prog (Z2 4) [] 1125900980585471 8) Tryz.f113 Zj ZF a = Zqr a.1 a.2.1 a.2.2 := by kernel_rfl
def Zqn (c : TC) (s : Int) (g : List Int) : RT (Option (TY × Bool)) :=
 let x1 : QT1 := (c, s == 5, g, (0, 0, 0, 0, 0, 0, 0, 0), [])
 let x2 := qAtC x1 0
 let x3 := Zb c.1 (qAt x1 0)
 let x4 := !x2 || x3.1 == 8
 let x5 : QT8 := ((pcOf c), 0, 4)
 let x6 : List TY := [] ++ [(1, x5)]
 let x7 : List TY := [(9, pcOf c, 0, 3)]
 let x8 : List TY := bif s == 5 then x6 ++ x7 else x6 ++ [(2, u16.wrap ((pcOf c) + u16.wrap 1), 0, 3)]
 let x9 : List TY := bif s == 5 then x8 ++ x7 else x8 ++ [(2, u16.wrap ((pcOf c) + u16.wrap (i64.wrap (1 + 1))), 0, 3)]
 let x10 : QT1 := (c, s == 5, g, (8, x3.2), x9)
 let x11 : List TY := [] ++ [(12, pcOf c, 0, 6)] ++ [(5, u16.wrap ((spOf c) - 1), u8.wrap (shrI u16 (pcOf c) 8), 3)] ++ [(5, u16.wrap ((spOf c) - 2), u8.wrap (pcOf c), 3)]
 let x13 : List TY := [] ++ [(bif s == 5 then 8 else 1, x5)]
 let x15 := Ze9 x10 1
 let x16 : List TY := x9 ++ [(3, x15, c.2.1.2.2.2.2.2.2.1, 3)] ++ [(3, u16.wrap (x15 + 1), c.2.1.2.2.2.2.2.1, 3)]
 .br (!x4 || x2) (.br (x4) (.br (Ze s || (iN (List.length g) == 0 || Zch x10 1)) (.br (Ze s) (fin3 g x11) (.br (iN (List.length g) == 0) (fin3 g x13) (fin3 g x16))) (.leaf none)) (.leaf none)) (.leaf none)
theorem ZCq (a : HL Zj) : Zg (envX Tryz.prog (Z2 8) [] 1125900980585471 8) Tryz.f113 Zj ZF a = Zqn a.1 a.2.1 a.2.2 := by kernel_rfl
def ZlM (c : TC) (s : Int) (g : List Int) : RT (Option (TY × Bool)) :=
 let x1 : QT1 := (c, s == 5, g, (0, 0, 0, 0, 0, 0, 0, 0), [])
 let x2 := qAtC x1 0
 let x3 := Zb c.1 (qAt x1 0)
 let x4 := !x2 || x3.1 == 12
 let x5 : List TY := [] ++ [(12, pcOf c, 0, 6)] ++ [(5, u16.wrap ((spOf c) - 1), u8.wrap (shrI u16 (pcOf c) 8), 3)] ++ [(5, u16.wrap ((spOf c) - 2), u8.wrap (pcOf c), 3)]
 let x7 : QT8 := ((pcOf c), 0, 4)
 let x8 : List TY := [] ++ [(bif s == 5 then 8 else 1, x7)]
 let x10 := x3.2
 let x11 : List TY := [] ++ [(1, x7)]
 let x12 : List TY := bif x10.2.2.1 == 6 then x11 ++ [(2, Zdn (c, s == 5, g, (12, x10), x11) 2, 0, 3)] else x11
 .br (!x4 || x2) (.br (x4) (.br (Ze s) (fin3 g x5) (.br (iN (List.length g) == 0) (fin3 g x8) (fin3 g x12))) (.leaf none)) (.leaf none)
theorem Zxa (a : HL Zj) : Zg (envX Tryz.prog (Z2 12) [] 1125900980585471 8) Tryz.f113 Zj ZF a = ZlM a.1 a.2.1 a.2.2 := by kernel_rfl
def ZlI (c : TC) (s : Int) (g : List Int) : RT (Option (TY × Bool)) :=
 let x1 : QT1 := (c, s == 5, g, (0, 0, 0, 0, 0, 0, 0, 0), [])
 let x2 := qAtC x1 0
 let x3 := !x2 || (Zb c.1 (qAt x1 0)).1 == 16
 let x4 : List TY := [] ++ [(12, pcOf c, 0, 6)] ++ [(5, u16.wrap ((spOf c) - 1), u8.wrap (shrI u16 (pcOf c) 8), 3)] ++ [(5, u16.wrap ((spOf c) - 2), u8.wrap (pcOf c), 3)]
 let x6 : QT8 := ((pcOf c), 0, 4)
 let x7 : List TY := [] ++ [(bif s == 5 then 8 else 1, x6)]
 let x9 : List TY := [] ++ [(1, x6)]
 .br (!x3 || x2) (.br (x3) (.br (Ze s) (fin3 g x4) (.br (iN (List.length g) == 0) (fin3 g x7) (fin3 g x9))) (.leaf none)) (.leaf none)
theorem Zw6 (a : HL Zj) : Zg (envX Tryz.prog (Z2 16) [] 1125900980585471 8) Tryz.f113 Zj ZF a = ZlI a.1 a.2.1 a.2.2 := by kernel_rfl
def ZlE (c : TC) (s : Int) (g : List Int) : RT (Option (TY × Bool)) :=
 let x1 : QT1 := (c, s == 5, g, (0, 0, 0, 0, 0, 0, 0, 0), [])
 let x2 := qAtC x1 0
 let x3 := !x2 || (Zb c.1 (qAt x1 0)).1 == 20
 let x4 : List TY := [] ++ [(12, pcOf c, 0, 6)] ++ [(5, u16.wrap ((spOf c) - 1), u8.wrap (shrI u16 (pcOf c) 8), 3)] ++ [(5, u16.wrap ((spOf c) - 2), u8.wrap (pcOf c), 3)]
 let x6 : QT8 := ((pcOf c), 0, 4)
 let x7 : List TY := [] ++ [(bif s == 5 then 8 else 1, x6)]
 let x9 : List TY := [] ++ [(1, x6)]
 .br (!x3 || x2) (.br (x3) (.br (Ze s) (fin3 g x4) (.br (iN (List.length g) == 0) (fin3 g x7) (fin3 g x9))) (.leaf none)) (.leaf none)
theorem Zw2 (a : HL Zj) : Zg (envX Tryz.prog (Z2 20) [] 1125900980585471 8) Tryz.f113 Zj ZF a = ZlE a.1 a.2.1 a.2.2 := by kernel_rfl
def ZlA (c : TC) (s : Int) (g : List Int) : RT (Option (TY × Bool)) :=
 let x1 : QT1 := (c, s == 5, g, (0, 0, 0, 0, 0, 0, 0, 0), [])
 let x2 := qAtC x1 0
 let x3 := Zb c.1 (qAt x1 0)
 let x4 := !x2 || x3.1 == 24
 let x5 : List TY := [] ++ [(12, pcOf c, 0, 6)] ++ [(5, u16.wrap ((spOf c) - 1), u8.wrap (shrI u16 (pcOf c) 8), 3)] ++ [(5, u16.wrap ((spOf c) - 2), u8.wrap (pcOf c), 3)]
 let x7 : QT8 := ((pcOf c), 0, 4)
 let x8 : List TY := [] ++ [(bif s == 5 then 8 else 1, x7)]
 let x10 : List TY := [] ++ [(1, x7)]
 let x11 : List TY := [(9, pcOf c, 0, 3)]
 let x12 : List TY := bif s == 5 then x10 ++ x11 else x10 ++ [(2, u16.wrap ((pcOf c) + u16.wrap 1), 0, 3)]
 let x13 : List TY := bif !Zf4 (c, s == 5, g, (24, x3.2), x10) && c.1 == 2 then x12 else bif s == 5 then x12 ++ x11 else x12 ++ [(2, u16.wrap ((pcOf c) + u16.wrap (i64.wrap (1 + 1))), 0, 3)]
 .br (!x4 || x2) (.br (x4) (.br (Ze s) (fin3 g x5) (.br (iN (List.length g) == 0) (fin3 g x8) (fin3 g x13))) (.leaf none)) (.leaf none)
theorem ZwY (a : HL Zj) : Zg (envX Tryz.prog (Z2 24) [] 1125900980585471 8) Tryz.f113 Zj ZF a = ZlA a.1 a.2.1 a.2.2 := by kernel_rfl
def Zlw (c : TC) (s : Int) (g : List Int) : RT (Option (TY × Bool)) :=
 let x1 : QT1 := (c, s == 5, g, (0, 0, 0, 0, 0, 0, 0, 0), [])
 let x2 := qAtC x1 0
 let x3 := !x2 || (Zb c.1 (qAt x1 0)).1 == 28
 let x4 : List TY := [] ++ [(12, pcOf c, 0, 6)] ++ [(5, u16.wrap ((spOf c) - 1), u8.wrap (shrI u16 (pcOf c) 8), 3)] ++ [(5, u16.wrap ((spOf c) - 2), u8.wrap (pcOf c), 3)]
 let x6 : QT8 := ((pcOf c), 0, 4)
 let x7 : List TY := [] ++ [(bif s == 5 then 8 else 1, x6)]
 let x9 : List TY := [] ++ [(1, x6)]
 .br (!x3 || x2) (.br (x3) (.br (Ze s) (fin3 g x4) (.br (iN (List.length g) == 0) (fin3 g x7) (fin3 g x9))) (.leaf none)) (.leaf none)
theorem ZwU (a : HL Zj) : Zg (envX Tryz.prog (Z2 28) [] 1125900980585471 8) Tryz.f113 Zj ZF a = Zlw a.1 a.2.1 a.2.2 := by kernel_rfl
def Zls (c : TC) (s : Int) (g : List Int) : RT (Option (TY × Bool)) :=
 let x1 : QT1 := (c, s == 5, g, (0, 0, 0, 0, 0, 0, 0, 0), [])
 let x2 := qAtC x1 0
 let x3 := !x2 || (Zb c.1 (qAt x1 0)).1 == 32
 let x4 : List TY := [] ++ [(12, pcOf c, 0, 6)] ++ [(5, u16.wrap ((spOf c) - 1), u8.wrap (shrI u16 (pcOf c) 8), 3)] ++ [(5, u16.wrap ((spOf c) - 2), u8.wrap (pcOf c), 3)]
 let x6 : QT8 := ((pcOf c), 0, 4)
 let x7 : List TY := [] ++ [(bif s == 5 then 8 else 1, x6)]
 let x9 := u16.wrap ((spOf c) + 1)
 let x10 : List TY := [] ++ [(1, x6)] ++ [(4, spOf c, 0, 3)] ++ [(4, x9, 0, 3)] ++ [(5, x9, c.2.1.2.2.2.2.2.1, 3)] ++ [(5, spOf c, c.2.1.2.2.2.2.2.2.1, 3)]
 let x11 := i64.wrap (iN (List.length x10) - 1)
 let x12 : Int × Int × Int × Int := R.get (RY) x10 x11
 let x13 := x12.2
 let x14 : List TY := bif c.1 != 2 then setI x10 x11 (x12.1, x13.1, x13.2.1, 5) else x10
 .br (!x3 || x2) (.br (x3) (.br (Ze s) (fin3 g x4) (.br (iN (List.length g) == 0) (fin3 g x7) (fin3 g x14))) (.leaf none)) (.leaf none)
theorem ZwQ (a : HL Zj) : Zg (envX Tryz.prog (Z2 32) [] 1125900980585471 8) Tryz.f113 Zj ZF a = Zls a.1 a.2.1 a.2.2 := by kernel_rfl
def Zlo (c : TC) (s : Int) (g : List Int) : RT (Option (TY × Bool)) :=
 let x1 : QT1 := (c, s == 5, g, (0, 0, 0, 0, 0, 0, 0, 0), [])
 let x2 := qAtC x1 0
 let x3 := !x2 || (Zb c.1 (qAt x1 0)).1 == 36
 let x4 : List TY := [] ++ [(12, pcOf c, 0, 6)] ++ [(5, u16.wrap ((spOf c) - 1), u8.wrap (shrI u16 (pcOf c) 8), 3)] ++ [(5, u16.wrap ((spOf c) - 2), u8.wrap (pcOf c), 3)]
 let x6 : QT8 := ((pcOf c), 0, 4)
 let x7 : List TY := [] ++ [(bif s == 5 then 8 else 1, x6)]
 let x9 : List TY := [] ++ [(1, x6)]
 .br (!x3 || x2) (.br (x3) (.br (Ze s) (fin3 g x4) (.br (iN (List.length g) == 0) (fin3 g x7) (fin3 g x9))) (.leaf none)) (.leaf none)
theorem ZwM (a : HL Zj) : Zg (envX Tryz.prog (Z2 36) [] 1125900980585471 8) Tryz.f113 Zj ZF a = Zlo a.1 a.2.1 a.2.2 := by kernel_rfl
def Zlk (c : TC) (s : Int) (g : List Int) : RT (Option (TY × Bool)) :=
 let x1 : QT1 := (c, s == 5, g, (0, 0, 0, 0, 0, 0, 0, 0), [])
 let x2 := qAtC x1 0
 let x3 := !x2 || (Zb c.1 (qAt x1 0)).1 == 40
 let x4 : List TY := [] ++ [(12, pcOf c, 0, 6)] ++ [(5, u16.wrap ((spOf c) - 1), u8.wrap (shrI u16 (pcOf c) 8), 3)] ++ [(5, u16.wrap ((spOf c) - 2), u8.wrap (pcOf c), 3)]
 let x6 : QT8 := ((pcOf c), 0, 4)
 let x7 : List TY := [] ++ [(bif s == 5 then 8 else 1, x6)]
 let x9 : List TY := [(11, pcOf c, 0, 3)]
 let x10 : List TY := [] ++ [(1, x6)] ++ x9 ++ x9
 .br (!x3 || x2) (.br (x3) (.br (Ze s) (fin3 g x4) (.br (iN (List.length g) == 0) (fin3 g x7) (fin3 g x10))) (.leaf none)) (.leaf none)
theorem ZwI (a : HL Zj) : Zg (envX Tryz.prog (Z2 40) [] 1125900980585471 8) Tryz.f113 Zj ZF a = Zlk a.1 a.2.1 a.2.2 := by kernel_rfl
def Zlg (c : TC) (s : Int) (g : List Int) : RT (Option (TY × Bool)) :=
 let x1 : QT1 := (c, s == 5, g, (0, 0, 0, 0, 0, 0, 0, 0), [])
 let x2 := qAtC x1 0
 let x3 := !x2 || (Zb c.1 (qAt x1 0)).1 == 44
 let x4 : List TY := [] ++ [(12, pcOf c, 0, 6)] ++ [(5, u16.wrap ((spOf c) - 1), u8.wrap (shrI u16 (pcOf c) 8), 3)] ++ [(5, u16.wrap ((spOf c) - 2), u8.wrap (pcOf c), 3)]
 let x6 : QT8 := ((pcOf c), 0, 4)
 let x7 : List TY := [] ++ [(bif s == 5 then 8 else 1, x6)]
 let x9 : List TY := [] ++ [(1, x6)]
 let x10 : QT8 := ((pcOf c), 0, 3)
 let x11 : List TY := (bif s == 5 then x9 ++ [(9, x10)] else x9 ++ [(2, u16.wrap ((pcOf c) + u16.wrap 1), 0, 3)]) ++ [(11, x10)]
 .br (!x3 || x2) (.br (x3) (.br (Ze s) (fin3 g x4) (.br (iN (List.length g) == 0) (fin3 g x7) (fin3 g x11))) (.leaf none)) (.leaf none)
theorem ZwE (a : HL Zj) : Zg (envX Tryz.prog (Z2 44) [] 1125900980585471 8) Tryz.f113 Zj ZF a = Zlg a.1 a.2.1 a.2.2 := by kernel_rfl
def Zpb (c : TC) (s : Int) (g : List Int) : RT (Option (TY × Bool)) :=
 let x1 : List TY := [(12, pcOf c, 0, 6)] ++ [(5, u16.wrap ((spOf c) - 1), u8.wrap (shrI u16 (pcOf c) 8), 3)] ++ [(5, u16.wrap ((spOf c) - 2), u8.wrap (pcOf c), 3)]
 let x3 : List TY := [(bif s == 5 then 8 else 1, pcOf c, 0, 4)]
 .br (Za s || (!decide (iN (List.length g) > 0) || (!Zf 0 (List.length g) || (Zb c.1 (R.get (R.int u8) g 0)).1 == 1))) (.br (Za s || (!decide (iN (List.length g) > 0) || Zf 0 (List.length g))) (.br (Za s) (fin3 g x1) (fin3 g x3)) (.leaf none)) (.leaf none)
theorem ZBr (a : HL Zi) : Zg (envX Tryz.prog (Z0 1) [] 2047 8) Tryz.f42 Zi ZE a = Zpb a.1 a.2.1 a.2.2 := by kernel_rfl
def Zo7 (c : TC) (s : Int) (g : List Int) : RT (Option (TY × Bool)) :=
 let x1 : List TY := [(bif s == 5 then 8 else 1, pcOf c, 0, 4)]
 let x2 : List TY := [(9, pcOf c, 0, 3)]
 let x3 : List TY := x1 ++ x2
 let x4 : List TY := [(2, u16.wrap ((pcOf c) + u16.wrap (i64.wrap (1 + 1))), 0, 3)]
 let x5 : List TY := bif s == 5 then x3 ++ x2 else x3 ++ x4
 let x6 : QT3 := (c, s == 5, g, x5)
 let x7 := !s == 5 || ZbO x6 1
 let x8 : List TY := x1 ++ [(2, u16.wrap ((pcOf c) + u16.wrap 1), 0, 3)]
 let x9 : List TY := bif s == 5 then x8 ++ x2 else x8 ++ x4
 let x10 : QT3 := (c, s == 5, g, x9)
 let x11 : List TY := [(12, pcOf c, 0, 6)] ++ [(5, u16.wrap ((spOf c) - 1), u8.wrap (shrI u16 (pcOf c) 8), 3)] ++ [(5, u16.wrap ((spOf c) - 2), u8.wrap (pcOf c), 3)]
 let x13 : List TY := x5 ++ [(2, ZdP x6 1, 0, 3)]
 let x15 : List TY := x9 ++ [(2, ZdP x10 1, 0, 3)]
 .br (Za s || (!decide (iN (List.length g) > 0) || (!Zf 0 (List.length g) || (!(Zb c.1 (R.get (R.int u8) g 0)).1 == 5 || (!x7 || (s == 5 || ZbO x10 1)))))) (.br (Za s || (!decide (iN (List.length g) > 0) || (!Zf 0 (List.length g) || (!(Zb c.1 (R.get (R.int u8) g 0)).1 == 5 || x7)))) (.br (Za s || (!decide (iN (List.length g) > 0) || (!Zf 0 (List.length g) || (Zb c.1 (R.get (R.int u8) g 0)).1 == 5))) (.br (Za s || (!decide (iN (List.length g) > 0) || Zf 0 (List.length g))) (.br (Za s) (fin3 g x11) (.br (decide (iN (List.length g) > 0)) (.br (s == 5) (fin3 g x13) (fin3 g x15)) (fin3 g x1))) (.leaf none)) (.leaf none)) (.leaf none)) (.leaf none)
theorem ZBn (a : HL Zi) : Zg (envX Tryz.prog (Z0 5) [] 2047 8) Tryz.f42 Zi ZE a = Zo7 a.1 a.2.1 a.2.2 := by kernel_rfl
def Zo3 (c : TC) (s : Int) (g : List Int) : RT (Option (TY × Bool)) :=
 let x1 : List TY := [(12, pcOf c, 0, 6)] ++ [(5, u16.wrap ((spOf c) - 1), u8.wrap (shrI u16 (pcOf c) 8), 3)] ++ [(5, u16.wrap ((spOf c) - 2), u8.wrap (pcOf c), 3)]
 let x3 : List TY := [(bif s == 5 then 8 else 1, pcOf c, 0, 4)]
 let x4 : List TY := x3 ++ [(2, Zac c.2.1 (Zb c.1 (R.get (R.int u8) g 0)).2.2.2.2.1, 0, 3)]
 .br (Za s || (!decide (iN (List.length g) > 0) || (!Zf 0 (List.length g) || (Zb c.1 (R.get (R.int u8) g 0)).1 == 9))) (.br (Za s || (!decide (iN (List.length g) > 0) || Zf 0 (List.length g))) (.br (Za s) (fin3 g x1) (.br (decide (iN (List.length g) > 0)) (fin3 g x4) (fin3 g x3))) (.leaf none)) (.leaf none)
theorem ZBj (a : HL Zi) : Zg (envX Tryz.prog (Z0 9) [] 2047 8) Tryz.f42 Zi ZE a = Zo3 a.1 a.2.1 a.2.2 := by kernel_rfl
def ZkH (c : TC) (s : Int) (g : List Int) : RT (Option (TY × Bool)) :=
 let x1 : List TY := [(12, pcOf c, 0, 6)] ++ [(5, u16.wrap ((spOf c) - 1), u8.wrap (shrI u16 (pcOf c) 8), 3)] ++ [(5, u16.wrap ((spOf c) - 2), u8.wrap (pcOf c), 3)]
 let x3 : List TY := [(bif s == 5 then 8 else 1, pcOf c, 0, 4)]
 let x4 : List TY := x3 ++ [(9, pcOf c, 0, 3)]
 let x6 : List TY := x3 ++ [(2, u16.wrap ((pcOf c) + u16.wrap 1), 0, 3)]
 .br (Za s || (!decide (iN (List.length g) > 0) || (!Zf 0 (List.length g) || (Zb c.1 (R.get (R.int u8) g 0)).1 == 13))) (.br (Za s || (!decide (iN (List.length g) > 0) || Zf 0 (List.length g))) (.br (Za s) (fin3 g x1) (.br (decide (iN (List.length g) > 0)) (.br (s == 5) (fin3 g x4) (fin3 g x6)) (fin3 g x3))) (.leaf none)) (.leaf none)
theorem ZvL (a : HL Zi) : Zg (envX Tryz.prog (Z0 13) [] 2047 8) Tryz.f42 Zi ZE a = ZkH a.1 a.2.1 a.2.2 := by kernel_rfl
def ZkD (c : TC) (s : Int) (g : List Int) : RT (Option (TY × Bool)) :=
 let x1 : List TY := [(12, pcOf c, 0, 6)] ++ [(5, u16.wrap ((spOf c) - 1), u8.wrap (shrI u16 (pcOf c) 8), 3)] ++ [(5, u16.wrap ((spOf c) - 2), u8.wrap (pcOf c), 3)]
 let x3 : List TY := [(bif s == 5 then 8 else 1, pcOf c, 0, 4)]
 .br (Za s || (!decide (iN (List.length g) > 0) || (!Zf 0 (List.length g) || (Zb c.1 (R.get (R.int u8) g 0)).1 == 17))) (.br (Za s || (!decide (iN (List.length g) > 0) || Zf 0 (List.length g))) (.br (Za s) (fin3 g x1) (fin3 g x3)) (.leaf none)) (.leaf none)
theorem ZvH (a : HL Zi) : Zg (envX Tryz.prog (Z0 17) [] 2047 8) Tryz.f42 Zi ZE a = ZkD a.1 a.2.1 a.2.2 := by kernel_rfl
def Zkz (c : TC) (s : Int) (g : List Int) : RT (Option (TY × Bool)) :=
 let x1 : List TY := [(12, pcOf c, 0, 6)] ++ [(5, u16.wrap ((spOf c) - 1), u8.wrap (shrI u16 (pcOf c) 8), 3)] ++ [(5, u16.wrap ((spOf c) - 2), u8.wrap (pcOf c), 3)]
 let x3 : List TY := [(bif s == 5 then 8 else 1, pcOf c, 0, 4)]
 .br (Za s || (!decide (iN (List.length g) > 0) || (!Zf 0 (List.length g) || (Zb c.1 (R.get (R.int u8) g 0)).1 == 21))) (.br (Za s || (!decide (iN (List.length g) > 0) || Zf 0 (List.length g))) (.br (Za s) (fin3 g x1) (fin3 g x3)) (.leaf none)) (.leaf none)
theorem ZvD (a : HL Zi) : Zg (envX Tryz.prog (Z0 21) [] 2047 8) Tryz.f42 Zi ZE a = Zkz a.1 a.2.1 a.2.2 := by kernel_rfl
def Zkv (c : TC) (s : Int) (g : List Int) : RT (Option (TY × Bool)) :=
 let x1 := u16.wrap ((spOf c) - 1)
 let x2 := u16.wrap ((spOf c) - 2)
 let x3 : List TY := [(12, pcOf c, 0, 6)] ++ [(5, x1, u8.wrap (shrI u16 (pcOf c) 8), 3)] ++ [(5, x2, u8.wrap (pcOf c), 3)]
 let x5 : List TY := [(bif s == 5 then 8 else 1, pcOf c, 0, 4)]
 let x6 : List TY := [(9, pcOf c, 0, 3)]
 let x7 : List TY := x5 ++ x6
 let x8 : QT3 := (c, s == 5, g, x7)
 let x9 := ZA x8 (Zb c.1 (R.get (R.int u8) g 0)).2.1
 let x10 : List TY := bif ZdJ x8 (25, (Zb c.1 (R.get (R.int u8) g 0)).2) then x7 ++ [(5, x1, u8.wrap (shrI u16 x9 8), 3)] ++ [(5, x2, u8.wrap x9, 3)] else x7
 let x12 : List TY := x5 ++ [(2, u16.wrap ((pcOf c) + u16.wrap 1), 0, 3)]
 let x13 : QT3 := (c, s == 5, g, x12)
 let x14 := ZA x13 (Zb c.1 (R.get (R.int u8) g 0)).2.1
 let x15 : List TY := bif ZdJ x13 (25, (Zb c.1 (R.get (R.int u8) g 0)).2) then x12 ++ [(5, x1, u8.wrap (shrI u16 x14 8), 3)] ++ [(5, x2, u8.wrap x14, 3)] else x12
 let x17 : List TY := [(2, u16.wrap ((pcOf c) + u16.wrap (i64.wrap (1 + 1))), 0, 3)]
 let x18 : List TY := bif s == 5 then x7 ++ x6 else x7 ++ x17
 let x19 : QT3 := (c, s == 5, g, x18)
 let x20 := ZA x19 (Zb c.1 (R.get (R.int u8) g 0)).2.1
 let x21 : List TY := bif ZdJ x19 (25, (Zb c.1 (R.get (R.int u8) g 0)).2) then x18 ++ [(5, x1, u8.wrap (shrI u16 x20 8), 3)] ++ [(5, x2, u8.wrap x20, 3)] else x18
 let x23 : List TY := bif s == 5 then x12 ++ x6 else x12 ++ x17
 let x24 : QT3 := (c, s == 5, g, x23)
 let x25 := ZA x24 (Zb c.1 (R.get (R.int u8) g 0)).2.1
 let x26 : List TY := bif ZdJ x24 (25, (Zb c.1 (R.get (R.int u8) g 0)).2) then x23 ++ [(5, x1, u8.wrap (shrI u16 x25 8), 3)] ++ [(5, x2, u8.wrap x25, 3)] else x23
 .br (Za s || (!decide (iN (List.length g) > 0) || (!Zf 0 (List.length g) || (Zb c.1 (R.get (R.int u8) g 0)).1 == 25))) (.br (Za s || (!decide (iN (List.length g) > 0) || Zf 0 (List.length g))) (.br (Za s) (fin3 g x3) (.br (decide (iN (List.length g) > 0)) (.br (rOn c.1 && !ZdJ (c, s == 5, g, x5) (25, (Zb c.1 (R.get (R.int u8) g 0)).2)) (.br (s == 5) (fin3 g x10) (fin3 g x15)) (.br (s == 5) (fin3 g x21) (fin3 g x26))) (fin3 g x5))) (.leaf none)) (.leaf none)
theorem Zvz (a : HL Zi) : Zg (envX Tryz.prog (Z0 25) [] 2047 8) Tryz.f42 Zi ZE a = Zkv a.1 a.2.1 a.2.2 := by kernel_rfl
def Zkr (c : TC) (s : Int) (g : List Int) : RT (Option (TY × Bool)) :=
 let x1 : List TY := [(12, pcOf c, 0, 6)] ++ [(5, u16.wrap ((spOf c) - 1), u8.wrap (shrI u16 (pcOf c) 8), 3)] ++ [(5, u16.wrap ((spOf c) - 2), u8.wrap (pcOf c), 3)]
 let x3 : List TY := [(bif s == 5 then 8 else 1, pcOf c, 0, 4)]
 .br (Za s || (!decide (iN (List.length g) > 0) || (!Zf 0 (List.length g) || (Zb c.1 (R.get (R.int u8) g 0)).1 == 29))) (.br (Za s || (!decide (iN (List.length g) > 0) || Zf 0 (List.length g))) (.br (Za s) (fin3 g x1) (fin3 g x3)) (.leaf none)) (.leaf none)
theorem Zvv (a : HL Zi) : Zg (envX Tryz.prog (Z0 29) [] 2047 8) Tryz.f42 Zi ZE a = Zkr a.1 a.2.1 a.2.2 := by kernel_rfl
def Zkn (c : TC) (s : Int) (g : List Int) : RT (Option (TY × Bool)) :=
 let x1 : List TY := [(bif s == 5 then 8 else 1, pcOf c, 0, 4)]
 let x2 : List TY := x1 ++ [(9, pcOf c, 0, 3)]
 let x3 : QT3 := (c, s == 5, g, x2)
 let x4 := mAtC x3 1
 let x5 := !x4 || x4
 let x6 := !s == 5 || (!x5 || x4)
 let x7 := !x6
 let x8 := !s == 5 || x5
 let x9 := !x8
 let x10 : List TY := x1 ++ [(2, u16.wrap ((pcOf c) + u16.wrap 1), 0, 3)]
 let x11 : QT3 := (c, s == 5, g, x10)
 let x12 := mAtC x11 1
 let x13 := !x12 || x12
 let x14 := s == 5 || (!x13 || x12)
 let x15 : List TY := [(12, pcOf c, 0, 6)] ++ [(5, u16.wrap ((spOf c) - 1), u8.wrap (shrI u16 (pcOf c) 8), 3)] ++ [(5, u16.wrap ((spOf c) - 2), u8.wrap (pcOf c), 3)]
 let x17 := mAt x3 1
 let x18 : List TY := x2 ++ [(6, Zcg x17 x17, 0, 3)]
 let x20 := mAt x11 1
 let x21 : List TY := x10 ++ [(6, Zcg x20 x20, 0, 3)]
 .br (Za s || (!decide (iN (List.length g) > 0) || (!Zf 0 (List.length g) || (!(Zb c.1 (R.get (R.int u8) g 0)).1 == 33 || (x7 || (x9 || (!x14 || (s == 5 || x13)))))))) (.br (Za s || (!decide (iN (List.length g) > 0) || (!Zf 0 (List.length g) || (!(Zb c.1 (R.get (R.int u8) g 0)).1 == 33 || (x7 || (x9 || x14)))))) (.br (Za s || (!decide (iN (List.length g) > 0) || (!Zf 0 (List.length g) || (!(Zb c.1 (R.get (R.int u8) g 0)).1 == 33 || (x7 || x8))))) (.br (Za s || (!decide (iN (List.length g) > 0) || (!Zf 0 (List.length g) || (!(Zb c.1 (R.get (R.int u8) g 0)).1 == 33 || x6)))) (.br (Za s || (!decide (iN (List.length g) > 0) || (!Zf 0 (List.length g) || (Zb c.1 (R.get (R.int u8) g 0)).1 == 33))) (.br (Za s || (!decide (iN (List.length g) > 0) || Zf 0 (List.length g))) (.br (Za s) (fin3 g x15) (.br (decide (iN (List.length g) > 0)) (.br (s == 5) (fin3 g x18) (fin3 g x21)) (fin3 g x1))) (.leaf none)) (.leaf none)) (.leaf none)) (.leaf none)) (.leaf none)) (.leaf none)
theorem Zvr (a : HL Zi) : Zg (envX Tryz.prog (Z0 33) [] 2047 8) Tryz.f42 Zi ZE a = Zkn a.1 a.2.1 a.2.2 := by kernel_rfl
def Zkj (c : TC) (s : Int) (g : List Int) : RT (Option (TY × Bool)) :=
 let x1 : List TY := [(12, pcOf c, 0, 6)] ++ [(5, u16.wrap ((spOf c) - 1), u8.wrap (shrI u16 (pcOf c) 8), 3)] ++ [(5, u16.wrap ((spOf c) - 2), u8.wrap (pcOf c), 3)]
 let x3 : List TY := [(bif s == 5 then 8 else 1, pcOf c, 0, 4)]
 let x4 : List TY := x3 ++ [(10, pcOf c, 0, 3)]
 let x6 : Nat := List.length x3
 let x7 := decide (iN (List.length g) ≥ iN x6)
 let x8 := Zf (iN (List.length g)) x6
 let x9 : TY × Bool := (R.get (RY) x3 (iN (List.length g)), true)
 .br (Za s || (!decide (iN (List.length g) > 0) || (!Zf 0 (List.length g) || (Zb c.1 (R.get (R.int u8) g 0)).1 == 37))) (.br (Za s || (!decide (iN (List.length g) > 0) || Zf 0 (List.length g))) (.br (Za s) (fin3 g x1) (.br (decide (iN (List.length g) > 0)) (.br (!rOn c.1) (fin3 g x4) (.br (x7) (.leaf (some (((0, 0, 0, 0), false)))) (.br (x8) (.leaf (some (x9))) (.leaf none)))) (.br (x7) (.leaf (some (((0, 0, 0, 0), false)))) (.br (x8) (.leaf (some (x9))) (.leaf none))))) (.leaf none)) (.leaf none)
theorem Zvn (a : HL Zi) : Zg (envX Tryz.prog (Z0 37) [] 2047 8) Tryz.f42 Zi ZE a = Zkj a.1 a.2.1 a.2.2 := by kernel_rfl
def Zkf (c : TC) (s : Int) (g : List Int) : RT (Option (TY × Bool)) :=
 let x1 : List TY := [(12, pcOf c, 0, 6)] ++ [(5, u16.wrap ((spOf c) - 1), u8.wrap (shrI u16 (pcOf c) 8), 3)] ++ [(5, u16.wrap ((spOf c) - 2), u8.wrap (pcOf c), 3)]
 let x3 : List TY := [(bif s == 5 then 8 else 1, pcOf c, 0, 4)]
 let x4 : List TY := x3 ++ [(11, pcOf c, 0, 3)]
 .br (Za s || (!decide (iN (List.length g) > 0) || (!Zf 0 (List.length g) || (Zb c.1 (R.get (R.int u8) g 0)).1 == 41))) (.br (Za s || (!decide (iN (List.length g) > 0) || Zf 0 (List.length g))) (.br (Za s) (fin3 g x1) (.br (decide (iN (List.length g) > 0)) (fin3 g x4) (fin3 g x3))) (.leaf none)) (.leaf none)
theorem Zvj (a : HL Zi) : Zg (envX Tryz.prog (Z0 41) [] 2047 8) Tryz.f42 Zi ZE a = Zkf a.1 a.2.1 a.2.2 := by kernel_rfl
def Zkb (c : TC) (s : Int) (g : List Int) : RT (Option (TY × Bool)) :=
 let x1 := u16.wrap ((spOf c) - 1)
 let x2 := u16.wrap ((spOf c) - 2)
 let x3 : List TY := [(12, pcOf c, 0, 6)] ++ [(5, x1, u8.wrap (shrI u16 (pcOf c) 8), 3)] ++ [(5, x2, u8.wrap (pcOf c), 3)]
 let x5 : List TY := [(bif s == 5 then 8 else 1, pcOf c, 0, 4)]
 let x6 : QT3 := (c, s == 5, g, x5)
 let x7 := ZA x6 (Zb c.1 (R.get (R.int u8) g 0)).2.1
 let x8 : List TY := x5 ++ [(5, x1, u8.wrap (shrI u16 x7 8), 3)] ++ [(5, x2, u8.wrap x7, 3)]
 let x10 : Nat := List.length x5
 let x11 := decide (iN (List.length g) ≥ iN x10)
 let x12 := Zf (iN (List.length g)) x10
 let x13 : TY × Bool := (R.get (RY) x5 (iN (List.length g)), true)
 .br (Za s || (!decide (iN (List.length g) > 0) || (!Zf 0 (List.length g) || (Zb c.1 (R.get (R.int u8) g 0)).1 == 45))) (.br (Za s || (!decide (iN (List.length g) > 0) || Zf 0 (List.length g))) (.br (Za s) (fin3 g x3) (.br (decide (iN (List.length g) > 0)) (.br (ZdJ x6 (45, (Zb c.1 (R.get (R.int u8) g 0)).2)) (fin3 g x8) (.br (x11) (.leaf (some (((0, 0, 0, 0), false)))) (.br (x12) (.leaf (some (x13))) (.leaf none)))) (.br (x11) (.leaf (some (((0, 0, 0, 0), false)))) (.br (x12) (.leaf (some (x13))) (.leaf none))))) (.leaf none)) (.leaf none)
theorem Zvf (a : HL Zi) : Zg (envX Tryz.prog (Z0 45) [] 2047 8) Tryz.f42 Zi ZE a = Zkb a.1 a.2.1 a.2.2 := by kernel_rfl
theorem nx_2 (c) (s : Int) (g : List Int) (n : Int) (hk : (Zb c.1 (g.getD 0 0)).1 = n) : (n = 4 → (Zqr c s g).val = some (Zl c s g)) ∧ (n = 8 → (Zqn c s g).val = some (Zl c s g)) ∧ (n = 13 → (ZlL c s g).val = some (Zl c s g)) ∧ (n = 19 → (ZlF c s g).val = some (Zl c s g)) ∧ (n = 23 → (ZlB c s g).val = some (Zl c s g)) ∧ (n = 31 → (Zlt c s g).val = some (Zl c s g)) ∧ (n = 36 → (Zlo c s g).val = some (Zl c s g)) ∧ (n = 41 → (Zlj c s g).val = some (Zl c s g)) ∧ (n = 46 → (Zle c s g).val = some (Zl c s g)) ∧ (n = 4 → (Zo8 c s g).val = some (Zl c s g)) ∧ (n = 8 → (Zo4 c s g).val = some (Zl c s g)) ∧ (n = 13 → (ZkH c s g).val = some (Zl c s g)) ∧ (n = 19 → (ZkB c s g).val = some (Zl c s g)) ∧ (n = 23 → (Zkx c s g).val = some (Zl c s g)) ∧ (n = 31 → (Zkp c s g).val = some (Zl c s g)) ∧ (n = 36 → (Zkk c s g).val = some (Zl c s g)) ∧ (n = 41 → (Zkf c s g).val = some (Zl c s g)) ∧ (n = 46 → (Zka c s g).val = some (Zl c s g)) := by
 refine ⟨?_, ?_, ?_, ?_, ?_, ?_, ?_, ?_, ?_, ?_, ?_, ?_, ?_, ?_, ?_, ?_, ?_, ?_⟩
 all_goals intro e; subst e
 all_goals simp only [Zqr, Zqn, ZlL, ZlF, ZlB, Zlt, Zlo, Zlj, Zle, Zo8, Zo4, ZkH, ZkB, Zkx, Zkp, Zkk, Zkf, Zka, RT.val, fin3, pk]
 all_goals simp only [qat0, mat0, qat1, mat1, rg0, hk, Zv, ZW, Z7, ZG, ZH, Zx, Zz, ZaE, ZaG, ZaF, Zu, ZaW, Zl, Zfc, ZJ, ZaZ]
 all_goals generalize Za s = bi
 all_goals generalize (s == 5) = bs
 all_goals cases g with
 | nil => cases bi <;> cases bs <;> simp [Zmo, Zbp, pcOf, spOf, ZbI]
 | cons o t =>
  simp only [List.getD_cons_zero] at hk
  simp only [len0, List.getD_cons_zero, ZfZ, hk, ZbT, ZaZ, ZJ, ZeC, bne]
  generalize Zb c.1 o = i at hk ⊢
  cases bi <;> cases bs <;> simp [Zbq, ZbI, popX, pcOf, spOf, opC, Zgf, Zdd, ZaR, ZfY, Zby, setI, R.get]
theorem nx_4 (c) (s : Int) (g : List Int) (n : Int) (hk : (Zb c.1 (g.getD 0 0)).1 = n) : (n = 6 → (Zqp c s g).val = some (Zl c s g)) ∧ (n = 10 → (ZlO c s g).val = some (Zl c s g)) ∧ (n = 17 → (ZlH c s g).val = some (Zl c s g)) ∧ (n = 21 → (ZlD c s g).val = some (Zl c s g)) ∧ (n = 28 → (Zlw c s g).val = some (Zl c s g)) ∧ (n = 34 → (Zlq c s g).val = some (Zl c s g)) ∧ (n = 39 → (Zll c s g).val = some (Zl c s g)) ∧ (n = 43 → (Zlh c s g).val = some (Zl c s g)) ∧ (n = 6 → (Zo6 c s g).val = some (Zl c s g)) ∧ (n = 10 → (ZkK c s g).val = some (Zl c s g)) ∧ (n = 17 → (ZkD c s g).val = some (Zl c s g)) ∧ (n = 21 → (Zkz c s g).val = some (Zl c s g)) ∧ (n = 28 → (Zks c s g).val = some (Zl c s g)) ∧ (n = 34 → (Zkm c s g).val = some (Zl c s g)) ∧ (n = 39 → (Zkh c s g).val = some (Zl c s g)) ∧ (n = 43 → (Zkd c s g).val = some (Zl c s g)) := by
 refine ⟨?_, ?_, ?_, ?_, ?_, ?_, ?_, ?_, ?_, ?_, ?_, ?_, ?_, ?_, ?_, ?_⟩
 all_goals intro e; subst e
 all_goals simp only [Zqp, ZlO, ZlH, ZlD, Zlw, Zlq, Zll, Zlh, Zo6, ZkK, ZkD, Zkz, Zks, Zkm, Zkh, Zkd, RT.val, fin3, pk]
 all_goals simp only [qat0, mat0, qat1, mat1, rg0, hk, Zv, ZW, Z7, ZG, ZH, Zx, Zz, ZaE, ZaG, ZaF, Zu, ZaW, Zl, Zfc, ZJ, ZaZ]
 all_goals generalize Za s = bi
 all_goals generalize (s == 5) = bs
 all_goals cases g with
 | nil => cases bi <;> cases bs <;> simp [Zmo, Zbp, pcOf, spOf, ZbI]
 | cons o t =>
  simp only [List.getD_cons_zero] at hk
  simp only [len0, List.getD_cons_zero, ZfZ, hk, ZbT, ZaZ, ZJ, ZeC, bne]
  generalize Zb c.1 o = i at hk ⊢
  cases bi <;> cases bs <;> simp [Zbq, ZbI, popX, pcOf, spOf, opC, Zgf, Zdd, ZaR, ZfY, Zby, setI, R.get]
theorem nx_6 (c) (s : Int) (g : List Int) (n : Int) (hk : (Zb c.1 (g.getD 0 0)).1 = n) : (n = 3 → (Zqs c s g).val = some (Zl c s g)) ∧ (n = 14 → (ZlK c s g).val = some (Zl c s g)) ∧ (n = 15 → (ZlJ c s g).val = some (Zl c s g)) ∧ (n = 3 → (Zo9 c s g).val = some (Zl c s g)) ∧ (n = 14 → (ZkG c s g).val = some (Zl c s g)) ∧ (n = 15 → (ZkF c s g).val = some (Zl c s g)) := by
 refine ⟨?_, ?_, ?_, ?_, ?_, ?_⟩
 all_goals intro e; subst e
 all_goals simp only [Zqs, ZlK, ZlJ, Zo9, ZkG, ZkF, RT.val, fin3, pk]
 all_goals simp only [qat0, mat0, qat1, mat1, rg0, hk, Zv, ZW, Z7, ZG, ZH, Zx, Zz, ZaE, ZaG, ZaF, Zu, ZaW, Zl, Zfc, ZJ, ZaZ]
 all_goals generalize Za s = bi
 all_goals generalize (s == 5) = bs
 all_goals cases g with
 | nil => cases bi <;> cases bs <;> simp [Zmo, Zbp, pcOf, spOf, ZbI]
 | cons o t =>
  simp only [List.getD_cons_zero] at hk
  simp only [len0, List.getD_cons_zero, ZfZ, hk, ZbT, ZaZ, ZJ, ZeC, bne]
  generalize Zb c.1 o = i at hk ⊢
  generalize (i.2.2.1 == 6) = b0
  cases b0 <;> cases bi <;> cases bs <;> simp [Zbq, ZbI, popX, pcOf, spOf, opC, Zgf, Zdd, ZaR, ZfY, Zby, setI, R.get]
theorem nx_8 (c) (s : Int) (g : List Int) (n : Int) (hk : (Zb c.1 (g.getD 0 0)).1 = n) : (n = 24 → (ZlA c s g).val = some (Zl c s g)) ∧ (n = 25 → (Zlz c s g).val = some (Zl c s g)) ∧ (n = 24 → (Zkw c s g).val = some (Zl c s g)) ∧ (n = 25 → (Zkv c s g).val = some (Zl c s g)) := by
 refine ⟨?_, ?_, ?_, ?_⟩
 all_goals intro e; subst e
 all_goals simp only [ZlA, Zlz, Zkw, Zkv, RT.val, fin3, pk]
 all_goals simp only [qat0, mat0, qat1, mat1, rg0, hk, Zv, ZW, Z7, ZG, ZH, Zx, Zz, ZaE, ZaG, ZaF, Zu, ZaW, Zl, Zfc, ZJ, ZaZ]
 all_goals generalize Za s = bi
 all_goals generalize (s == 5) = bs
 all_goals cases g with
 | nil => cases bi <;> cases bs <;> simp [Zmo, Zbp, pcOf, spOf, ZbI]
 | cons o t =>
  simp only [List.getD_cons_zero] at hk
  simp only [len0, List.getD_cons_zero, ZfZ, hk, ZbT, ZaZ, ZJ, ZeC, bne]
  generalize Zb c.1 o = i at hk ⊢
  generalize ZdG _ _ = b0
  generalize (c.1 == 2) = b1
  cases b0 <;> cases b1 <;> cases bi <;> cases bs <;> simp [Zbq, ZbI, popX, pcOf, spOf, opC, Zgf, Zdd, ZaR, ZfY, Zby, setI, R.get]
theorem ZQC (c) (s : Int) (g : List Int) (n : Int) (hk : (Zb c.1 (g.getD 0 0)).1 = n) : (n = 30 → (Zlu c s g).val = some (Zl c s g)) ∧ (n = 30 → (Zkq c s g).val = some (Zl c s g)) := by
 refine ⟨?_, ?_⟩
 all_goals intro e; subst e
 all_goals simp only [Zlu, Zkq, RT.val, fin3, pk]
 all_goals simp only [qat0, mat0, qat1, mat1, rg0, hk, Zv, ZW, Z7, ZG, ZH, Zx, Zz, ZaE, ZaG, ZaF, Zu, ZaW, Zl, Zfc, ZJ, ZaZ]
 all_goals generalize Za s = bi
 all_goals generalize (s == 5) = bs
 all_goals cases g with
 | nil => cases bi <;> cases bs <;> simp [Zmo, Zbp, pcOf, spOf, ZbI]
 | cons o t =>
  simp only [List.getD_cons_zero] at hk
  simp only [len0, List.getD_cons_zero, ZfZ, hk, ZbT, ZaZ, ZJ, ZeC, bne]
  generalize Zb c.1 o = i at hk ⊢
  generalize (i.2.2.2.2.1 == 3) = b0
  cases b0 <;> cases bi <;> cases bs <;> simp [Zbq, ZbI, popX, pcOf, spOf, opC, Zgf, Zdd, ZaR, ZfY, Zby, setI, R.get]
theorem nx_1 (c) (s : Int) (g : List Int) (n : Int) (hk : (Zb c.1 (g.getD 0 0)).1 = n) : (n = 1 → (Zqu c s g).val = some (Zl c s g)) ∧ (n = 7 → (Zqo c s g).val = some (Zl c s g)) ∧ (n = 11 → (ZlN c s g).val = some (Zl c s g)) ∧ (n = 18 → (ZlG c s g).val = some (Zl c s g)) ∧ (n = 22 → (ZlC c s g).val = some (Zl c s g)) ∧ (n = 29 → (Zlv c s g).val = some (Zl c s g)) ∧ (n = 35 → (Zlp c s g).val = some (Zl c s g)) ∧ (n = 40 → (Zlk c s g).val = some (Zl c s g)) ∧ (n = 44 → (Zlg c s g).val = some (Zl c s g)) ∧ (n = 1 → (Zpb c s g).val = some (Zl c s g)) ∧ (n = 7 → (Zo5 c s g).val = some (Zl c s g)) ∧ (n = 11 → (ZkJ c s g).val = some (Zl c s g)) ∧ (n = 18 → (ZkC c s g).val = some (Zl c s g)) ∧ (n = 22 → (Zky c s g).val = some (Zl c s g)) ∧ (n = 29 → (Zkr c s g).val = some (Zl c s g)) ∧ (n = 35 → (Zkl c s g).val = some (Zl c s g)) ∧ (n = 40 → (Zkg c s g).val = some (Zl c s g)) ∧ (n = 44 → (Zkc c s g).val = some (Zl c s g)) := by
 refine ⟨?_, ?_, ?_, ?_, ?_, ?_, ?_, ?_, ?_, ?_, ?_, ?_, ?_, ?_, ?_, ?_, ?_, ?_⟩
 all_goals intro e; subst e
 all_goals simp only [Zqu, Zqo, ZlN, ZlG, ZlC, Zlv, Zlp, Zlk, Zlg, Zpb, Zo5, ZkJ, ZkC, Zky, Zkr, Zkl, Zkg, Zkc, RT.val, fin3, pk]
 all_goals simp only [qat0, mat0, qat1, mat1, rg0, hk, Zv, ZW, Z7, ZG, ZH, Zx, Zz, ZaE, ZaG, ZaF, Zu, ZaW, Zl, Zfc, ZJ, ZaZ]
 all_goals generalize Za s = bi
 all_goals generalize (s == 5) = bs
 all_goals cases g with
 | nil => cases bi <;> cases bs <;> simp [Zmo, Zbp, pcOf, spOf, ZbI]
 | cons o t =>
  simp only [List.getD_cons_zero] at hk
  simp only [len0, List.getD_cons_zero, ZfZ, hk, ZbT, ZaZ, ZJ, ZeC, bne]
  generalize Zb c.1 o = i at hk ⊢
  cases bi <;> cases bs <;> simp [Zbq, ZbI, popX, pcOf, spOf, opC, Zgf, Zdd, ZaR, ZfY, Zby, setI, R.get]
theorem nx_3 (c) (s : Int) (g : List Int) (n : Int) (hk : (Zb c.1 (g.getD 0 0)).1 = n) : (n = 5 → (Zqq c s g).val = some (Zl c s g)) ∧ (n = 9 → (Zqm c s g).val = some (Zl c s g)) ∧ (n = 16 → (ZlI c s g).val = some (Zl c s g)) ∧ (n = 20 → (ZlE c s g).val = some (Zl c s g)) ∧ (n = 27 → (Zlx c s g).val = some (Zl c s g)) ∧ (n = 33 → (Zlr c s g).val = some (Zl c s g)) ∧ (n = 38 → (Zlm c s g).val = some (Zl c s g)) ∧ (n = 42 → (Zli c s g).val = some (Zl c s g)) ∧ (n = 47 → (Zld c s g).val = some (Zl c s g)) ∧ (n = 5 → (Zo7 c s g).val = some (Zl c s g)) ∧ (n = 9 → (Zo3 c s g).val = some (Zl c s g)) ∧ (n = 16 → (ZkE c s g).val = some (Zl c s g)) ∧ (n = 20 → (ZkA c s g).val = some (Zl c s g)) ∧ (n = 27 → (Zkt c s g).val = some (Zl c s g)) ∧ (n = 33 → (Zkn c s g).val = some (Zl c s g)) ∧ (n = 38 → (Zki c s g).val = some (Zl c s g)) ∧ (n = 42 → (Zke c s g).val = some (Zl c s g)) ∧ (n = 47 → (Zj9 c s g).val = some (Zl c s g)) := by
 refine ⟨?_, ?_, ?_, ?_, ?_, ?_, ?_, ?_, ?_, ?_, ?_, ?_, ?_, ?_, ?_, ?_, ?_, ?_⟩
 all_goals intro e; subst e
 all_goals simp only [Zqq, Zqm, ZlI, ZlE, Zlx, Zlr, Zlm, Zli, Zld, Zo7, Zo3, ZkE, ZkA, Zkt, Zkn, Zki, Zke, Zj9, RT.val, fin3, pk]
 all_goals simp only [qat0, mat0, qat1, mat1, rg0, hk, Zv, ZW, Z7, ZG, ZH, Zx, Zz, ZaE, ZaG, ZaF, Zu, ZaW, Zl, Zfc, ZJ, ZaZ]
 all_goals generalize Za s = bi
 all_goals generalize (s == 5) = bs
 all_goals cases g with
 | nil => cases bi <;> cases bs <;> simp [Zmo, Zbp, pcOf, spOf, ZbI]
 | cons o t =>
  simp only [List.getD_cons_zero] at hk
  simp only [len0, List.getD_cons_zero, ZfZ, hk, ZbT, ZaZ, ZJ, ZeC, bne]
  generalize Zb c.1 o = i at hk ⊢
  cases bi <;> cases bs <;> simp [Zbq, ZbI, popX, pcOf, spOf, opC, Zgf, Zdd, ZaR, ZfY, Zby, setI, R.get]
theorem nx_5 (c) (s : Int) (g : List Int) (n : Int) (hk : (Zb c.1 (g.getD 0 0)).1 = n) : (n = 2 → (Zqt c s g).val = some (Zl c s g)) ∧ (n = 2 → (Zpa c s g).val = some (Zl c s g)) := by
 refine ⟨?_, ?_⟩
 all_goals intro e; subst e
 all_goals simp only [Zqt, Zpa, RT.val, fin3, pk]
 all_goals simp only [qat0, mat0, qat1, mat1, rg0, hk, Zv, ZW, Z7, ZG, ZH, Zx, Zz, ZaE, ZaG, ZaF, Zu, ZaW, Zl, Zfc, ZJ, ZaZ]
 all_goals generalize Za s = bi
 all_goals generalize (s == 5) = bs
 all_goals cases g with
 | nil => cases bi <;> cases bs <;> simp [Zmo, Zbp, pcOf, spOf, ZbI]
 | cons o t =>
  simp only [List.getD_cons_zero] at hk
  simp only [len0, List.getD_cons_zero, ZfZ, hk, ZbT, ZaZ, ZJ, ZeC, bne]
  generalize Zb c.1 o = i at hk ⊢
  generalize (i.2.2.2.1 == 6) = b0
  generalize (i.2.2.1 == 6) = b1
  cases b0 <;> cases b1 <;> cases bi <;> cases bs <;> simp [Zbq, ZbI, popX, pcOf, spOf, opC, Zgf, Zdd, ZaR, ZfY, Zby, setI, R.get]
theorem nx_7 (c) (s : Int) (g : List Int) (n : Int) (hk : (Zb c.1 (g.getD 0 0)).1 = n) : (n = 12 → (ZlM c s g).val = some (Zl c s g)) ∧ (n = 12 → (ZkI c s g).val = some (Zl c s g)) := by
 refine ⟨?_, ?_⟩
 all_goals intro e; subst e
 all_goals simp only [ZlM, ZkI, RT.val, fin3, pk]
 all_goals simp only [qat0, mat0, qat1, mat1, rg0, hk, Zv, ZW, Z7, ZG, ZH, Zx, Zz, ZaE, ZaG, ZaF, Zu, ZaW, Zl, Zfc, ZJ, ZaZ]
 all_goals generalize Za s = bi
 all_goals generalize (s == 5) = bs
 all_goals cases g with
 | nil => cases bi <;> cases bs <;> simp [Zmo, Zbp, pcOf, spOf, ZbI]
 | cons o t =>
  simp only [List.getD_cons_zero] at hk
  simp only [len0, List.getD_cons_zero, ZfZ, hk, ZbT, ZaZ, ZJ, ZeC, bne]
  generalize Zb c.1 o = i at hk ⊢
  generalize (i.2.2.2.1 == 6) = b0
  cases b0 <;> cases bi <;> cases bs <;> simp [Zbq, ZbI, popX, pcOf, spOf, opC, Zgf, Zdd, ZaR, ZfY, Zby, setI, R.get]
theorem nx_9 (c) (s : Int) (g : List Int) (n : Int) (hk : (Zb c.1 (g.getD 0 0)).1 = n) : (n = 26 → (Zly c s g).val = some (Zl c s g)) ∧ (n = 45 → (Zlf c s g).val = some (Zl c s g)) ∧ (n = 26 → (Zku c s g).val = some (Zl c s g)) ∧ (n = 45 → (Zkb c s g).val = some (Zl c s g)) := by
 refine ⟨?_, ?_, ?_, ?_⟩
 all_goals intro e; subst e
 all_goals simp only [Zly, Zlf, Zku, Zkb, RT.val, fin3, pk]
 all_goals simp only [qat0, mat0, qat1, mat1, rg0, hk, Zv, ZW, Z7, ZG, ZH, Zx, Zz, ZaE, ZaG, ZaF, Zu, ZaW, Zl, Zfc, ZJ, ZaZ]
 all_goals generalize Za s = bi
 all_goals generalize (s == 5) = bs
 all_goals cases g with
 | nil => cases bi <;> cases bs <;> simp [Zmo, Zbp, pcOf, spOf, ZbI]
 | cons o t =>
  simp only [List.getD_cons_zero] at hk
  simp only [len0, List.getD_cons_zero, ZfZ, hk, ZbT, ZaZ, ZJ, ZeC, bne]
  generalize Zb c.1 o = i at hk ⊢
  generalize ZdG _ _ = b0
  cases b0 <;> cases bi <;> cases bs <;> simp [Zbq, ZbI, popX, pcOf, spOf, opC, Zgf, Zdd, ZaR, ZfY, Zby, setI, R.get]
theorem ZK3 (c) (s : Int) (g : List Int) (n : Int) (hk : (Zb c.1 (g.getD 0 0)).1 = n) : (n = 32 → (Zls c s g).val = some (Zl c s g)) ∧ (n = 37 → (Zln c s g).val = some (Zl c s g)) ∧ (n = 32 → (Zko c s g).val = some (Zl c s g)) ∧ (n = 37 → (Zkj c s g).val = some (Zl c s g)) := by
 refine ⟨?_, ?_, ?_, ?_⟩
 all_goals intro e; subst e
 all_goals simp only [Zls, Zln, Zko, Zkj, RT.val, fin3, pk]
 all_goals simp only [qat0, mat0, qat1, mat1, rg0, hk, Zv, ZW, Z7, ZG, ZH, Zx, Zz, ZaE, ZaG, ZaF, Zu, ZaW, Zl, Zfc, ZJ, ZaZ]
 all_goals generalize Za s = bi
 all_goals generalize (s == 5) = bs
 all_goals cases g with
 | nil => cases bi <;> cases bs <;> simp [Zmo, Zbp, pcOf, spOf, ZbI]
 | cons o t =>
  simp only [List.getD_cons_zero] at hk
  simp only [len0, List.getD_cons_zero, ZfZ, hk, ZbT, ZaZ, ZJ, ZeC, bne]
  generalize Zb c.1 o = i at hk ⊢
  generalize (c.1 == 2) = b0
  cases b0 <;> cases bi <;> cases bs <;> simp [Zbq, ZbI, popX, pcOf, spOf, opC, Zgf, Zdd, ZaR, ZfY, Zby, setI, R.get]
theorem ZKK (a : HL Zj) (h : okHL Zj a) : ∃ l, ZcN Tryz.prog l ∧ (Zg (envX Tryz.prog l [] 1125900980585471 8) Tryz.f113 Zj ZF a).val = some (Zl a.1 a.2.1 a.2.2) := by
 have hk := ZrI a.1.1 _ (ZrN h.2.2)
 refine ⟨Z2 (Zb a.1.1 (a.2.2.getD 0 0)).1, ZGV _, ?_⟩
 rcases ZrH hk.1 hk.2 with e | e | e | e | e | e | e | e | e | e | e | e | e | e | e | e | e | e | e | e | e | e | e | e | e | e | e | e | e | e | e | e | e | e | e | e | e | e | e | e | e | e | e | e | e | e | e
 ·rw [e, ZCx a, ((nx_1 a.1 a.2.1 a.2.2 _ e).1 rfl)]
 ·rw [e, ZCw a, ((nx_5 a.1 a.2.1 a.2.2 _ e).1 rfl)]
 ·rw [e, ZCv a, ((nx_6 a.1 a.2.1 a.2.2 _ e).1 rfl)]
 ·rw [e, ZCu a, ((nx_2 a.1 a.2.1 a.2.2 _ e).1 rfl)]
 ·rw [e, ZCt a, ((nx_3 a.1 a.2.1 a.2.2 _ e).1 rfl)]
 ·rw [e, ZCs a, ((nx_4 a.1 a.2.1 a.2.2 _ e).1 rfl)]
 ·rw [e, ZCr a, ((nx_1 a.1 a.2.1 a.2.2 _ e).2.1 rfl)]
 ·rw [e, ZCq a, ((nx_2 a.1 a.2.1 a.2.2 _ e).2.1 rfl)]
 ·rw [e, ZCp a, ((nx_3 a.1 a.2.1 a.2.2 _ e).2.1 rfl)]
 ·rw [e, Zxc a, ((nx_4 a.1 a.2.1 a.2.2 _ e).2.1 rfl)]
 ·rw [e, Zxb a, ((nx_1 a.1 a.2.1 a.2.2 _ e).2.2.1 rfl)]
 ·rw [e, Zxa a, ((nx_7 a.1 a.2.1 a.2.2 _ e).1 rfl)]
 ·rw [e, Zw9 a, ((nx_2 a.1 a.2.1 a.2.2 _ e).2.2.1 rfl)]
 ·rw [e, Zw8 a, ((nx_6 a.1 a.2.1 a.2.2 _ e).2.1 rfl)]
 ·rw [e, Zw7 a, ((nx_6 a.1 a.2.1 a.2.2 _ e).2.2.1 rfl)]
 ·rw [e, Zw6 a, ((nx_3 a.1 a.2.1 a.2.2 _ e).2.2.1 rfl)]
 ·rw [e, Zw5 a, ((nx_4 a.1 a.2.1 a.2.2 _ e).2.2.1 rfl)]
 ·rw [e, Zw4 a, ((nx_1 a.1 a.2.1 a.2.2 _ e).2.2.2.1 rfl)]
 ·rw [e, Zw3 a, ((nx_2 a.1 a.2.1 a.2.2 _ e).2.2.2.1 rfl)]
 ·rw [e, Zw2 a, ((nx_3 a.1 a.2.1 a.2.2 _ e).2.2.2.1 rfl)]
 ·rw [e, Zw1 a, ((nx_4 a.1 a.2.1 a.2.2 _ e).2.2.2.1 rfl)]
 ·rw [e, Zw0 a, ((nx_1 a.1 a.2.1 a.2.2 _ e).2.2.2.2.1 rfl)]
 ·rw [e, ZwZ a, ((nx_2 a.1 a.2.1 a.2.2 _ e).2.2.2.2.1 rfl)]
 ·rw [e, ZwY a, ((nx_8 a.1 a.2.1 a.2.2 _ e).1 rfl)]
 ·rw [e, ZwX a, ((nx_8 a.1 a.2.1 a.2.2 _ e).2.1 rfl)]
 ·rw [e, ZwW a, ((nx_9 a.1 a.2.1 a.2.2 _ e).1 rfl)]
 ·rw [e, ZwV a, ((nx_3 a.1 a.2.1 a.2.2 _ e).2.2.2.2.1 rfl)]
 ·rw [e, ZwU a, ((nx_4 a.1 a.2.1 a.2.2 _ e).2.2.2.2.1 rfl)]
 ·rw [e, ZwT a, ((nx_1 a.1 a.2.1 a.2.2 _ e).2.2.2.2.2.1 rfl)]
 ·rw [e, ZwS a, ((ZQC a.1 a.2.1 a.2.2 _ e).1 rfl)]
 ·rw [e, ZwR a, ((nx_2 a.1 a.2.1 a.2.2 _ e).2.2.2.2.2.1 rfl)]
 ·rw [e, ZwQ a, ((ZK3 a.1 a.2.1 a.2.2 _ e).1 rfl)]
 ·rw [e, ZwP a, ((nx_3 a.1 a.2.1 a.2.2 _ e).2.2.2.2.2.1 rfl)]
 ·rw [e, ZwO a, ((nx_4 a.1 a.2.1 a.2.2 _ e).2.2.2.2.2.1 rfl)]
 ·rw [e, ZwN a, ((nx_1 a.1 a.2.1 a.2.2 _ e).2.2.2.2.2.2.1 rfl)]
 ·rw [e, ZwM a, ((nx_2 a.1 a.2.1 a.2.2 _ e).2.2.2.2.2.2.1 rfl)]
 ·rw [e, ZwL a, ((ZK3 a.1 a.2.1 a.2.2 _ e).2.1 rfl)]
 ·rw [e, ZwK a, ((nx_3 a.1 a.2.1 a.2.2 _ e).2.2.2.2.2.2.1 rfl)]
 ·rw [e, ZwJ a, ((nx_4 a.1 a.2.1 a.2.2 _ e).2.2.2.2.2.2.1 rfl)]
 ·rw [e, ZwI a, ((nx_1 a.1 a.2.1 a.2.2 _ e).2.2.2.2.2.2.2.1 rfl)]
 ·rw [e, ZwH a, ((nx_2 a.1 a.2.1 a.2.2 _ e).2.2.2.2.2.2.2.1 rfl)]
 ·rw [e, ZwG a, ((nx_3 a.1 a.2.1 a.2.2 _ e).2.2.2.2.2.2.2.1 rfl)]
 ·rw [e, ZwF a, ((nx_4 a.1 a.2.1 a.2.2 _ e).2.2.2.2.2.2.2.1 rfl)]
 ·rw [e, ZwE a, ((nx_1 a.1 a.2.1 a.2.2 _ e).2.2.2.2.2.2.2.2.1 rfl)]
 ·rw [e, ZwD a, ((nx_9 a.1 a.2.1 a.2.2 _ e).2.1 rfl)]
 ·rw [e, ZwC a, ((nx_2 a.1 a.2.1 a.2.2 _ e).2.2.2.2.2.2.2.2.1 rfl)]
 ·rw [e, ZwB a, ((nx_3 a.1 a.2.1 a.2.2 _ e).2.2.2.2.2.2.2.2.1 rfl)]
def Zg2 : Entry := Zk Zj ZF (fun _ => none) (fun a => Zl a.1 a.2.1 a.2.2)
theorem Zjr : Zc Tryz.prog 113 Zg2 := Zjm Tryz.func113 rfl (by kernel_rfl) Tryz.call113 fun a h _ => ZKK a h
theorem ZJ9 (a : HL Zi) (h : okHL Zi a) : ∃ l, ZcN Tryz.prog l ∧ (Zg (envX Tryz.prog l [] 2047 8) Tryz.f42 Zi ZE a).val = some (Zl a.1 a.2.1 a.2.2) := by
 have hk := ZrI a.1.1 _ (ZrN h.2.2)
 refine ⟨Z0 (Zb a.1.1 (a.2.2.getD 0 0)).1, ZFl _, ?_⟩
 rcases ZrH hk.1 hk.2 with e | e | e | e | e | e | e | e | e | e | e | e | e | e | e | e | e | e | e | e | e | e | e | e | e | e | e | e | e | e | e | e | e | e | e | e | e | e | e | e | e | e | e | e | e | e | e
 ·rw [e, ZBr a, ((nx_1 a.1 a.2.1 a.2.2 _ e).2.2.2.2.2.2.2.2.2.1 rfl)]
 ·rw [e, ZBq a, ((nx_5 a.1 a.2.1 a.2.2 _ e).2 rfl)]
 ·rw [e, ZBp a, ((nx_6 a.1 a.2.1 a.2.2 _ e).2.2.2.1 rfl)]
 ·rw [e, ZBo a, ((nx_2 a.1 a.2.1 a.2.2 _ e).2.2.2.2.2.2.2.2.2.1 rfl)]
 ·rw [e, ZBn a, ((nx_3 a.1 a.2.1 a.2.2 _ e).2.2.2.2.2.2.2.2.2.1 rfl)]
 ·rw [e, ZBm a, ((nx_4 a.1 a.2.1 a.2.2 _ e).2.2.2.2.2.2.2.2.1 rfl)]
 ·rw [e, ZBl a, ((nx_1 a.1 a.2.1 a.2.2 _ e).2.2.2.2.2.2.2.2.2.2.1 rfl)]
 ·rw [e, ZBk a, ((nx_2 a.1 a.2.1 a.2.2 _ e).2.2.2.2.2.2.2.2.2.2.1 rfl)]
 ·rw [e, ZBj a, ((nx_3 a.1 a.2.1 a.2.2 _ e).2.2.2.2.2.2.2.2.2.2.1 rfl)]
 ·rw [e, ZvO a, ((nx_4 a.1 a.2.1 a.2.2 _ e).2.2.2.2.2.2.2.2.2.1 rfl)]
 ·rw [e, ZvN a, ((nx_1 a.1 a.2.1 a.2.2 _ e).2.2.2.2.2.2.2.2.2.2.2.1 rfl)]
 ·rw [e, ZvM a, ((nx_7 a.1 a.2.1 a.2.2 _ e).2 rfl)]
 ·rw [e, ZvL a, ((nx_2 a.1 a.2.1 a.2.2 _ e).2.2.2.2.2.2.2.2.2.2.2.1 rfl)]
 ·rw [e, ZvK a, ((nx_6 a.1 a.2.1 a.2.2 _ e).2.2.2.2.1 rfl)]
 ·rw [e, ZvJ a, ((nx_6 a.1 a.2.1 a.2.2 _ e).2.2.2.2.2 rfl)]
 ·rw [e, ZvI a, ((nx_3 a.1 a.2.1 a.2.2 _ e).2.2.2.2.2.2.2.2.2.2.2.1 rfl)]
 ·rw [e, ZvH a, ((nx_4 a.1 a.2.1 a.2.2 _ e).2.2.2.2.2.2.2.2.2.2.1 rfl)]
 ·rw [e, ZvG a, ((nx_1 a.1 a.2.1 a.2.2 _ e).2.2.2.2.2.2.2.2.2.2.2.2.1 rfl)]
 ·rw [e, ZvF a, ((nx_2 a.1 a.2.1 a.2.2 _ e).2.2.2.2.2.2.2.2.2.2.2.2.1 rfl)]
 ·rw [e, ZvE a, ((nx_3 a.1 a.2.1 a.2.2 _ e).2.2.2.2.2.2.2.2.2.2.2.2.1 rfl)]
 ·rw [e, ZvD a, ((nx_4 a.1 a.2.1 a.2.2 _ e).2.2.2.2.2.2.2.2.2.2.2.1 rfl)]
 ·rw [e, ZvC a, ((nx_1 a.1 a.2.1 a.2.2 _ e).2.2.2.2.2.2.2.2.2.2.2.2.2.1 rfl)]
 ·rw [e, ZvB a, ((nx_2 a.1 a.2.1 a.2.2 _ e).2.2.2.2.2.2.2.2.2.2.2.2.2.1 rfl)]
 ·rw [e, ZvA a, ((nx_8 a.1 a.2.1 a.2.2 _ e).2.2.1 rfl)]
 ·rw [e, Zvz a, ((nx_8 a.1 a.2.1 a.2.2 _ e).2.2.2 rfl)]
 ·rw [e, Zvy a, ((nx_9 a.1 a.2.1 a.2.2 _ e).2.2.1 rfl)]
 ·rw [e, Zvx a, ((nx_3 a.1 a.2.1 a.2.2 _ e).2.2.2.2.2.2.2.2.2.2.2.2.2.1 rfl)]
 ·rw [e, Zvw a, ((nx_4 a.1 a.2.1 a.2.2 _ e).2.2.2.2.2.2.2.2.2.2.2.2.1 rfl)]
 ·rw [e, Zvv a, ((nx_1 a.1 a.2.1 a.2.2 _ e).2.2.2.2.2.2.2.2.2.2.2.2.2.2.1 rfl)]
 ·rw [e, Zvu a, ((ZQC a.1 a.2.1 a.2.2 _ e).2 rfl)]
 ·rw [e, Zvt a, ((nx_2 a.1 a.2.1 a.2.2 _ e).2.2.2.2.2.2.2.2.2.2.2.2.2.2.1 rfl)]
 ·rw [e, Zvs a, ((ZK3 a.1 a.2.1 a.2.2 _ e).2.2.1 rfl)]
 ·rw [e, Zvr a, ((nx_3 a.1 a.2.1 a.2.2 _ e).2.2.2.2.2.2.2.2.2.2.2.2.2.2.1 rfl)]
 ·rw [e, Zvq a, ((nx_4 a.1 a.2.1 a.2.2 _ e).2.2.2.2.2.2.2.2.2.2.2.2.2.1 rfl)]
 ·rw [e, Zvp a, ((nx_1 a.1 a.2.1 a.2.2 _ e).2.2.2.2.2.2.2.2.2.2.2.2.2.2.2.1 rfl)]
 ·rw [e, Zvo a, ((nx_2 a.1 a.2.1 a.2.2 _ e).2.2.2.2.2.2.2.2.2.2.2.2.2.2.2.1 rfl)]
 ·rw [e, Zvn a, ((ZK3 a.1 a.2.1 a.2.2 _ e).2.2.2 rfl)]
 ·rw [e, Zvm a, ((nx_3 a.1 a.2.1 a.2.2 _ e).2.2.2.2.2.2.2.2.2.2.2.2.2.2.2.1 rfl)]
 ·rw [e, Zvl a, ((nx_4 a.1 a.2.1 a.2.2 _ e).2.2.2.2.2.2.2.2.2.2.2.2.2.2.1 rfl)]
 ·rw [e, Zvk a, ((nx_1 a.1 a.2.1 a.2.2 _ e).2.2.2.2.2.2.2.2.2.2.2.2.2.2.2.2.1 rfl)]
 ·rw [e, Zvj a, ((nx_2 a.1 a.2.1 a.2.2 _ e).2.2.2.2.2.2.2.2.2.2.2.2.2.2.2.2.1 rfl)]
 ·rw [e, Zvi a, ((nx_3 a.1 a.2.1 a.2.2 _ e).2.2.2.2.2.2.2.2.2.2.2.2.2.2.2.2.1 rfl)]
 ·rw [e, Zvh a, ((nx_4 a.1 a.2.1 a.2.2 _ e).2.2.2.2.2.2.2.2.2.2.2.2.2.2.2 rfl)]
 ·rw [e, Zvg a, ((nx_1 a.1 a.2.1 a.2.2 _ e).2.2.2.2.2.2.2.2.2.2.2.2.2.2.2.2.2 rfl)]
 ·rw [e, Zvf a, ((nx_9 a.1 a.2.1 a.2.2 _ e).2.2.2 rfl)]
 ·rw [e, Zve a, ((nx_2 a.1 a.2.1 a.2.2 _ e).2.2.2.2.2.2.2.2.2.2.2.2.2.2.2.2.2 rfl)]
 ·rw [e, Zvd a, ((nx_3 a.1 a.2.1 a.2.2 _ e).2.2.2.2.2.2.2.2.2.2.2.2.2.2.2.2.2 rfl)]
def Zzg : Entry := Zk Zi ZE (fun _ => none) (fun a => Zl a.1 a.2.1 a.2.2)
theorem Zzf : Zc Tryz.prog 42 Zzg := Zjm Tryz.func42 rfl (by kernel_rfl) Tryz.call42 fun a h _ => ZJ9 a h
def wPC (r : RegT) (v : Int) : RegT := (r.1, r.2.1, r.2.2.1, r.2.2.2.1, r.2.2.2.2.1, r.2.2.2.2.2.1, r.2.2.2.2.2.2.1, r.2.2.2.2.2.2.2.1, r.2.2.2.2.2.2.2.2.1, v)
def wSP (r : RegT) (v : Int) : RegT := (r.1, r.2.1, r.2.2.1, r.2.2.2.1, r.2.2.2.2.1, r.2.2.2.2.2.1, r.2.2.2.2.2.2.1, r.2.2.2.2.2.2.2.1, v, r.2.2.2.2.2.2.2.2.2)
def wA (r : RegT) (v : Int) : RegT := (v, r.2)
def wF (r : RegT) (f : FlgT) : RegT := (r.1, r.2.1, r.2.2.1, r.2.2.2.1, r.2.2.2.2.1, r.2.2.2.2.2.1, r.2.2.2.2.2.2.1, f, r.2.2.2.2.2.2.2.2)
def fCY (f : FlgT) (b : Bool) : FlgT := (f.1, f.2.1, f.2.2.1, f.2.2.2.1, f.2.2.2.2.1, f.2.2.2.2.2.1, b)
def fVCY (f : FlgT) (v b : Bool) : FlgT := (f.1, f.2.1, f.2.2.1, f.2.2.2.1, f.2.2.2.2.1, v, b)
def Zcn (r : RegT) : Int := r.2.2.2.2.2.2.2.2.1
def flOf (r : RegT) : FlgT := r.2.2.2.2.2.2.2.1
def finR (c : CpuT) (r r0 : RegT) (g : List Int) (i : InsT) : RegT :=
 let dst := i.2.2.1
 let src := i.2.2.2.1
 let pr := i.2.2.2.2.1
 let op := i.2.2.2.2.2.1
 let g1 := g.getD 1 0
 let tk := ZdG i.2.2.2.2.2.2.1 (flOf r)
 bif i.1 == 2 then rSet r0 dst (bif src == 6 then g1 else rGet r src) else
 bif i.1 == 3 then rSet r0 dst g1 else
 bif i.1 == 4 then Zr r0 pr (ZaR g 1) else
 bif i.1 == 5 then wA r0 (g.getD 3 0) else
 bif i.1 == 7 then Zr r0 2 (ZaR g 3) else
 bif i.1 == 9 then wA r0 g1 else
 bif i.1 == 11 then (r0.1, r0.2.1, r0.2.2.1, r0.2.2.2.2.2.1, r0.2.2.2.2.2.2.1, r0.2.2.2.1, r0.2.2.2.2.1, r0.2.2.2.2.2.2.2) else
 bif i.1 == 12 then (let q := rDo c.1 op r.1 (bif src == 6 then g1 else rGet r src) (flOf r); wA (wF r0 q.2) q.1) else
 bif i.1 == 13 then (let q := rDo c.1 op r.1 g1 (flOf r); wA (wF r0 q.2) q.1) else
 bif i.1 == 14 then (let q := rInr c.1 (bif dst == 6 then g1 else rGet r dst) (flOf r); rSet (wF r0 q.2) dst q.1) else
 bif i.1 == 15 then (let q := rDcr c.1 (bif dst == 6 then g1 else rGet r dst) (flOf r); rSet (wF r0 q.2) dst q.1) else
 bif i.1 == 16 then (let q := rInx c.1 (Zac r pr) (flOf r); Zr (wF r0 q.2) pr q.1) else
 bif i.1 == 17 then (let q := rDcx c.1 (Zac r pr) (flOf r); Zr (wF r0 q.2) pr q.1) else
 bif i.1 == 18 then (let q := rDad c.1 (Zac r 2) (Zac r pr) (flOf r); Zr (wF r0 q.2) 2 q.1) else
 bif i.1 == 19 then (let q := rDaa c.1 r.1 (flOf r); wA (wF r0 q.2) q.1) else
 bif i.1 == 20 then wA r0 (notI .u8 r.1) else
 bif i.1 == 21 then wF r0 (fCY (flOf r) true) else
 bif i.1 == 22 then wF r0 (fCY (flOf r) (!(flOf r).2.2.2.2.2.2)) else
 bif i.1 == 23 then (let q := rRot op r.1 (flOf r).2.2.2.2.2.2; wA (wF r0 (fCY (flOf r) q.2)) q.1) else
 bif i.1 == 24 then (bif tk then wPC r0 (ZaR g 1) else r0) else
 bif i.1 == 25 then (bif tk then wPC (wSP r0 (IntKind.wrap .u16 (Zcn r - 2))) (ZaR g 1) else r0) else
 bif i.1 == 26 then (bif tk then wPC (wSP r0 (IntKind.wrap .u16 (Zcn r + 2))) (ZaR g 1) else r0) else
 bif i.1 == 27 then wPC (wSP r0 (IntKind.wrap .u16 (Zcn r - 2))) (IntKind.wrap .u16 (IntKind.wrap .i64 (8 * i.2.2.2.2.2.2.2))) else
 bif i.1 == 28 then wPC r0 (Zac r 2) else
 bif i.1 == 29 then wSP r0 (Zac r 2) else
 bif i.1 == 30 then wSP r0 (IntKind.wrap .u16 (Zcn r - 2)) else
 bif i.1 == 31 then (let q := bif pr == 3 then Ze2 c.1 r0 (ZaR g 1) else Zr r0 pr (ZaR g 1); wSP q (IntKind.wrap .u16 (Zcn q + 2))) else
 bif i.1 == 32 then Zr r0 2 (ZaR g 1) else
 bif i.1 == 33 then wA r0 (g.getD 2 0) else
 bif i.1 == 40 then (let q := Zs2 (Zac r 2) (Zac r 0); Zr (wF r0 q.2) 2 q.1) else
 bif i.1 == 41 then (let q := ZpW (Zac r 2); Zr (wF r0 (fCY (flOf r) q.2)) 2 q.1) else
 bif i.1 == 42 then (let q := ZsP (Zac r 1) (flOf r).2.2.2.2.2.2; Zr (wF r0 (fVCY (flOf r) q.2.2 q.2.1)) 1 q.1) else
 bif i.1 == 43 then Zr r0 1 (IntKind.wrap .u16 (Zac r 2 + IntKind.wrap .u16 g1)) else
 bif i.1 == 44 then Zr r0 1 (IntKind.wrap .u16 (Zcn r + IntKind.wrap .u16 g1)) else
 bif i.1 == 45 then (bif tk then wPC (wSP r0 (IntKind.wrap .u16 (Zcn r - 2))) 64 else r0) else
 bif i.1 == 47 then Zr r0 2 (ZaR g 1) else
 r0
def finI (c : CpuT) (inj : Bool) (g : List Int) (l : QT0) (i : InsT) : CpuT :=
 let r0 := wPC c.2.1 (ZJ c inj i)
 let d : CpuT := (c.1, r0, c.2.2.1, false, false, c.2.2.2.2.2)
 bif i.1 == 38 then (let q := rRim d l; (q.2.1, wA q.2.2.1 q.1, q.2.2.2)) else
 bif i.1 == 39 then rSim d c.2.1.1 else
 (c.1, finR c c.2.1 r0 g i, bif i.1 == 35 then true else bif i.1 == 36 then false else c.2.2.1, i.1 == 35, i.1 == 37, c.2.2.2.2.2)
def finX (c : CpuT) (s : Int) (g : List Int) (l : QT0) : CpuT :=
 bif Za s then (c.1, wPC (wSP c.2.1 (IntKind.wrap .u16 (spOf c - 2))) (Zh s), c.2.2)
 else finI c (s == 5) g l (Zb c.1 (g.getD 0 0))
theorem ZLY (c : CpuT) (l) : (rRim c l).2 = (c.1, c.2.1, c.2.2.1, c.2.2.2.1, c.2.2.2.2.1, c.2.2.2.2.2.1, c.2.2.2.2.2.2.1, c.2.2.2.2.2.2.2.1, c.2.2.2.2.2.2.2.2.1, c.2.2.2.2.2.2.2.2.2.1, false, false, c.2.2.2.2.2.2.2.2.2.2.2.2) := by
 have h3 : ∀ b, Zan b 3 = true := fun b => by cases b <;> rfl
 have h4 : ∀ b, Zan b 4 = true := fun b => by cases b <;> rfl
 have h5 : ∀ b, Zan b 5 = true := fun b => by cases b <;> rfl
 have h6 : ∀ b, Zan b 6 = true := fun b => by cases b <;> rfl
 have h7 : ∀ b, Zan b 7 = true := fun b => by cases b <;> rfl
 simp only [rRim, ZEY, RT.val, h3, h4, h5, h6, h7, Bool.not_true, Bool.false_or, cond_true, getO]
theorem ZbW (s) : Ze8 s = true ∧ ZgT s = bif (s.2.2.2.1.1 == 13 || s.2.2.2.1.2.2.2.1 == 6) then s.2.2.1.getD 1 0 else rGet s.1.2.1 s.2.2.2.1.2.2.2.1 := by
 simp only [Ze8, ZgT, ZgS, RT.val, qat1, Z7]
 cases (s.2.2.2.1.1 == 13 || s.2.2.2.1.2.2.2.1 == 6) <;> simp [okB, getO]
theorem ZeV (r : RegT) (f : FlgT) (pc n v : Int) : rSet (r.1, r.2.1, r.2.2.1, r.2.2.2.1, r.2.2.2.2.1, r.2.2.2.2.2.1, r.2.2.2.2.2.2.1, f, r.2.2.2.2.2.2.2.2.1, pc) n v =
  ((rSet r n v).1, (rSet r n v).2.1, (rSet r n v).2.2.1, (rSet r n v).2.2.2.1, (rSet r n v).2.2.2.2.1, (rSet r n v).2.2.2.2.2.1, (rSet r n v).2.2.2.2.2.2.1, f, (rSet r n v).2.2.2.2.2.2.2.2.1, pc) := rfl
theorem ZeX (r : RegT) (n v : Int) : (rSet r n v).2.2.2.2.2.2.2.1 = r.2.2.2.2.2.2.2.1 := rfl
theorem ZeW (r : RegT) (n v : Int) : (rSet r n v).2.2.2.2.2.2.2.2 = r.2.2.2.2.2.2.2.2 := rfl
theorem Zix (r : RegT) (f : FlgT) (pc n v : Int) : Zr (r.1, r.2.1, r.2.2.1, r.2.2.2.1, r.2.2.2.2.1, r.2.2.2.2.2.1, r.2.2.2.2.2.2.1, f, r.2.2.2.2.2.2.2.2.1, pc) n v =
  ((Zr r n v).1, (Zr r n v).2.1, (Zr r n v).2.2.1, (Zr r n v).2.2.2.1, (Zr r n v).2.2.2.2.1, (Zr r n v).2.2.2.2.2.1, (Zr r n v).2.2.2.2.2.2.1, f, (Zr r n v).2.2.2.2.2.2.2.2.1, pc) := by
 simp only [Zr, Ze0, RT.val]
 cases (andI i64 n 3 == 3) <;> rfl
theorem Ziy (r : RegT) (n v : Int) : (Zr r n v).2.2.2.2.2.2.2.1 = r.2.2.2.2.2.2.2.1 := by
 simp only [Zr, Ze0, RT.val]
 cases (andI i64 n 3 == 3) <;> rfl
theorem ZNB (r : RegT) (f : FlgT) (sp pc n : Int) : ZvT (r.1, r.2.1, r.2.2.1, r.2.2.2.1, r.2.2.2.2.1, r.2.2.2.2.2.1, r.2.2.2.2.2.2.1, f, sp, pc) n = ZvT r n := rfl
theorem ZdE (r : RegT) (f : FlgT) (pc n : Int) : Zac (r.1, r.2.1, r.2.2.1, r.2.2.2.1, r.2.2.2.2.1, r.2.2.2.2.2.1, r.2.2.2.2.2.2.1, f, r.2.2.2.2.2.2.2.2.1, pc) n = Zac r n := by
 simp only [Zac, ZnB, RT.val, rGet, ZvV, ZNB]
theorem bnat {x : Int} (h : inR .u8 x) : ∃ a : Nat, x = a ∧ a < 256 := by
 rw [Zf6] at h
 exact ⟨x.toNat, by omega, by omega⟩
theorem w16 {n : Nat} (h : n < 65536) : IntKind.wrap .u16 (n : Int) = n := ZjD ⟨by simp [IntKind.min, IntKind.signed], by simp [IntKind.max, IntKind.signed, IntKind.bits]; omega⟩
theorem ZAw {h l : Int} (hh : inR .u8 h) (hl : inR .u8 l) : Zcg h l = 256 * h + l := by
 obtain ⟨a, rfl, ha⟩ := bnat hh
 obtain ⟨b, rfl, hb⟩ := bnat hl
 have e1 : shlI .u16 (IntKind.wrap .u16 (a : Int)) 8 = ((a * 256 : Nat) : Int) := by
  rw [w16 (by omega)]
  simp only [shlI]
  have : ((a : Int) * 2 ^ min (8 : Int).toNat u16.bits) = ((a * 256 : Nat) : Int) := by simp [IntKind.bits]
  rw [this, w16 (by omega)]
 have e2 : (BitVec.ofInt u16.bits ((a * 256 : Nat) : Int) ||| BitVec.ofInt u16.bits (b : Int)).toNat = a * 256 + b := by
  rw [BitVec.toNat_or, BitVec.toNat_ofInt, BitVec.toNat_ofInt]
  have k1 : (((a * 256 : Nat) : Int) % ((2 ^ u16.bits : Nat) : Int)).toNat = a * 256 := by simp [IntKind.bits]; omega
  have k2 : ((b : Int) % ((2 ^ u16.bits : Nat) : Int)).toNat = b := by simp [IntKind.bits]; omega
  rw [k1, k2]
  have := Nat.shiftLeft_add_eq_or_of_lt (i := 8) (b := b) (by omega) a
  rw [Nat.shiftLeft_eq] at this
  exact this.symm
 show orI .u16 (shlI .u16 (IntKind.wrap .u16 (a : Int)) 8) (IntKind.wrap .u16 (b : Int)) = _
 rw [e1, w16 (by omega)]
 simp only [orI]
 rw [e2, w16 (by omega)]
 omega
theorem ZO9 {h l : Int} (hh : inR .u8 h) (hl : inR .u8 l) : IntKind.wrap .u8 (Zcg h l) = l := by
 rw [ZAw hh hl]
 rw [Zf6] at hl
 simp [IntKind.wrap, IntKind.signed, IntKind.bits]; omega
theorem ZPa {h l : Int} (hh : inR .u8 h) (hl : inR .u8 l) : IntKind.wrap .u8 (shrI .u16 (Zcg h l) 8) = h := by
 rw [ZAw hh hl]
 rw [Zf6] at hl hh
 have : shrI .u16 (256 * h + l) 8 = h := by
  simp only [shrI]
  have : ((2 : Int) ^ min (8 : Int).toNat u16.bits) = 256 := by decide
  rw [this, Int.fdiv_eq_ediv_of_nonneg _ (by decide)]; omega
 rw [this]
 simp [IntKind.wrap, IntKind.signed, IntKind.bits]; omega
theorem ZdD (r : RegT) {h l : Int} (hh : inR .u8 h) (hl : inR .u8 l) : Zr r 2 (Zcg h l) = (r.1, r.2.1, r.2.2.1, r.2.2.2.1, r.2.2.2.2.1, h, l, r.2.2.2.2.2.2.2) := by
 have e : Zr r 2 (Zcg h l) = (r.1, r.2.1, r.2.2.1, r.2.2.2.1, r.2.2.2.2.1, IntKind.wrap .u8 (shrI .u16 (Zcg h l) 8), IntKind.wrap .u8 (Zcg h l), r.2.2.2.2.2.2.2) := by
  generalize Zcg h l = v
  rfl
 rw [e, ZO9 hh hl, ZPa hh hl]
theorem ZiD (x : Int) : IntKind.wrap .u8 (255 - x) = notI .u8 x := by
 have e : notI .u8 x = IntKind.wrap .u8 ((~~~ (BitVec.ofInt 8 x)).toNat : Int) := by
  show IntKind.wrap .u8 (((BitVec.ofInt 8 255) ^^^ (BitVec.ofInt 8 x)).toNat : Int) = _
  have : BitVec.ofInt 8 255 = BitVec.allOnes 8 := by decide
  rw [this, BitVec.allOnes_xor]
 have h1 : (BitVec.ofInt 8 x).toNat = (x % 256).toNat := BitVec.toNat_ofInt ..
 have h2 : ((x % 256).toNat : Int) = x % 256 := by omega
 rw [e, BitVec.toNat_not, h1]
 have h3 : ((2 ^ 8 - 1 - (x % 256).toNat : Nat) : Int) = 255 - x % 256 := by omega
 rw [h3]
 simp [IntKind.wrap, IntKind.signed, IntKind.bits]
def ZcY (k : Int) : Entry := .tree (ZN (envX Tryz.prog [(182, Ztt k), (222, qAtE)] [] 255 8) Tryz.f178)
theorem ZeG (k : Int) : Zc Tryz.prog 178 (ZcY k) := Zaa (P := Tryz.prog) (n := 255) (k := 8) (l := [(182, Ztt k), (222, qAtE)]) (ol := []) ⟨(Zz6 k), ZgX, trivial⟩ Tryz.func178 rfl (by kernel_rfl) Tryz.call178 trivial
def ZbK : Entry := .tree (ZN (envX Tryz.prog [(222, qAtE), (232, Zs6), (268, Ztk), (269, ZbD), (270, ZkW)] [] 2597417327555236063515274458956831 8) Tryz.f224)
theorem ZeH : Zc Tryz.prog 224 ZbK := Zaa (P := Tryz.prog) (n := 2597417327555236063515274458956831) (k := 8) (l := [(222, qAtE), (232, Zs6), (268, Ztk), (269, ZbD), (270, ZkW)]) (ol := []) ⟨ZgX, ZpY, ZzI, ZdH, ZpZ, trivial⟩ Tryz.func224 rfl (by kernel_rfl) Tryz.call224 trivial
def Zba : Entry := .tree (ZN (envX Tryz.prog [(222, qAtE), (231, Ze7), (232, Zs6), (268, Ztk), (269, ZbD), (271, ZOC), (272, ZkV), (273, ZzX), (274, Zz9), (275, ZG5), (276, ZHv), (277, ZHz), (278, ZHB), (279, ZGB)] [] 7069140681974987581262622498806463579024171163532525608263727578473562367 8) Tryz.f225)
theorem ZdR : Zc Tryz.prog 225 Zba := Zaa (P := Tryz.prog) (n := 7069140681974987581262622498806463579024171163532525608263727578473562367) (k := 8) (l := [(222, qAtE), (231, Ze7), (232, Zs6), (268, Ztk), (269, ZbD), (271, ZOC), (272, ZkV), (273, ZzX), (274, Zz9), (275, ZG5), (276, ZHv), (277, ZHz), (278, ZHB), (279, ZGB)]) (ol := []) ⟨ZgX, ZgR, ZpY, ZzI, ZdH, ZOB, Zwb, ZzW, Zz8, ZKL, ZKT, ZKV, ZKX, ZKA, trivial⟩ Tryz.func225 rfl (by kernel_rfl) Tryz.call225 trivial
def Za9 : Entry := .tree (ZN (envX Tryz.prog [(231, Ze7), (269, ZbD), (270, ZkW), (280, Zgi), (281, Zk8)] [] 1300629477622019213679053869679119 8) Tryz.f226)
theorem ZdQ : Zc Tryz.prog 226 Za9 := Zaa (P := Tryz.prog) (n := 1300629477622019213679053869679119) (k := 8) (l := [(231, Ze7), (269, ZbD), (270, ZkW), (280, Zgi), (281, Zk8)]) (ol := []) ⟨ZgR, ZdH, ZpZ, ZkS, Zwo, trivial⟩ Tryz.func226 rfl (by kernel_rfl) Tryz.call226 trivial
def Zbw : Entry := .tree (ZN (envX Tryz.prog [(222, qAtE), (231, Ze7), (269, ZbD), (283, Zxu), (284, Zxy), (285, Zwu)] [] 19808249554387950831669350527 8) Tryz.f229)
theorem Zeq : Zc Tryz.prog 229 Zbw := Zaa (P := Tryz.prog) (n := 19808249554387950831669350527) (k := 8) (l := [(222, qAtE), (231, Ze7), (269, ZbD), (283, Zxu), (284, Zxy), (285, Zwu)]) (ol := []) ⟨ZgX, ZgR, ZdH, ZHo, ZHD, ZGH, trivial⟩ Tryz.func229 rfl (by kernel_rfl) Tryz.call229 trivial
def Zcl : Entry := .tree (ZN (envX Tryz.prog [(223, ZgW), (224, ZbK), (225, Zba), (226, Za9), (227, ZGD), (228, ZGu), (229, Zbw)] [] 1299342484808491477133836286951679 8) Tryz.f179)
theorem Zd9 : Zc Tryz.prog 179 Zcl := Zaa (P := Tryz.prog) (n := 1299342484808491477133836286951679) (k := 8) (l := [(223, ZgW), (224, ZbK), (225, Zba), (226, Za9), (227, ZGD), (228, ZGu), (229, Zbw)]) (ol := []) ⟨ZnN, ZeH, ZdR, ZdQ, ZKC, ZKw, Zeq, trivial⟩ Tryz.func179 rfl (by kernel_rfl) Tryz.call179 trivial
abbrev Zo : List Sh := [Sh.agg Zaf, Sh.one (R.int i64), Sh.one (R.sl (R.int u8)), Sh.agg (R.pair R.bool (R.pair R.bool rcF7))]
abbrev Z3 : Rs := Rs.one (Sh.agg Zaf)
def Zay (k : Int) : List (FuncId × Entry) := [(176, ZhU), (177, Ztf), (178, ZcY k), (179, Zcl)]
theorem ZKP (k : Int) : ZcN Tryz.prog (Zay k) := ⟨ZiA, Zwk, (ZeG k), Zd9, trivial⟩
def Zbf : Entry := .tree (ZN (envX Tryz.prog [(157, ZfL), (165, Zmc), (169, Zgn)] [] 4722654783631989407807 8) Tryz.f154)
theorem Zcx : Zc Tryz.prog 154 Zbf := Zaa (P := Tryz.prog) (n := 4722654783631989407807) (k := 8) (l := [(157, ZfL), (165, Zmc), (169, Zgn)]) (ol := []) ⟨Zh4, Zrx, Zme, trivial⟩ Tryz.func154 rfl (by kernel_rfl) Tryz.call154 trivial
def Zbe : Entry := .tree (ZN (envX Tryz.prog [(153, mAtE), (158, Ze3), (163, ZkQ), (165, Zmc), (205, ZBc), (206, Ze1), (207, ZoO)] [] 89290093085330224515083647028849395745489151 8) Tryz.f155)
theorem Zcw : Zc Tryz.prog 155 Zbe := Zaa (P := Tryz.prog) (n := 89290093085330224515083647028849395745489151) (k := 8) (l := [(153, mAtE), (158, Ze3), (163, ZkQ), (165, Zmc), (205, ZBc), (206, Ze1), (207, ZoO)]) (ol := []) ⟨ZtY, ZgI, Zpg, Zrx, ZuW, Zj4, ZBb, trivial⟩ Tryz.func155 rfl (by kernel_rfl) Tryz.call155 trivial
def Za1 : Entry := .tree (ZN (envX Tryz.prog [(153, mAtE), (158, Ze3), (163, ZkQ), (166, ZeZ), (205, ZBc), (206, Ze1), (208, rDoE), (209, ZNQ), (210, ZNW), (211, ZN1), (212, ZN4), (213, ZEW), (214, ZFO), (215, ZFY), (216, Zu1)] [] 7068251030063838779883004342589958256918126813077978922614622863581249535 8) Tryz.f156)
theorem Zcb : Zc Tryz.prog 156 Za1 := Zaa (P := Tryz.prog) (n := 7068251030063838779883004342589958256918126813077978922614622863581249535) (k := 8) (l := [(153, mAtE), (158, Ze3), (163, ZkQ), (166, ZeZ), (205, ZBc), (206, Ze1), (208, rDoE), (209, ZNQ), (210, ZNW), (211, ZN1), (212, ZN4), (213, ZEW), (214, ZFO), (215, ZFY), (216, Zu1)]) (ol := []) ⟨ZtY, ZgI, Zpg, Zj3, ZuW, Zj4, ZQf, ZNO, ZNU, ZNZ, ZN2, ZJU, ZKh, ZKl, ZE4, trivial⟩ Tryz.func156 rfl (by kernel_rfl) Tryz.call156 trivial
abbrev Zn : List Sh := [Sh.agg Zaf, Sh.one (R.int i64), Sh.one (R.sl (R.int u8)), Sh.agg (R.pair R.bool (R.pair R.bool rcF7))]
abbrev Z1 : Rs := Rs.one (Sh.agg Zaf)
def Zax (k : Int) : List (FuncId × Entry) := [(104, ZhO), (107, ZFS k), (152, ZyU), (153, mAtE), (154, Zbf), (155, Zbe), (156, Za1), (157, ZfL), (158, Ze3), (159, ZL5), (160, ZP2)]
theorem ZKf (k : Int) : ZcN Tryz.prog (Zax k) := ⟨Ziz, (Zzs k), ZA9, ZtY, Zcx, Zcw, Zcb, Zh4, ZgI, ZJV, ZND, trivial⟩
def Zxr (c : TC) (s : Int) (g : List Int) (ln : QT0) : RT (Option TC) :=
 let x1 : QT1 := (c, s == 5, g, (0, 0, 0, 0, 0, 0, 0, 0), [])
 let x2 := qAtC x1 0
 let x3 := Zb c.1 (qAt x1 0)
 let x4 := !x2 || x3.1 == 1
 .br (Ze s) (.leaf (some ((c.1, (rgx c.2.1 c.2.1.2.2.2.2.2.2.2.1 (u16.wrap ((spOf c) - 2)) (Zh s)), c.2.2)))) (.br (!x4 || x2) (.br (x4) (.leaf (some ((c.1, (rgx c.2.1 c.2.1.2.2.2.2.2.2.2.1 (spOf c) (ZD (c, s == 5, g, (1, x3.2), []))), c.2.2.1, false, false, c.2.2.2.2.2)))) (.leaf none)) (.leaf none))
theorem ZHm (a : HL Zo) : Zg (envX Tryz.prog (Zay 1) [] 1023 8) Tryz.f111 Zo Z3 a = Zxr a.1 a.2.1 a.2.2.1 a.2.2.2 := by kernel_rfl
def Zxn (c : TC) (s : Int) (g : List Int) (ln : QT0) : RT (Option TC) :=
 let x1 : QT1 := (c, s == 5, g, (0, 0, 0, 0, 0, 0, 0, 0), [])
 let x2 := qAtC x1 0
 let x3 := Zb c.1 (qAt x1 0)
 let x4 := !x2 || x3.1 == 5
 let x5 : QT1 := (c, s == 5, g, (5, x3.2), [])
 .br (Ze s) (.leaf (some ((c.1, (rgx c.2.1 c.2.1.2.2.2.2.2.2.2.1 (u16.wrap ((spOf c) - 2)) (Zh s)), c.2.2)))) (.br (!x4 || x2) (.br (x4) (.br (qAtC x5 3) (.leaf (some ((c.1, (qAt x5 3, c.2.1.2.1, c.2.1.2.2.1, c.2.1.2.2.2.1, c.2.1.2.2.2.2.1, c.2.1.2.2.2.2.2.1, c.2.1.2.2.2.2.2.2.1, c.2.1.2.2.2.2.2.2.2.1, spOf c, ZD x5), c.2.2.1, false, false, c.2.2.2.2.2)))) (.leaf none)) (.leaf none)) (.leaf none))
theorem ZHi (a : HL Zo) : Zg (envX Tryz.prog (Zay 5) [] 1023 8) Tryz.f111 Zo Z3 a = Zxn a.1 a.2.1 a.2.2.1 a.2.2.2 := by kernel_rfl
def Zxj (c : TC) (s : Int) (g : List Int) (ln : QT0) : RT (Option TC) :=
 let x1 : QT1 := (c, s == 5, g, (0, 0, 0, 0, 0, 0, 0, 0), [])
 let x2 := qAtC x1 0
 let x3 := Zb c.1 (qAt x1 0)
 let x4 := !x2 || x3.1 == 9
 let x5 : QT1 := (c, s == 5, g, (9, x3.2), [])
 .br (Ze s) (.leaf (some ((c.1, (rgx c.2.1 c.2.1.2.2.2.2.2.2.2.1 (u16.wrap ((spOf c) - 2)) (Zh s)), c.2.2)))) (.br (!x4 || x2) (.br (x4) (.br (qAtC x5 1) (.leaf (some ((c.1, (qAt x5 1, c.2.1.2.1, c.2.1.2.2.1, c.2.1.2.2.2.1, c.2.1.2.2.2.2.1, c.2.1.2.2.2.2.2.1, c.2.1.2.2.2.2.2.2.1, c.2.1.2.2.2.2.2.2.2.1, spOf c, ZD x5), c.2.2.1, false, false, c.2.2.2.2.2)))) (.leaf none)) (.leaf none)) (.leaf none))
theorem ZHe (a : HL Zo) : Zg (envX Tryz.prog (Zay 9) [] 1023 8) Tryz.f111 Zo Z3 a = Zxj a.1 a.2.1 a.2.2.1 a.2.2.2 := by kernel_rfl
def Zq9 (c : TC) (s : Int) (g : List Int) (ln : QT0) : RT (Option TC) :=
 let x1 : QT1 := (c, s == 5, g, (0, 0, 0, 0, 0, 0, 0, 0), [])
 let x2 := qAtC x1 0
 let x3 := Zb c.1 (qAt x1 0)
 let x4 := !x2 || x3.1 == 13
 let x5 := x3.2
 let x6 : QT1 := (c, s == 5, g, (13, x5), [])
 let x7 := rDo c.1 x5.2.2.2.2.1 c.2.1.1 (ZgT x6) c.2.1.2.2.2.2.2.2.2.1
 .br (Ze s) (.leaf (some ((c.1, (rgx c.2.1 c.2.1.2.2.2.2.2.2.2.1 (u16.wrap ((spOf c) - 2)) (Zh s)), c.2.2)))) (.br (!x4 || x2) (.br (x4) (.br (Ze8 x6) (.leaf (some ((c.1, (x7.1, c.2.1.2.1, c.2.1.2.2.1, c.2.1.2.2.2.1, c.2.1.2.2.2.2.1, c.2.1.2.2.2.2.2.1, c.2.1.2.2.2.2.2.2.1, x7.2, spOf c, ZD x6), c.2.2.1, false, false, c.2.2.2.2.2)))) (.leaf none)) (.leaf none)) (.leaf none))
theorem ZDa (a : HL Zo) : Zg (envX Tryz.prog (Zay 13) [] 1023 8) Tryz.f111 Zo Z3 a = Zq9 a.1 a.2.1 a.2.2.1 a.2.2.2 := by kernel_rfl
def Zq5 (c : TC) (s : Int) (g : List Int) (ln : QT0) : RT (Option TC) :=
 let x1 : QT1 := (c, s == 5, g, (0, 0, 0, 0, 0, 0, 0, 0), [])
 let x2 := qAtC x1 0
 let x3 := Zb c.1 (qAt x1 0)
 let x4 := !x2 || x3.1 == 17
 let x5 := x3.2
 let x6 : QT1 := (c, s == 5, g, (17, x5), [])
 let x7 := x5.2.2.2.1
 let x8 := rDcx c.1 (Zdn x6 x7) c.2.1.2.2.2.2.2.2.2.1
 .br (Ze s) (.leaf (some ((c.1, (rgx c.2.1 c.2.1.2.2.2.2.2.2.2.1 (u16.wrap ((spOf c) - 2)) (Zh s)), c.2.2)))) (.br (!x4 || x2) (.br (x4) (.leaf (some ((c.1, Zr (rgx c.2.1 x8.2 (spOf c) (ZD x6)) x7 x8.1, c.2.2.1, false, false, c.2.2.2.2.2)))) (.leaf none)) (.leaf none))
theorem ZC6 (a : HL Zo) : Zg (envX Tryz.prog (Zay 17) [] 1023 8) Tryz.f111 Zo Z3 a = Zq5 a.1 a.2.1 a.2.2.1 a.2.2.2 := by kernel_rfl
def Zq1 (c : TC) (s : Int) (g : List Int) (ln : QT0) : RT (Option TC) :=
 let x1 : QT1 := (c, s == 5, g, (0, 0, 0, 0, 0, 0, 0, 0), [])
 let x2 := qAtC x1 0
 let x3 := Zb c.1 (qAt x1 0)
 let x4 := !x2 || x3.1 == 21
 let x5 := c.2.1.2.2.2.2.2.2.2.1.2.2.2
 let x6 := x5.2
 .br (Ze s) (.leaf (some ((c.1, (rgx c.2.1 c.2.1.2.2.2.2.2.2.2.1 (u16.wrap ((spOf c) - 2)) (Zh s)), c.2.2)))) (.br (!x4 || x2) (.br (x4) (.leaf (some ((c.1, (rgx c.2.1 ((c.2.1.2.2.2.2.2.2.2.1.1, c.2.1.2.2.2.2.2.2.2.1.2.1, c.2.1.2.2.2.2.2.2.2.1.2.2.1, x5.1, x6.1, x6.2.1, true)) (spOf c) (ZD (c, s == 5, g, (21, x3.2), []))), c.2.2.1, false, false, c.2.2.2.2.2)))) (.leaf none)) (.leaf none))
theorem ZC2 (a : HL Zo) : Zg (envX Tryz.prog (Zay 21) [] 1023 8) Tryz.f111 Zo Z3 a = Zq1 a.1 a.2.1 a.2.2.1 a.2.2.2 := by kernel_rfl
def ZqX (c : TC) (s : Int) (g : List Int) (ln : QT0) : RT (Option TC) :=
 let x1 := u16.wrap ((spOf c) - 2)
 let x2 : QT1 := (c, s == 5, g, (0, 0, 0, 0, 0, 0, 0, 0), [])
 let x3 := qAtC x2 0
 let x4 := Zb c.1 (qAt x2 0)
 let x5 := !x3 || x4.1 == 25
 let x6 : QT1 := (c, s == 5, g, (25, x4.2), [])
 let x7 := Zf4 x6
 .br (Ze s) (.leaf (some ((c.1, (rgx c.2.1 c.2.1.2.2.2.2.2.2.2.1 x1 (Zh s)), c.2.2)))) (.br (!x5 || x3) (.br (x5) (.br (!x7 || Zch x6 1) (.leaf (some ((c.1, (rgx c.2.1 c.2.1.2.2.2.2.2.2.2.1 (bif x7 then x1 else (spOf c)) (bif x7 then Ze9 x6 1 else ZD x6)), c.2.2.1, false, false, c.2.2.2.2.2)))) (.leaf none)) (.leaf none)) (.leaf none))
theorem ZCY (a : HL Zo) : Zg (envX Tryz.prog (Zay 25) [] 1023 8) Tryz.f111 Zo Z3 a = ZqX a.1 a.2.1 a.2.2.1 a.2.2.2 := by kernel_rfl
def ZqT (c : TC) (s : Int) (g : List Int) (ln : QT0) : RT (Option TC) :=
 let x1 : QT1 := (c, s == 5, g, (0, 0, 0, 0, 0, 0, 0, 0), [])
 let x2 := qAtC x1 0
 let x3 := Zb c.1 (qAt x1 0)
 let x4 := !x2 || x3.1 == 29
 let x5 : QT1 := (c, s == 5, g, (29, x3.2), [])
 .br (Ze s) (.leaf (some ((c.1, (rgx c.2.1 c.2.1.2.2.2.2.2.2.2.1 (u16.wrap ((spOf c) - 2)) (Zh s)), c.2.2)))) (.br (!x4 || x2) (.br (x4) (.leaf (some ((c.1, (rgx c.2.1 c.2.1.2.2.2.2.2.2.2.1 (Zdn x5 2) (ZD x5)), c.2.2.1, false, false, c.2.2.2.2.2)))) (.leaf none)) (.leaf none))
theorem ZCU (a : HL Zo) : Zg (envX Tryz.prog (Zay 29) [] 1023 8) Tryz.f111 Zo Z3 a = ZqT a.1 a.2.1 a.2.2.1 a.2.2.2 := by kernel_rfl
def ZqP (c : TC) (s : Int) (g : List Int) (ln : QT0) : RT (Option TC) :=
 let x1 : QT1 := (c, s == 5, g, (0, 0, 0, 0, 0, 0, 0, 0), [])
 let x2 := qAtC x1 0
 let x3 := Zb c.1 (qAt x1 0)
 let x4 := !x2 || x3.1 == 33
 let x5 : QT1 := (c, s == 5, g, (33, x3.2), [])
 .br (Ze s) (.leaf (some ((c.1, (rgx c.2.1 c.2.1.2.2.2.2.2.2.2.1 (u16.wrap ((spOf c) - 2)) (Zh s)), c.2.2)))) (.br (!x4 || x2) (.br (x4) (.br (qAtC x5 2) (.leaf (some ((c.1, (qAt x5 2, c.2.1.2.1, c.2.1.2.2.1, c.2.1.2.2.2.1, c.2.1.2.2.2.2.1, c.2.1.2.2.2.2.2.1, c.2.1.2.2.2.2.2.2.1, c.2.1.2.2.2.2.2.2.2.1, spOf c, ZD x5), c.2.2.1, false, false, c.2.2.2.2.2)))) (.leaf none)) (.leaf none)) (.leaf none))
theorem ZCQ (a : HL Zo) : Zg (envX Tryz.prog (Zay 33) [] 1023 8) Tryz.f111 Zo Z3 a = ZqP a.1 a.2.1 a.2.2.1 a.2.2.2 := by kernel_rfl
def ZqL (c : TC) (s : Int) (g : List Int) (ln : QT0) : RT (Option TC) :=
 let x1 : QT1 := (c, s == 5, g, (0, 0, 0, 0, 0, 0, 0, 0), [])
 let x2 := qAtC x1 0
 let x3 := Zb c.1 (qAt x1 0)
 let x4 := !x2 || x3.1 == 37
 .br (Ze s) (.leaf (some ((c.1, (rgx c.2.1 c.2.1.2.2.2.2.2.2.2.1 (u16.wrap ((spOf c) - 2)) (Zh s)), c.2.2)))) (.br (!x4 || x2) (.br (x4) (.leaf (some ((c.1, (rgx c.2.1 c.2.1.2.2.2.2.2.2.2.1 (spOf c) (ZD (c, s == 5, g, (37, x3.2), []))), c.2.2.1, false, true, c.2.2.2.2.2)))) (.leaf none)) (.leaf none))
theorem ZCM (a : HL Zo) : Zg (envX Tryz.prog (Zay 37) [] 1023 8) Tryz.f111 Zo Z3 a = ZqL a.1 a.2.1 a.2.2.1 a.2.2.2 := by kernel_rfl
def ZqH (c : TC) (s : Int) (g : List Int) (ln : QT0) : RT (Option TC) :=
 let x1 : QT1 := (c, s == 5, g, (0, 0, 0, 0, 0, 0, 0, 0), [])
 let x2 := qAtC x1 0
 let x3 := Zb c.1 (qAt x1 0)
 let x4 := !x2 || x3.1 == 41
 let x5 := c.2.1.2.2.2.2.2.2.2.1.2.2.2
 let x6 := x5.2
 let x7 : QT1 := (c, s == 5, g, (41, x3.2), [])
 let x8 := ZpW (Zdn x7 2)
 .br (Ze s) (.leaf (some ((c.1, (rgx c.2.1 c.2.1.2.2.2.2.2.2.2.1 (u16.wrap ((spOf c) - 2)) (Zh s)), c.2.2)))) (.br (!x4 || x2) (.br (x4) (.leaf (some ((c.1, Zr (rgx c.2.1 ((c.2.1.2.2.2.2.2.2.2.1.1, c.2.1.2.2.2.2.2.2.2.1.2.1, c.2.1.2.2.2.2.2.2.2.1.2.2.1, x5.1, x6.1, x6.2.1, x8.2)) (spOf c) (ZD x7)) 2 x8.1, c.2.2.1, false, false, c.2.2.2.2.2)))) (.leaf none)) (.leaf none))
theorem ZCI (a : HL Zo) : Zg (envX Tryz.prog (Zay 41) [] 1023 8) Tryz.f111 Zo Z3 a = ZqH a.1 a.2.1 a.2.2.1 a.2.2.2 := by kernel_rfl
def ZqD (c : TC) (s : Int) (g : List Int) (ln : QT0) : RT (Option TC) :=
 let x1 := u16.wrap ((spOf c) - 2)
 let x2 : QT1 := (c, s == 5, g, (0, 0, 0, 0, 0, 0, 0, 0), [])
 let x3 := qAtC x2 0
 let x4 := Zb c.1 (qAt x2 0)
 let x5 := !x3 || x4.1 == 45
 let x6 : QT1 := (c, s == 5, g, (45, x4.2), [])
 let x7 := Zf4 x6
 .br (Ze s) (.leaf (some ((c.1, (rgx c.2.1 c.2.1.2.2.2.2.2.2.2.1 x1 (Zh s)), c.2.2)))) (.br (!x5 || x3) (.br (x5) (.leaf (some ((c.1, (rgx c.2.1 c.2.1.2.2.2.2.2.2.2.1 (bif x7 then x1 else (spOf c)) (bif x7 then 64 else ZD x6)), c.2.2.1, false, false, c.2.2.2.2.2)))) (.leaf none)) (.leaf none))
theorem ZCE (a : HL Zo) : Zg (envX Tryz.prog (Zay 45) [] 1023 8) Tryz.f111 Zo Z3 a = ZqD a.1 a.2.1 a.2.2.1 a.2.2.2 := by kernel_rfl
def Zv4 (c : TC) (s : Int) (g : List Int) (ln : QT0) : RT (Option TC) :=
 let x1 := Zb c.1 (mAt (c, s == 5, g, []) 0)
 let x2 := x1.2
 let x3 := x2.2
 let x4 := x3.2.1
 let x5 := x4 == 6
 let x6 := rSet c.2.1 x3.1 (bif x5 then mAt (c, s == 5, g, []) 1 else rGet c.2.1 x4)
 let x7 := x6.2
 let x8 := x7.2
 let x9 := x8.2
 let x10 := x9.2
 let x11 := x10.2
 let x12 := x11.2
 let x13 := x12.2
 .br (Za s) (.leaf (some ((c.1, (rgx c.2.1 c.2.1.2.2.2.2.2.2.2.1 (u16.wrap ((spOf c) - 2)) (Zh s)), c.2.2)))) (.br (!mAtC (c, s == 5, g, []) 0 || x1.1 == 2) (.br (mAtC (c, s == 5, g, []) 0) (.br (!x5 || mAtC (c, s == 5, g, []) 1) (.leaf (some ((c.1, (x6.1, x7.1, x8.1, x9.1, x10.1, x11.1, x12.1, x13.1, x13.2.1, ZA (c, s == 5, g, []) x2.1), c.2.2.1, false, false, c.2.2.2.2.2)))) (.leaf none)) (.leaf none)) (.leaf none))
theorem ZFJ (a : HL Zn) : Zg (envX Tryz.prog (Zax 2) [] 79250227772808467515411824639 8) Tryz.f98 Zn Z1 a = Zv4 a.1 a.2.1 a.2.2.1 a.2.2.2 := by kernel_rfl
def Zv0 (c : TC) (s : Int) (g : List Int) (ln : QT0) : RT (Option TC) :=
 let x1 := Zb c.1 (mAt (c, s == 5, g, []) 0)
 .br (Za s) (.leaf (some ((c.1, (rgx c.2.1 c.2.1.2.2.2.2.2.2.2.1 (u16.wrap ((spOf c) - 2)) (Zh s)), c.2.2)))) (.br (!mAtC (c, s == 5, g, []) 0 || x1.1 == 6) (.br (mAtC (c, s == 5, g, []) 0) (.leaf (some ((c.1, (rgx c.2.1 c.2.1.2.2.2.2.2.2.2.1 (spOf c) (ZA (c, s == 5, g, []) x1.2.1)), c.2.2.1, false, false, c.2.2.2.2.2)))) (.leaf none)) (.leaf none))
theorem ZFF (a : HL Zn) : Zg (envX Tryz.prog (Zax 6) [] 79250227772808467515411824639 8) Tryz.f98 Zn Z1 a = Zv0 a.1 a.2.1 a.2.2.1 a.2.2.2 := by kernel_rfl
def ZpT (c : TC) (s : Int) (g : List Int) (ln : QT0) : RT (Option TC) :=
 let x1 := Zb c.1 (mAt (c, s == 5, g, []) 0)
 .br (Za s) (.leaf (some ((c.1, (rgx c.2.1 c.2.1.2.2.2.2.2.2.2.1 (u16.wrap ((spOf c) - 2)) (Zh s)), c.2.2)))) (.br (!mAtC (c, s == 5, g, []) 0 || x1.1 == 10) (.br (mAtC (c, s == 5, g, []) 0) (.leaf (some ((c.1, (rgx c.2.1 c.2.1.2.2.2.2.2.2.2.1 (spOf c) (ZA (c, s == 5, g, []) x1.2.1)), c.2.2.1, false, false, c.2.2.2.2.2)))) (.leaf none)) (.leaf none))
theorem ZB9 (a : HL Zn) : Zg (envX Tryz.prog (Zax 10) [] 79250227772808467515411824639 8) Tryz.f98 Zn Z1 a = ZpT a.1 a.2.1 a.2.2.1 a.2.2.2 := by kernel_rfl
def ZpP (c : TC) (s : Int) (g : List Int) (ln : QT0) : RT (Option TC) :=
 let x1 := Zb c.1 (mAt (c, s == 5, g, []) 0)
 let x2 := x1.2
 let x3 := x2.2.1
 let x4 := x3 == 6
 let x5 := ZfF c (14, x2) (bif x4 then mAt (c, s == 5, g, []) 1 else rGet c.2.1 x3)
 let x6 := rSet c.2.1 x3 x5.1
 let x7 := x6.2
 let x8 := x7.2
 let x9 := x8.2
 let x10 := x9.2
 let x11 := x10.2
 let x12 := x11.2
 .br (Za s) (.leaf (some ((c.1, (rgx c.2.1 c.2.1.2.2.2.2.2.2.2.1 (u16.wrap ((spOf c) - 2)) (Zh s)), c.2.2)))) (.br (!mAtC (c, s == 5, g, []) 0 || x1.1 == 14) (.br (mAtC (c, s == 5, g, []) 0) (.br (!x4 || mAtC (c, s == 5, g, []) 1) (.leaf (some ((c.1, (x6.1, x7.1, x8.1, x9.1, x10.1, x11.1, x12.1, x5.2, x12.2.2.1, ZA (c, s == 5, g, []) x2.1), c.2.2.1, false, false, c.2.2.2.2.2)))) (.leaf none)) (.leaf none)) (.leaf none))
theorem ZB5 (a : HL Zn) : Zg (envX Tryz.prog (Zax 14) [] 79250227772808467515411824639 8) Tryz.f98 Zn Z1 a = ZpP a.1 a.2.1 a.2.2.1 a.2.2.2 := by kernel_rfl
def ZpL (c : TC) (s : Int) (g : List Int) (ln : QT0) : RT (Option TC) :=
 let x1 := Zb c.1 (mAt (c, s == 5, g, []) 0)
 let x2 := x1.2
 let x3 := rDad c.1 (Zac c.2.1 2) (Zac c.2.1 x2.2.2.2.1) c.2.1.2.2.2.2.2.2.2.1
 let x4 := Zr c.2.1 2 x3.1
 let x5 := x4.2
 let x6 := x5.2
 let x7 := x6.2
 let x8 := x7.2
 let x9 := x8.2
 let x10 := x9.2
 .br (Za s) (.leaf (some ((c.1, (rgx c.2.1 c.2.1.2.2.2.2.2.2.2.1 (u16.wrap ((spOf c) - 2)) (Zh s)), c.2.2)))) (.br (!mAtC (c, s == 5, g, []) 0 || x1.1 == 18) (.br (mAtC (c, s == 5, g, []) 0) (.leaf (some ((c.1, (x4.1, x5.1, x6.1, x7.1, x8.1, x9.1, x10.1, x3.2, x10.2.2.1, ZA (c, s == 5, g, []) x2.1), c.2.2.1, false, false, c.2.2.2.2.2)))) (.leaf none)) (.leaf none))
theorem ZB1 (a : HL Zn) : Zg (envX Tryz.prog (Zax 18) [] 79250227772808467515411824639 8) Tryz.f98 Zn Z1 a = ZpL a.1 a.2.1 a.2.2.1 a.2.2.2 := by kernel_rfl
def ZpH (c : TC) (s : Int) (g : List Int) (ln : QT0) : RT (Option TC) :=
 let x1 := Zb c.1 (mAt (c, s == 5, g, []) 0)
 let x2 := c.2.1.2.2.2.2.2.2.2.1.2.2.2
 let x3 := x2.2
 let x4 := x3.2
 .br (Za s) (.leaf (some ((c.1, (rgx c.2.1 c.2.1.2.2.2.2.2.2.2.1 (u16.wrap ((spOf c) - 2)) (Zh s)), c.2.2)))) (.br (!mAtC (c, s == 5, g, []) 0 || x1.1 == 22) (.br (mAtC (c, s == 5, g, []) 0) (.leaf (some ((c.1, (rgx c.2.1 ((c.2.1.2.2.2.2.2.2.2.1.1, c.2.1.2.2.2.2.2.2.2.1.2.1, c.2.1.2.2.2.2.2.2.2.1.2.2.1, x2.1, x3.1, x4.1, !x4.2)) (spOf c) (ZA (c, s == 5, g, []) x1.2.1)), c.2.2.1, false, false, c.2.2.2.2.2)))) (.leaf none)) (.leaf none))
theorem ZBX (a : HL Zn) : Zg (envX Tryz.prog (Zax 22) [] 79250227772808467515411824639 8) Tryz.f98 Zn Z1 a = ZpH a.1 a.2.1 a.2.2.1 a.2.2.2 := by kernel_rfl
def ZpD (c : TC) (s : Int) (g : List Int) (ln : QT0) : RT (Option TC) :=
 let x1 := Zb c.1 (mAt (c, s == 5, g, []) 0)
 let x2 := x1.2
 let x3 := !ZdJ (c, s == 5, g, []) (26, x2)
 let x4 := c.2.1.2.2.2.2.2.2.2.1.2.2.1
 let x5 := c.2.1.2.2.2.2.2.2.2.1.2.2.2
 let x6 := x5.1
 let x7 := x5.2
 let x8 := x7.1
 let x9 := x7.2
 let x10 := x9.1
 let x11 := x9.2
 .br (Za s) (.leaf (some ((c.1, (rgx c.2.1 c.2.1.2.2.2.2.2.2.2.1 (u16.wrap ((spOf c) - 2)) (Zh s)), c.2.2)))) (.br (!mAtC (c, s == 5, g, []) 0 || x1.1 == 26) (.br (mAtC (c, s == 5, g, []) 0) (.br (x3 || ZbO (c, s == 5, g, []) 1) (.leaf (some ((bif x3 then c.1 else c.1, (bif x3 then c.2.1.1 else c.2.1.1, bif x3 then c.2.1.2.1 else c.2.1.2.1, bif x3 then c.2.1.2.2.1 else c.2.1.2.2.1, bif x3 then c.2.1.2.2.2.1 else c.2.1.2.2.2.1, bif x3 then c.2.1.2.2.2.2.1 else c.2.1.2.2.2.2.1, bif x3 then c.2.1.2.2.2.2.2.1 else c.2.1.2.2.2.2.2.1, bif x3 then c.2.1.2.2.2.2.2.2.1 else c.2.1.2.2.2.2.2.2.1, (bif x3 then c.2.1.2.2.2.2.2.2.2.1.1 else c.2.1.2.2.2.2.2.2.2.1.1, bif x3 then c.2.1.2.2.2.2.2.2.2.1.2.1 else c.2.1.2.2.2.2.2.2.2.1.2.1, bif x3 then x4 else x4, bif x3 then x6 else x6, bif x3 then x8 else x8, bif x3 then x10 else x10, bif x3 then x11 else x11), bif x3 then (spOf c) else u16.wrap ((spOf c) + 2), bif x3 then ZA (c, s == 5, g, []) x2.1 else ZdP (c, s == 5, g, []) 1), bif x3 then c.2.2.1 else c.2.2.1, false, false, bif x3 then c.2.2.2.2.2.1 else c.2.2.2.2.2.1, bif x3 then c.2.2.2.2.2.2.1 else c.2.2.2.2.2.2.1, bif x3 then c.2.2.2.2.2.2.2.1 else c.2.2.2.2.2.2.2.1, bif x3 then c.2.2.2.2.2.2.2.2.1 else c.2.2.2.2.2.2.2.2.1, bif x3 then c.2.2.2.2.2.2.2.2.2.1 else c.2.2.2.2.2.2.2.2.2.1, bif x3 then c.2.2.2.2.2.2.2.2.2.2.1 else c.2.2.2.2.2.2.2.2.2.2.1, bif x3 then c.2.2.2.2.2.2.2.2.2.2.2.1 else c.2.2.2.2.2.2.2.2.2.2.2.1, bif x3 then c.2.2.2.2.2.2.2.2.2.2.2.2 else c.2.2.2.2.2.2.2.2.2.2.2.2)))) (.leaf none)) (.leaf none)) (.leaf none))
theorem ZBT (a : HL Zn) : Zg (envX Tryz.prog (Zax 26) [] 79250227772808467515411824639 8) Tryz.f98 Zn Z1 a = ZpD a.1 a.2.1 a.2.2.1 a.2.2.2 := by kernel_rfl
def Zpz (c : TC) (s : Int) (g : List Int) (ln : QT0) : RT (Option TC) :=
 let x1 := u16.wrap ((spOf c) - 2)
 let x2 := Zb c.1 (mAt (c, s == 5, g, []) 0)
 .br (Za s) (.leaf (some ((c.1, (rgx c.2.1 c.2.1.2.2.2.2.2.2.2.1 x1 (Zh s)), c.2.2)))) (.br (!mAtC (c, s == 5, g, []) 0 || x2.1 == 30) (.br (mAtC (c, s == 5, g, []) 0) (.leaf (some ((c.1, (rgx c.2.1 c.2.1.2.2.2.2.2.2.2.1 x1 (ZA (c, s == 5, g, []) x2.2.1)), c.2.2.1, false, false, c.2.2.2.2.2)))) (.leaf none)) (.leaf none))
theorem ZBP (a : HL Zn) : Zg (envX Tryz.prog (Zax 30) [] 79250227772808467515411824639 8) Tryz.f98 Zn Z1 a = Zpz a.1 a.2.1 a.2.2.1 a.2.2.2 := by kernel_rfl
def Zpv (c : TC) (s : Int) (g : List Int) (ln : QT0) : RT (Option TC) :=
 let x1 := Zb c.1 (mAt (c, s == 5, g, []) 0)
 .br (Za s) (.leaf (some ((c.1, (rgx c.2.1 c.2.1.2.2.2.2.2.2.2.1 (u16.wrap ((spOf c) - 2)) (Zh s)), c.2.2)))) (.br (!mAtC (c, s == 5, g, []) 0 || x1.1 == 34) (.br (mAtC (c, s == 5, g, []) 0) (.leaf (some ((c.1, (rgx c.2.1 c.2.1.2.2.2.2.2.2.2.1 (spOf c) (ZA (c, s == 5, g, []) x1.2.1)), c.2.2.1, false, false, c.2.2.2.2.2)))) (.leaf none)) (.leaf none))
theorem ZBL (a : HL Zn) : Zg (envX Tryz.prog (Zax 34) [] 79250227772808467515411824639 8) Tryz.f98 Zn Z1 a = Zpv a.1 a.2.1 a.2.2.1 a.2.2.2 := by kernel_rfl
def Zpr (c : TC) (s : Int) (g : List Int) (ln : QT0) : RT (Option TC) :=
 let x1 := Zb c.1 (mAt (c, s == 5, g, []) 0)
 let x2 := rRim (c.1, (rgx c.2.1 c.2.1.2.2.2.2.2.2.2.1 (spOf c) (ZA (c, s == 5, g, []) x1.2.1)), c.2.2) ln
 let x3 := x2.2
 let x4 := x3.2
 let x5 := x4.2
 let x6 := x5.2.2.2
 let x7 := x6.2
 let x8 := x7.2
 let x9 := x8.2
 let x10 := x9.2
 .br (Za s) (.leaf (some ((c.1, (rgx c.2.1 c.2.1.2.2.2.2.2.2.2.1 (u16.wrap ((spOf c) - 2)) (Zh s)), c.2.2)))) (.br (!mAtC (c, s == 5, g, []) 0 || x1.1 == 38) (.br (mAtC (c, s == 5, g, []) 0) (.leaf (some ((x3.1, (x2.1, x4.1.2), x5.1, false, false, x6.1, x7.1, x8.1, x9.1, x10.1, false, false, x10.2.2.2)))) (.leaf none)) (.leaf none))
theorem ZBH (a : HL Zn) : Zg (envX Tryz.prog (Zax 38) [] 79250227772808467515411824639 8) Tryz.f98 Zn Z1 a = Zpr a.1 a.2.1 a.2.2.1 a.2.2.2 := by kernel_rfl
def Zpn (c : TC) (s : Int) (g : List Int) (ln : QT0) : RT (Option TC) :=
 let x1 := Zb c.1 (mAt (c, s == 5, g, []) 0)
 let x2 := ZsP (Zac c.2.1 1) c.2.1.2.2.2.2.2.2.2.1.2.2.2.2.2.2
 let x3 := Zr c.2.1 1 x2.1
 let x4 := x3.2
 let x5 := x4.2
 let x6 := x5.2
 let x7 := x6.2
 let x8 := x7.2
 let x9 := x8.2
 let x10 := x9.2
 let x11 := x10.1
 let x12 := x11.2
 let x13 := x12.2
 let x14 := x13.2
 let x15 := x2.2
 .br (Za s) (.leaf (some ((c.1, (rgx c.2.1 c.2.1.2.2.2.2.2.2.2.1 (u16.wrap ((spOf c) - 2)) (Zh s)), c.2.2)))) (.br (!mAtC (c, s == 5, g, []) 0 || x1.1 == 42) (.br (mAtC (c, s == 5, g, []) 0) (.leaf (some ((c.1, (x3.1, x4.1, x5.1, x6.1, x7.1, x8.1, x9.1, (x11.1, x12.1, x13.1, x14.1, x14.2.1, x15.2, x15.1), x10.2.1, ZA (c, s == 5, g, []) x1.2.1), c.2.2.1, false, false, c.2.2.2.2.2)))) (.leaf none)) (.leaf none))
theorem ZBD (a : HL Zn) : Zg (envX Tryz.prog (Zax 42) [] 79250227772808467515411824639 8) Tryz.f98 Zn Z1 a = Zpn a.1 a.2.1 a.2.2.1 a.2.2.2 := by kernel_rfl
def Zpj (c : TC) (s : Int) (g : List Int) (ln : QT0) : RT (Option TC) :=
 let x1 := Zb c.1 (mAt (c, s == 5, g, []) 0)
 .br (Za s) (.leaf (some ((c.1, (rgx c.2.1 c.2.1.2.2.2.2.2.2.2.1 (u16.wrap ((spOf c) - 2)) (Zh s)), c.2.2)))) (.br (!mAtC (c, s == 5, g, []) 0 || x1.1 == 46) (.br (mAtC (c, s == 5, g, []) 0) (.leaf (some ((c.1, (rgx c.2.1 c.2.1.2.2.2.2.2.2.2.1 (spOf c) (ZA (c, s == 5, g, []) x1.2.1)), c.2.2.1, false, false, c.2.2.2.2.2)))) (.leaf none)) (.leaf none))
theorem ZBz (a : HL Zn) : Zg (envX Tryz.prog (Zax 46) [] 79250227772808467515411824639 8) Tryz.f98 Zn Z1 a = Zpj a.1 a.2.1 a.2.2.1 a.2.2.2 := by kernel_rfl
def Zxq (c : TC) (s : Int) (g : List Int) (ln : QT0) : RT (Option TC) :=
 let x1 : QT1 := (c, s == 5, g, (0, 0, 0, 0, 0, 0, 0, 0), [])
 let x2 := qAtC x1 0
 let x3 := Zb c.1 (qAt x1 0)
 let x4 := !x2 || x3.1 == 2
 let x5 := x3.2
 let x6 := x5.2
 let x7 := x6.2.1
 let x8 := x7 == 6
 let x9 : QT1 := (c, s == 5, g, (2, x5), [])
 .br (Ze s) (.leaf (some ((c.1, (rgx c.2.1 c.2.1.2.2.2.2.2.2.2.1 (u16.wrap ((spOf c) - 2)) (Zh s)), c.2.2)))) (.br (!x4 || x2) (.br (x4) (.br (!x8 || qAtC x9 1) (.leaf (some ((c.1, rSet (rgx c.2.1 c.2.1.2.2.2.2.2.2.2.1 (spOf c) (ZD x9)) x6.1 (bif x8 then qAt x9 1 else qReg x9 x7), c.2.2.1, false, false, c.2.2.2.2.2)))) (.leaf none)) (.leaf none)) (.leaf none))
theorem ZHl (a : HL Zo) : Zg (envX Tryz.prog (Zay 2) [] 1023 8) Tryz.f111 Zo Z3 a = Zxq a.1 a.2.1 a.2.2.1 a.2.2.2 := by kernel_rfl
def Zxm (c : TC) (s : Int) (g : List Int) (ln : QT0) : RT (Option TC) :=
 let x1 : QT1 := (c, s == 5, g, (0, 0, 0, 0, 0, 0, 0, 0), [])
 let x2 := qAtC x1 0
 let x3 := Zb c.1 (qAt x1 0)
 let x4 := !x2 || x3.1 == 6
 .br (Ze s) (.leaf (some ((c.1, (rgx c.2.1 c.2.1.2.2.2.2.2.2.2.1 (u16.wrap ((spOf c) - 2)) (Zh s)), c.2.2)))) (.br (!x4 || x2) (.br (x4) (.leaf (some ((c.1, (rgx c.2.1 c.2.1.2.2.2.2.2.2.2.1 (spOf c) (ZD (c, s == 5, g, (6, x3.2), []))), c.2.2.1, false, false, c.2.2.2.2.2)))) (.leaf none)) (.leaf none))
theorem ZHh (a : HL Zo) : Zg (envX Tryz.prog (Zay 6) [] 1023 8) Tryz.f111 Zo Z3 a = Zxm a.1 a.2.1 a.2.2.1 a.2.2.2 := by kernel_rfl
def Zrc (c : TC) (s : Int) (g : List Int) (ln : QT0) : RT (Option TC) :=
 let x1 : QT1 := (c, s == 5, g, (0, 0, 0, 0, 0, 0, 0, 0), [])
 let x2 := qAtC x1 0
 let x3 := Zb c.1 (qAt x1 0)
 let x4 := !x2 || x3.1 == 10
 .br (Ze s) (.leaf (some ((c.1, (rgx c.2.1 c.2.1.2.2.2.2.2.2.2.1 (u16.wrap ((spOf c) - 2)) (Zh s)), c.2.2)))) (.br (!x4 || x2) (.br (x4) (.leaf (some ((c.1, (rgx c.2.1 c.2.1.2.2.2.2.2.2.2.1 (spOf c) (ZD (c, s == 5, g, (10, x3.2), []))), c.2.2.1, false, false, c.2.2.2.2.2)))) (.leaf none)) (.leaf none))
theorem ZDd (a : HL Zo) : Zg (envX Tryz.prog (Zay 10) [] 1023 8) Tryz.f111 Zo Z3 a = Zrc a.1 a.2.1 a.2.2.1 a.2.2.2 := by kernel_rfl
def Zq8 (c : TC) (s : Int) (g : List Int) (ln : QT0) : RT (Option TC) :=
 let x1 : QT1 := (c, s == 5, g, (0, 0, 0, 0, 0, 0, 0, 0), [])
 let x2 := qAtC x1 0
 let x3 := Zb c.1 (qAt x1 0)
 let x4 := !x2 || x3.1 == 14
 let x5 := x3.2
 let x6 := x5.2.1
 let x7 := x6 == 6
 let x8 : QT1 := (c, s == 5, g, (14, x5), [])
 let x9 := rInr c.1 (bif x7 then qAt x8 1 else qReg x8 x6) c.2.1.2.2.2.2.2.2.2.1
 .br (Ze s) (.leaf (some ((c.1, (rgx c.2.1 c.2.1.2.2.2.2.2.2.2.1 (u16.wrap ((spOf c) - 2)) (Zh s)), c.2.2)))) (.br (!x4 || x2) (.br (x4) (.br (!x7 || qAtC x8 1) (.leaf (some ((c.1, rSet (rgx c.2.1 x9.2 (spOf c) (ZD x8)) x6 x9.1, c.2.2.1, false, false, c.2.2.2.2.2)))) (.leaf none)) (.leaf none)) (.leaf none))
theorem ZC9 (a : HL Zo) : Zg (envX Tryz.prog (Zay 14) [] 1023 8) Tryz.f111 Zo Z3 a = Zq8 a.1 a.2.1 a.2.2.1 a.2.2.2 := by kernel_rfl
def Zq4 (c : TC) (s : Int) (g : List Int) (ln : QT0) : RT (Option TC) :=
 let x1 : QT1 := (c, s == 5, g, (0, 0, 0, 0, 0, 0, 0, 0), [])
 let x2 := qAtC x1 0
 let x3 := Zb c.1 (qAt x1 0)
 let x4 := !x2 || x3.1 == 18
 let x5 := x3.2
 let x6 : QT1 := (c, s == 5, g, (18, x5), [])
 let x7 := rDad c.1 (Zdn x6 2) (Zdn x6 x5.2.2.2.1) c.2.1.2.2.2.2.2.2.2.1
 .br (Ze s) (.leaf (some ((c.1, (rgx c.2.1 c.2.1.2.2.2.2.2.2.2.1 (u16.wrap ((spOf c) - 2)) (Zh s)), c.2.2)))) (.br (!x4 || x2) (.br (x4) (.leaf (some ((c.1, Zr (rgx c.2.1 x7.2 (spOf c) (ZD x6)) 2 x7.1, c.2.2.1, false, false, c.2.2.2.2.2)))) (.leaf none)) (.leaf none))
theorem ZC5 (a : HL Zo) : Zg (envX Tryz.prog (Zay 18) [] 1023 8) Tryz.f111 Zo Z3 a = Zq4 a.1 a.2.1 a.2.2.1 a.2.2.2 := by kernel_rfl
def Zq0 (c : TC) (s : Int) (g : List Int) (ln : QT0) : RT (Option TC) :=
 let x1 : QT1 := (c, s == 5, g, (0, 0, 0, 0, 0, 0, 0, 0), [])
 let x2 := qAtC x1 0
 let x3 := Zb c.1 (qAt x1 0)
 let x4 := !x2 || x3.1 == 22
 let x5 := c.2.1.2.2.2.2.2.2.2.1.2.2.2
 let x6 := x5.2
 let x7 := x6.2
 .br (Ze s) (.leaf (some ((c.1, (rgx c.2.1 c.2.1.2.2.2.2.2.2.2.1 (u16.wrap ((spOf c) - 2)) (Zh s)), c.2.2)))) (.br (!x4 || x2) (.br (x4) (.leaf (some ((c.1, (rgx c.2.1 ((c.2.1.2.2.2.2.2.2.2.1.1, c.2.1.2.2.2.2.2.2.2.1.2.1, c.2.1.2.2.2.2.2.2.2.1.2.2.1, x5.1, x6.1, x7.1, !x7.2)) (spOf c) (ZD (c, s == 5, g, (22, x3.2), []))), c.2.2.1, false, false, c.2.2.2.2.2)))) (.leaf none)) (.leaf none))
theorem ZC1 (a : HL Zo) : Zg (envX Tryz.prog (Zay 22) [] 1023 8) Tryz.f111 Zo Z3 a = Zq0 a.1 a.2.1 a.2.2.1 a.2.2.2 := by kernel_rfl
def ZqW (c : TC) (s : Int) (g : List Int) (ln : QT0) : RT (Option TC) :=
 let x1 : QT1 := (c, s == 5, g, (0, 0, 0, 0, 0, 0, 0, 0), [])
 let x2 := qAtC x1 0
 let x3 := Zb c.1 (qAt x1 0)
 let x4 := !x2 || x3.1 == 26
 let x5 : QT1 := (c, s == 5, g, (26, x3.2), [])
 let x6 := Zf4 x5
 .br (Ze s) (.leaf (some ((c.1, (rgx c.2.1 c.2.1.2.2.2.2.2.2.2.1 (u16.wrap ((spOf c) - 2)) (Zh s)), c.2.2)))) (.br (!x4 || x2) (.br (x4) (.br (!x6 || Zch x5 1) (.leaf (some ((c.1, (rgx c.2.1 c.2.1.2.2.2.2.2.2.2.1 (bif x6 then u16.wrap ((spOf c) + 2) else (spOf c)) (bif x6 then Ze9 x5 1 else ZD x5)), c.2.2.1, false, false, c.2.2.2.2.2)))) (.leaf none)) (.leaf none)) (.leaf none))
theorem ZCX (a : HL Zo) : Zg (envX Tryz.prog (Zay 26) [] 1023 8) Tryz.f111 Zo Z3 a = ZqW a.1 a.2.1 a.2.2.1 a.2.2.2 := by kernel_rfl
def ZqS (c : TC) (s : Int) (g : List Int) (ln : QT0) : RT (Option TC) :=
 let x1 := u16.wrap ((spOf c) - 2)
 let x2 : QT1 := (c, s == 5, g, (0, 0, 0, 0, 0, 0, 0, 0), [])
 let x3 := qAtC x2 0
 let x4 := Zb c.1 (qAt x2 0)
 let x5 := !x3 || x4.1 == 30
 .br (Ze s) (.leaf (some ((c.1, (rgx c.2.1 c.2.1.2.2.2.2.2.2.2.1 x1 (Zh s)), c.2.2)))) (.br (!x5 || x3) (.br (x5) (.leaf (some ((c.1, (rgx c.2.1 c.2.1.2.2.2.2.2.2.2.1 x1 (ZD (c, s == 5, g, (30, x4.2), []))), c.2.2.1, false, false, c.2.2.2.2.2)))) (.leaf none)) (.leaf none))
theorem ZCT (a : HL Zo) : Zg (envX Tryz.prog (Zay 30) [] 1023 8) Tryz.f111 Zo Z3 a = ZqS a.1 a.2.1 a.2.2.1 a.2.2.2 := by kernel_rfl
def ZqO (c : TC) (s : Int) (g : List Int) (ln : QT0) : RT (Option TC) :=
 let x1 : QT1 := (c, s == 5, g, (0, 0, 0, 0, 0, 0, 0, 0), [])
 let x2 := qAtC x1 0
 let x3 := Zb c.1 (qAt x1 0)
 let x4 := !x2 || x3.1 == 34
 .br (Ze s) (.leaf (some ((c.1, (rgx c.2.1 c.2.1.2.2.2.2.2.2.2.1 (u16.wrap ((spOf c) - 2)) (Zh s)), c.2.2)))) (.br (!x4 || x2) (.br (x4) (.leaf (some ((c.1, (rgx c.2.1 c.2.1.2.2.2.2.2.2.2.1 (spOf c) (ZD (c, s == 5, g, (34, x3.2), []))), c.2.2.1, false, false, c.2.2.2.2.2)))) (.leaf none)) (.leaf none))
theorem ZCP (a : HL Zo) : Zg (envX Tryz.prog (Zay 34) [] 1023 8) Tryz.f111 Zo Z3 a = ZqO a.1 a.2.1 a.2.2.1 a.2.2.2 := by kernel_rfl
def ZqK (c : TC) (s : Int) (g : List Int) (ln : QT0) : RT (Option TC) :=
 let x1 : QT1 := (c, s == 5, g, (0, 0, 0, 0, 0, 0, 0, 0), [])
 let x2 := qAtC x1 0
 let x3 := Zb c.1 (qAt x1 0)
 let x4 := !x2 || x3.1 == 38
 let x5 := rRim (c.1, (rgx c.2.1 c.2.1.2.2.2.2.2.2.2.1 (spOf c) (ZD (c, s == 5, g, (38, x3.2), []))), c.2.2.1, 38 == 35, 38 == 37, c.2.2.2.2.2) ln
 let x6 := x5.2
 let x7 := x6.2
 let x8 := x7.2
 let x9 := x8.2.2.2
 let x10 := x9.2
 let x11 := x10.2
 let x12 := x11.2
 let x13 := x12.2
 .br (Ze s) (.leaf (some ((c.1, (rgx c.2.1 c.2.1.2.2.2.2.2.2.2.1 (u16.wrap ((spOf c) - 2)) (Zh s)), c.2.2)))) (.br (!x4 || x2) (.br (x4) (.leaf (some ((x6.1, (x5.1, x7.1.2), x8.1, false, false, x9.1, x10.1, x11.1, x12.1, x13.1, false, false, x13.2.2.2)))) (.leaf none)) (.leaf none))
theorem ZCL (a : HL Zo) : Zg (envX Tryz.prog (Zay 38) [] 1023 8) Tryz.f111 Zo Z3 a = ZqK a.1 a.2.1 a.2.2.1 a.2.2.2 := by kernel_rfl
def ZqG (c : TC) (s : Int) (g : List Int) (ln : QT0) : RT (Option TC) :=
 let x1 : QT1 := (c, s == 5, g, (0, 0, 0, 0, 0, 0, 0, 0), [])
 let x2 := qAtC x1 0
 let x3 := Zb c.1 (qAt x1 0)
 let x4 := !x2 || x3.1 == 42
 let x5 := c.2.1.2.2.2.2.2.2.2.1.2.2.2
 let x6 := x5.2
 let x7 : QT1 := (c, s == 5, g, (42, x3.2), [])
 let x8 := ZsP (Zdn x7 1) x6.2.2
 let x9 := x8.2
 .br (Ze s) (.leaf (some ((c.1, (rgx c.2.1 c.2.1.2.2.2.2.2.2.2.1 (u16.wrap ((spOf c) - 2)) (Zh s)), c.2.2)))) (.br (!x4 || x2) (.br (x4) (.leaf (some ((c.1, Zr (rgx c.2.1 ((c.2.1.2.2.2.2.2.2.2.1.1, c.2.1.2.2.2.2.2.2.2.1.2.1, c.2.1.2.2.2.2.2.2.2.1.2.2.1, x5.1, x6.1, x9.2, x9.1)) (spOf c) (ZD x7)) 1 x8.1, c.2.2.1, false, false, c.2.2.2.2.2)))) (.leaf none)) (.leaf none))
theorem ZCH (a : HL Zo) : Zg (envX Tryz.prog (Zay 42) [] 1023 8) Tryz.f111 Zo Z3 a = ZqG a.1 a.2.1 a.2.2.1 a.2.2.2 := by kernel_rfl
def ZqC (c : TC) (s : Int) (g : List Int) (ln : QT0) : RT (Option TC) :=
 let x1 : QT1 := (c, s == 5, g, (0, 0, 0, 0, 0, 0, 0, 0), [])
 let x2 := qAtC x1 0
 let x3 := Zb c.1 (qAt x1 0)
 let x4 := !x2 || x3.1 == 46
 .br (Ze s) (.leaf (some ((c.1, (rgx c.2.1 c.2.1.2.2.2.2.2.2.2.1 (u16.wrap ((spOf c) - 2)) (Zh s)), c.2.2)))) (.br (!x4 || x2) (.br (x4) (.leaf (some ((c.1, (rgx c.2.1 c.2.1.2.2.2.2.2.2.2.1 (spOf c) (ZD (c, s == 5, g, (46, x3.2), []))), c.2.2.1, false, false, c.2.2.2.2.2)))) (.leaf none)) (.leaf none))
theorem ZCD (a : HL Zo) : Zg (envX Tryz.prog (Zay 46) [] 1023 8) Tryz.f111 Zo Z3 a = ZqC a.1 a.2.1 a.2.2.1 a.2.2.2 := by kernel_rfl
def Zv3 (c : TC) (s : Int) (g : List Int) (ln : QT0) : RT (Option TC) :=
 let x1 := Zb c.1 (mAt (c, s == 5, g, []) 0)
 let x2 := x1.2
 let x3 := rSet c.2.1 x2.2.1 (mAt (c, s == 5, g, []) 1)
 let x4 := x3.2
 let x5 := x4.2
 let x6 := x5.2
 let x7 := x6.2
 let x8 := x7.2
 let x9 := x8.2
 let x10 := x9.2
 .br (Za s) (.leaf (some ((c.1, (rgx c.2.1 c.2.1.2.2.2.2.2.2.2.1 (u16.wrap ((spOf c) - 2)) (Zh s)), c.2.2)))) (.br (!mAtC (c, s == 5, g, []) 0 || x1.1 == 3) (.br (mAtC (c, s == 5, g, []) 0) (.br (mAtC (c, s == 5, g, []) 1) (.leaf (some ((c.1, (x3.1, x4.1, x5.1, x6.1, x7.1, x8.1, x9.1, x10.1, x10.2.1, ZA (c, s == 5, g, []) x2.1), c.2.2.1, false, false, c.2.2.2.2.2)))) (.leaf none)) (.leaf none)) (.leaf none))
theorem ZFI (a : HL Zn) : Zg (envX Tryz.prog (Zax 3) [] 79250227772808467515411824639 8) Tryz.f98 Zn Z1 a = Zv3 a.1 a.2.1 a.2.2.1 a.2.2.2 := by kernel_rfl
def ZvZ (c : TC) (s : Int) (g : List Int) (ln : QT0) : RT (Option TC) :=
 let x1 := Zb c.1 (mAt (c, s == 5, g, []) 0)
 let x2 := !mAtC (c, s == 5, g, []) 3 || mAtC (c, s == 5, g, []) 4
 let x3 := !x2 || mAtC (c, s == 5, g, []) 3
 let x4 := !x3 || x2
 .br (Za s) (.leaf (some ((c.1, (rgx c.2.1 c.2.1.2.2.2.2.2.2.2.1 (u16.wrap ((spOf c) - 2)) (Zh s)), c.2.2)))) (.br (!mAtC (c, s == 5, g, []) 0 || x1.1 == 7) (.br (mAtC (c, s == 5, g, []) 0) (.br (!x4 || x3) (.br (x4) (.leaf (some ((c.1, (c.2.1.1, c.2.1.2.1, c.2.1.2.2.1, c.2.1.2.2.2.1, c.2.1.2.2.2.2.1, mAt (c, s == 5, g, []) 4, mAt (c, s == 5, g, []) 3, c.2.1.2.2.2.2.2.2.2.1, spOf c, ZA (c, s == 5, g, []) x1.2.1), c.2.2.1, false, false, c.2.2.2.2.2)))) (.leaf none)) (.leaf none)) (.leaf none)) (.leaf none))
theorem ZFE (a : HL Zn) : Zg (envX Tryz.prog (Zax 7) [] 79250227772808467515411824639 8) Tryz.f98 Zn Z1 a = ZvZ a.1 a.2.1 a.2.2.1 a.2.2.2 := by kernel_rfl
def ZpS (c : TC) (s : Int) (g : List Int) (ln : QT0) : RT (Option TC) :=
 let x1 := Zb c.1 (mAt (c, s == 5, g, []) 0)
 .br (Za s) (.leaf (some ((c.1, (rgx c.2.1 c.2.1.2.2.2.2.2.2.2.1 (u16.wrap ((spOf c) - 2)) (Zh s)), c.2.2)))) (.br (!mAtC (c, s == 5, g, []) 0 || x1.1 == 11) (.br (mAtC (c, s == 5, g, []) 0) (.leaf (some ((c.1, (c.2.1.1, c.2.1.2.1, c.2.1.2.2.1, c.2.1.2.2.2.2.2.1, c.2.1.2.2.2.2.2.2.1, c.2.1.2.2.2.1, c.2.1.2.2.2.2.1, c.2.1.2.2.2.2.2.2.2.1, spOf c, ZA (c, s == 5, g, []) x1.2.1), c.2.2.1, false, false, c.2.2.2.2.2)))) (.leaf none)) (.leaf none))
theorem ZB8 (a : HL Zn) : Zg (envX Tryz.prog (Zax 11) [] 79250227772808467515411824639 8) Tryz.f98 Zn Z1 a = ZpS a.1 a.2.1 a.2.2.1 a.2.2.2 := by kernel_rfl
def ZpO (c : TC) (s : Int) (g : List Int) (ln : QT0) : RT (Option TC) :=
 let x1 := Zb c.1 (mAt (c, s == 5, g, []) 0)
 let x2 := x1.2
 let x3 := x2.2.1
 let x4 := x3 == 6
 let x5 := ZfF c (15, x2) (bif x4 then mAt (c, s == 5, g, []) 1 else rGet c.2.1 x3)
 let x6 := rSet c.2.1 x3 x5.1
 let x7 := x6.2
 let x8 := x7.2
 let x9 := x8.2
 let x10 := x9.2
 let x11 := x10.2
 let x12 := x11.2
 .br (Za s) (.leaf (some ((c.1, (rgx c.2.1 c.2.1.2.2.2.2.2.2.2.1 (u16.wrap ((spOf c) - 2)) (Zh s)), c.2.2)))) (.br (!mAtC (c, s == 5, g, []) 0 || x1.1 == 15) (.br (mAtC (c, s == 5, g, []) 0) (.br (!x4 || mAtC (c, s == 5, g, []) 1) (.leaf (some ((c.1, (x6.1, x7.1, x8.1, x9.1, x10.1, x11.1, x12.1, x5.2, x12.2.2.1, ZA (c, s == 5, g, []) x2.1), c.2.2.1, false, false, c.2.2.2.2.2)))) (.leaf none)) (.leaf none)) (.leaf none))
theorem ZB4 (a : HL Zn) : Zg (envX Tryz.prog (Zax 15) [] 79250227772808467515411824639 8) Tryz.f98 Zn Z1 a = ZpO a.1 a.2.1 a.2.2.1 a.2.2.2 := by kernel_rfl
def ZpK (c : TC) (s : Int) (g : List Int) (ln : QT0) : RT (Option TC) :=
 let x1 := Zb c.1 (mAt (c, s == 5, g, []) 0)
 let x2 := rDaa c.1 c.2.1.1 c.2.1.2.2.2.2.2.2.2.1
 .br (Za s) (.leaf (some ((c.1, (rgx c.2.1 c.2.1.2.2.2.2.2.2.2.1 (u16.wrap ((spOf c) - 2)) (Zh s)), c.2.2)))) (.br (!mAtC (c, s == 5, g, []) 0 || x1.1 == 19) (.br (mAtC (c, s == 5, g, []) 0) (.leaf (some ((c.1, (x2.1, c.2.1.2.1, c.2.1.2.2.1, c.2.1.2.2.2.1, c.2.1.2.2.2.2.1, c.2.1.2.2.2.2.2.1, c.2.1.2.2.2.2.2.2.1, x2.2, spOf c, ZA (c, s == 5, g, []) x1.2.1), c.2.2.1, false, false, c.2.2.2.2.2)))) (.leaf none)) (.leaf none))
theorem ZB0 (a : HL Zn) : Zg (envX Tryz.prog (Zax 19) [] 79250227772808467515411824639 8) Tryz.f98 Zn Z1 a = ZpK a.1 a.2.1 a.2.2.1 a.2.2.2 := by kernel_rfl
def ZpG (c : TC) (s : Int) (g : List Int) (ln : QT0) : RT (Option TC) :=
 let x1 := Zb c.1 (mAt (c, s == 5, g, []) 0)
 let x2 := x1.2
 let x3 := c.2.1.2.2.2.2.2.2.2.1.2.2.2
 let x4 := x3.2
 let x5 := x4.2
 let x6 := rRot x2.2.2.2.2.1 c.2.1.1 x5.2
 .br (Za s) (.leaf (some ((c.1, (rgx c.2.1 c.2.1.2.2.2.2.2.2.2.1 (u16.wrap ((spOf c) - 2)) (Zh s)), c.2.2)))) (.br (!mAtC (c, s == 5, g, []) 0 || x1.1 == 23) (.br (mAtC (c, s == 5, g, []) 0) (.leaf (some ((c.1, (x6.1, c.2.1.2.1, c.2.1.2.2.1, c.2.1.2.2.2.1, c.2.1.2.2.2.2.1, c.2.1.2.2.2.2.2.1, c.2.1.2.2.2.2.2.2.1, (c.2.1.2.2.2.2.2.2.2.1.1, c.2.1.2.2.2.2.2.2.2.1.2.1, c.2.1.2.2.2.2.2.2.2.1.2.2.1, x3.1, x4.1, x5.1, x6.2), spOf c, ZA (c, s == 5, g, []) x2.1), c.2.2.1, false, false, c.2.2.2.2.2)))) (.leaf none)) (.leaf none))
theorem ZBW (a : HL Zn) : Zg (envX Tryz.prog (Zax 23) [] 79250227772808467515411824639 8) Tryz.f98 Zn Z1 a = ZpG a.1 a.2.1 a.2.2.1 a.2.2.2 := by kernel_rfl
def ZpC (c : TC) (s : Int) (g : List Int) (ln : QT0) : RT (Option TC) :=
 let x1 := u16.wrap ((spOf c) - 2)
 let x2 := Zb c.1 (mAt (c, s == 5, g, []) 0)
 .br (Za s) (.leaf (some ((c.1, (rgx c.2.1 c.2.1.2.2.2.2.2.2.2.1 x1 (Zh s)), c.2.2)))) (.br (!mAtC (c, s == 5, g, []) 0 || x2.1 == 27) (.br (mAtC (c, s == 5, g, []) 0) (.leaf (some ((c.1, (rgx c.2.1 c.2.1.2.2.2.2.2.2.2.1 x1 (u16.wrap (i64.wrap (8 * x2.2.2.2.2.2.2.2)))), c.2.2.1, false, false, c.2.2.2.2.2)))) (.leaf none)) (.leaf none))
theorem ZBS (a : HL Zn) : Zg (envX Tryz.prog (Zax 27) [] 79250227772808467515411824639 8) Tryz.f98 Zn Z1 a = ZpC a.1 a.2.1 a.2.2.1 a.2.2.2 := by kernel_rfl
def Zpy (c : TC) (s : Int) (g : List Int) (ln : QT0) : RT (Option TC) :=
 let x1 := Zb c.1 (mAt (c, s == 5, g, []) 0)
 let x2 := x1.2
 let x3 := x2.2.2.2.1
 let x4 := x3 == 3
 let x5 := !x4 || ZbO (c, s == 5, g, []) 1
 let x6 := !x5 || (x4 || ZbO (c, s == 5, g, []) 1)
 let x7 := !x6 || x5
 let x8 := Ze2 c.1 c.2.1 (ZdP (c, s == 5, g, []) 1)
 let x9 := Zr c.2.1 x3 (ZdP (c, s == 5, g, []) 1)
 let x10 := x8.2
 let x11 := x9.2
 let x12 := x10.2
 let x13 := x11.2
 let x14 := x12.2
 let x15 := x13.2
 let x16 := x14.2
 let x17 := x15.2
 let x18 := x16.2
 let x19 := x17.2
 let x20 := x18.2
 let x21 := x19.2
 let x22 := x20.2
 let x23 := x22.1
 let x24 := x21.2
 let x25 := x24.1
 let x26 := x23.2
 let x27 := x25.2
 let x28 := x26.2
 let x29 := x27.2
 let x30 := x28.2
 let x31 := x29.2
 let x32 := x30.2
 let x33 := x31.2
 let x34 := x32.2
 let x35 := x33.2
 .br (Za s) (.leaf (some ((c.1, (rgx c.2.1 c.2.1.2.2.2.2.2.2.2.1 (u16.wrap ((spOf c) - 2)) (Zh s)), c.2.2)))) (.br (!mAtC (c, s == 5, g, []) 0 || x1.1 == 31) (.br (mAtC (c, s == 5, g, []) 0) (.br (!x7 || x6) (.br (x7) (.leaf (some ((c.1, (bif x4 then x8.1 else x9.1, bif x4 then x10.1 else x11.1, bif x4 then x12.1 else x13.1, bif x4 then x14.1 else x15.1, bif x4 then x16.1 else x17.1, bif x4 then x18.1 else x19.1, bif x4 then x20.1 else x21.1, (bif x4 then x23.1 else x25.1, bif x4 then x26.1 else x27.1, bif x4 then x28.1 else x29.1, bif x4 then x30.1 else x31.1, bif x4 then x32.1 else x33.1, bif x4 then x34.1 else x35.1, bif x4 then x34.2 else x35.2), u16.wrap ((bif x4 then x22.2.1 else x24.2.1) + 2), ZA (c, s == 5, g, []) x2.1), c.2.2.1, false, false, c.2.2.2.2.2)))) (.leaf none)) (.leaf none)) (.leaf none)) (.leaf none))
theorem ZBO (a : HL Zn) : Zg (envX Tryz.prog (Zax 31) [] 79250227772808467515411824639 8) Tryz.f98 Zn Z1 a = Zpy a.1 a.2.1 a.2.2.1 a.2.2.2 := by kernel_rfl
def Zpu (c : TC) (s : Int) (g : List Int) (ln : QT0) : RT (Option TC) :=
 let x1 := Zb c.1 (mAt (c, s == 5, g, []) 0)
 .br (Za s) (.leaf (some ((c.1, (rgx c.2.1 c.2.1.2.2.2.2.2.2.2.1 (u16.wrap ((spOf c) - 2)) (Zh s)), c.2.2)))) (.br (!mAtC (c, s == 5, g, []) 0 || x1.1 == 35) (.br (mAtC (c, s == 5, g, []) 0) (.leaf (some ((c.1, (rgx c.2.1 c.2.1.2.2.2.2.2.2.2.1 (spOf c) (ZA (c, s == 5, g, []) x1.2.1)), true, true, false, c.2.2.2.2.2)))) (.leaf none)) (.leaf none))
theorem ZBK (a : HL Zn) : Zg (envX Tryz.prog (Zax 35) [] 79250227772808467515411824639 8) Tryz.f98 Zn Z1 a = Zpu a.1 a.2.1 a.2.2.1 a.2.2.2 := by kernel_rfl
def Zpq (c : TC) (s : Int) (g : List Int) (ln : QT0) : RT (Option TC) :=
 let x1 := Zb c.1 (mAt (c, s == 5, g, []) 0)
 let x2 := rSim (c.1, (rgx c.2.1 c.2.1.2.2.2.2.2.2.2.1 (spOf c) (ZA (c, s == 5, g, []) x1.2.1)), c.2.2) c.2.1.1
 let x3 := x2.2
 let x4 := x3.2
 .br (Za s) (.leaf (some ((c.1, (rgx c.2.1 c.2.1.2.2.2.2.2.2.2.1 (u16.wrap ((spOf c) - 2)) (Zh s)), c.2.2)))) (.br (!mAtC (c, s == 5, g, []) 0 || x1.1 == 39) (.br (mAtC (c, s == 5, g, []) 0) (.leaf (some ((x2.1, x3.1, x4.1, false, false, x4.2.2.2)))) (.leaf none)) (.leaf none))
theorem ZBG (a : HL Zn) : Zg (envX Tryz.prog (Zax 39) [] 79250227772808467515411824639 8) Tryz.f98 Zn Z1 a = Zpq a.1 a.2.1 a.2.2.1 a.2.2.2 := by kernel_rfl
def Zpm (c : TC) (s : Int) (g : List Int) (ln : QT0) : RT (Option TC) :=
 let x1 := Zb c.1 (mAt (c, s == 5, g, []) 0)
 let x2 := Zr c.2.1 1 (u16.wrap (Zac c.2.1 2 + u16.wrap (mAt (c, s == 5, g, []) 1)))
 let x3 := x2.2
 let x4 := x3.2
 let x5 := x4.2
 let x6 := x5.2
 let x7 := x6.2
 let x8 := x7.2
 let x9 := x8.2
 .br (Za s) (.leaf (some ((c.1, (rgx c.2.1 c.2.1.2.2.2.2.2.2.2.1 (u16.wrap ((spOf c) - 2)) (Zh s)), c.2.2)))) (.br (!mAtC (c, s == 5, g, []) 0 || x1.1 == 43) (.br (mAtC (c, s == 5, g, []) 0) (.br (mAtC (c, s == 5, g, []) 1) (.leaf (some ((c.1, (x2.1, x3.1, x4.1, x5.1, x6.1, x7.1, x8.1, x9.1, x9.2.1, ZA (c, s == 5, g, []) x1.2.1), c.2.2.1, false, false, c.2.2.2.2.2)))) (.leaf none)) (.leaf none)) (.leaf none))
theorem ZBC (a : HL Zn) : Zg (envX Tryz.prog (Zax 43) [] 79250227772808467515411824639 8) Tryz.f98 Zn Z1 a = Zpm a.1 a.2.1 a.2.2.1 a.2.2.2 := by kernel_rfl
def Zpi (c : TC) (s : Int) (g : List Int) (ln : QT0) : RT (Option TC) :=
 let x1 := Zb c.1 (mAt (c, s == 5, g, []) 0)
 let x2 := !mAtC (c, s == 5, g, []) 1 || mAtC (c, s == 5, g, []) 2
 let x3 := !x2 || mAtC (c, s == 5, g, []) 1
 let x4 := !x3 || x2
 .br (Za s) (.leaf (some ((c.1, (rgx c.2.1 c.2.1.2.2.2.2.2.2.2.1 (u16.wrap ((spOf c) - 2)) (Zh s)), c.2.2)))) (.br (!mAtC (c, s == 5, g, []) 0 || x1.1 == 47) (.br (mAtC (c, s == 5, g, []) 0) (.br (!x4 || x3) (.br (x4) (.leaf (some ((c.1, (c.2.1.1, c.2.1.2.1, c.2.1.2.2.1, c.2.1.2.2.2.1, c.2.1.2.2.2.2.1, mAt (c, s == 5, g, []) 2, mAt (c, s == 5, g, []) 1, c.2.1.2.2.2.2.2.2.2.1, spOf c, ZA (c, s == 5, g, []) x1.2.1), c.2.2.1, false, false, c.2.2.2.2.2)))) (.leaf none)) (.leaf none)) (.leaf none)) (.leaf none))
theorem ZBy (a : HL Zn) : Zg (envX Tryz.prog (Zax 47) [] 79250227772808467515411824639 8) Tryz.f98 Zn Z1 a = Zpi a.1 a.2.1 a.2.2.1 a.2.2.2 := by kernel_rfl
end
end Go.Proofs.YtghoimllhpjkjaaGreat
