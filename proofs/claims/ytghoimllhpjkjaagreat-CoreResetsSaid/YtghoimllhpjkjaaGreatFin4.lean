/-
  Contracts of functions; each found by the symbolic executor and checked by the kernel. Conditions: none.
-/
import Derived.Test.YtghoimllhpjkjaaGreatS3D
import Derived.Test.YtghoimllhpjkjaaGreatProg
import Derived.Test.YtghoimllhpjkjaaGreatFin0
open Go.IntKind (u8 u16 i64)
set_option linter.unusedSimpArgs false
open Go Go.S3 Go.Proofs
set_option linter.unusedVariables false
set_option maxRecDepth 100000
namespace Go.Proofs.YtghoimllhpjkjaaGreat
noncomputable section
def ZAw (c : TC) (s : Int) (g : List Int) (ln : QT0) : RT (Option TC) :=
 let x1 : QT1 := (c, s == 5, g, (0, 0, 0, 0, 0, 0, 0, 0), [])
 let x2 := qAtC x1 0
 let x3 := Za c.1 (qAt x1 0)
 let x4 := !x2 || x3.1 == 1
 .br (Ze s) (.leaf (some ((c.1, (rgx c.2.1 c.2.1.2.2.2.2.2.2.2.1 (u16.wrap ((spOf c) - 2)) (Zi s)), c.2.2)))) (.br (!x4 || x2) (.br (x4) (.leaf (some ((c.1, (rgx c.2.1 c.2.1.2.2.2.2.2.2.2.1 (spOf c) (ZD (c, s == 5, g, (1, x3.2), []))), c.2.2.1, false, false, c.2.2.2.2.2)))) (.leaf none)) (.leaf none))
theorem ZMj (a : HL Zp) : Zh (envX Tryz.prog (ZaG 1) [] 1023 8) Tryz.f111 Zp Z2 a = ZAw a.1 a.2.1 a.2.2.1 a.2.2.2 := by kernel_rfl
def ZAs (c : TC) (s : Int) (g : List Int) (ln : QT0) : RT (Option TC) :=
 let x1 : QT1 := (c, s == 5, g, (0, 0, 0, 0, 0, 0, 0, 0), [])
 let x2 := qAtC x1 0
 let x3 := Za c.1 (qAt x1 0)
 let x4 := !x2 || x3.1 == 5
 let x5 : QT1 := (c, s == 5, g, (5, x3.2), [])
 .br (Ze s) (.leaf (some ((c.1, (rgx c.2.1 c.2.1.2.2.2.2.2.2.2.1 (u16.wrap ((spOf c) - 2)) (Zi s)), c.2.2)))) (.br (!x4 || x2) (.br (x4) (.br (qAtC x5 3) (.leaf (some ((c.1, (qAt x5 3, c.2.1.2.1, c.2.1.2.2.1, c.2.1.2.2.2.1, c.2.1.2.2.2.2.1, c.2.1.2.2.2.2.2.1, c.2.1.2.2.2.2.2.2.1, c.2.1.2.2.2.2.2.2.2.1, spOf c, ZD x5), c.2.2.1, false, false, c.2.2.2.2.2)))) (.leaf none)) (.leaf none)) (.leaf none))
theorem ZMf (a : HL Zp) : Zh (envX Tryz.prog (ZaG 5) [] 1023 8) Tryz.f111 Zp Z2 a = ZAs a.1 a.2.1 a.2.2.1 a.2.2.2 := by kernel_rfl
def ZAo (c : TC) (s : Int) (g : List Int) (ln : QT0) : RT (Option TC) :=
 let x1 : QT1 := (c, s == 5, g, (0, 0, 0, 0, 0, 0, 0, 0), [])
 let x2 := qAtC x1 0
 let x3 := Za c.1 (qAt x1 0)
 let x4 := !x2 || x3.1 == 9
 let x5 : QT1 := (c, s == 5, g, (9, x3.2), [])
 .br (Ze s) (.leaf (some ((c.1, (rgx c.2.1 c.2.1.2.2.2.2.2.2.2.1 (u16.wrap ((spOf c) - 2)) (Zi s)), c.2.2)))) (.br (!x4 || x2) (.br (x4) (.br (qAtC x5 1) (.leaf (some ((c.1, (qAt x5 1, c.2.1.2.1, c.2.1.2.2.1, c.2.1.2.2.2.1, c.2.1.2.2.2.2.1, c.2.1.2.2.2.2.2.1, c.2.1.2.2.2.2.2.2.1, c.2.1.2.2.2.2.2.2.2.1, spOf c, ZD x5), c.2.2.1, false, false, c.2.2.2.2.2)))) (.leaf none)) (.leaf none)) (.leaf none))
theorem ZMb (a : HL Zp) : Zh (envX Tryz.prog (ZaG 9) [] 1023 8) Tryz.f111 Zp Z2 a = ZAo a.1 a.2.1 a.2.2.1 a.2.2.2 := by kernel_rfl
def Zs2 (c : TC) (s : Int) (g : List Int) (ln : QT0) : RT (Option TC) :=
 let x1 : QT1 := (c, s == 5, g, (0, 0, 0, 0, 0, 0, 0, 0), [])
 let x2 := qAtC x1 0
 let x3 := Za c.1 (qAt x1 0)
 let x4 := !x2 || x3.1 == 13
 let x5 := x3.2
 let x6 : QT1 := (c, s == 5, g, (13, x5), [])
 let x7 := rDo c.1 x5.2.2.2.2.1 c.2.1.1 (ZhO x6) c.2.1.2.2.2.2.2.2.2.1
 .br (Ze s) (.leaf (some ((c.1, (rgx c.2.1 c.2.1.2.2.2.2.2.2.2.1 (u16.wrap ((spOf c) - 2)) (Zi s)), c.2.2)))) (.br (!x4 || x2) (.br (x4) (.br (ZfH x6) (.leaf (some ((c.1, (x7.1, c.2.1.2.1, c.2.1.2.2.1, c.2.1.2.2.2.1, c.2.1.2.2.2.2.1, c.2.1.2.2.2.2.2.1, c.2.1.2.2.2.2.2.2.1, x7.2, spOf c, ZD x6), c.2.2.1, false, false, c.2.2.2.2.2)))) (.leaf none)) (.leaf none)) (.leaf none))
theorem ZG5 (a : HL Zp) : Zh (envX Tryz.prog (ZaG 13) [] 1023 8) Tryz.f111 Zp Z2 a = Zs2 a.1 a.2.1 a.2.2.1 a.2.2.2 := by kernel_rfl
def ZsY (c : TC) (s : Int) (g : List Int) (ln : QT0) : RT (Option TC) :=
 let x1 : QT1 := (c, s == 5, g, (0, 0, 0, 0, 0, 0, 0, 0), [])
 let x2 := qAtC x1 0
 let x3 := Za c.1 (qAt x1 0)
 let x4 := !x2 || x3.1 == 17
 let x5 := x3.2
 let x6 : QT1 := (c, s == 5, g, (17, x5), [])
 let x7 := x5.2.2.2.1
 let x8 := rDcx c.1 (ZdG x6 x7) c.2.1.2.2.2.2.2.2.2.1
 .br (Ze s) (.leaf (some ((c.1, (rgx c.2.1 c.2.1.2.2.2.2.2.2.2.1 (u16.wrap ((spOf c) - 2)) (Zi s)), c.2.2)))) (.br (!x4 || x2) (.br (x4) (.leaf (some ((c.1, Zs (rgx c.2.1 x8.2 (spOf c) (ZD x6)) x7 x8.1, c.2.2.1, false, false, c.2.2.2.2.2)))) (.leaf none)) (.leaf none))
theorem ZG1 (a : HL Zp) : Zh (envX Tryz.prog (ZaG 17) [] 1023 8) Tryz.f111 Zp Z2 a = ZsY a.1 a.2.1 a.2.2.1 a.2.2.2 := by kernel_rfl
def ZsU (c : TC) (s : Int) (g : List Int) (ln : QT0) : RT (Option TC) :=
 let x1 : QT1 := (c, s == 5, g, (0, 0, 0, 0, 0, 0, 0, 0), [])
 let x2 := qAtC x1 0
 let x3 := Za c.1 (qAt x1 0)
 let x4 := !x2 || x3.1 == 21
 let x5 := c.2.1.2.2.2.2.2.2.2.1.2.2.2
 let x6 := x5.2
 .br (Ze s) (.leaf (some ((c.1, (rgx c.2.1 c.2.1.2.2.2.2.2.2.2.1 (u16.wrap ((spOf c) - 2)) (Zi s)), c.2.2)))) (.br (!x4 || x2) (.br (x4) (.leaf (some ((c.1, (rgx c.2.1 ((c.2.1.2.2.2.2.2.2.2.1.1, c.2.1.2.2.2.2.2.2.2.1.2.1, c.2.1.2.2.2.2.2.2.2.1.2.2.1, x5.1, x6.1, x6.2.1, true)) (spOf c) (ZD (c, s == 5, g, (21, x3.2), []))), c.2.2.1, false, false, c.2.2.2.2.2)))) (.leaf none)) (.leaf none))
theorem ZGX (a : HL Zp) : Zh (envX Tryz.prog (ZaG 21) [] 1023 8) Tryz.f111 Zp Z2 a = ZsU a.1 a.2.1 a.2.2.1 a.2.2.2 := by kernel_rfl
def ZsQ (c : TC) (s : Int) (g : List Int) (ln : QT0) : RT (Option TC) :=
 let x1 := u16.wrap ((spOf c) - 2)
 let x2 : QT1 := (c, s == 5, g, (0, 0, 0, 0, 0, 0, 0, 0), [])
 let x3 := qAtC x2 0
 let x4 := Za c.1 (qAt x2 0)
 let x5 := !x3 || x4.1 == 25
 let x6 : QT1 := (c, s == 5, g, (25, x4.2), [])
 let x7 := ZgJ x6
 .br (Ze s) (.leaf (some ((c.1, (rgx c.2.1 c.2.1.2.2.2.2.2.2.2.1 x1 (Zi s)), c.2.2)))) (.br (!x5 || x3) (.br (x5) (.br (!x7 || Zcq x6 1) (.leaf (some ((c.1, (rgx c.2.1 c.2.1.2.2.2.2.2.2.2.1 (bif x7 then x1 else (spOf c)) (bif x7 then ZfI x6 1 else ZD x6)), c.2.2.1, false, false, c.2.2.2.2.2)))) (.leaf none)) (.leaf none)) (.leaf none))
theorem ZGT (a : HL Zp) : Zh (envX Tryz.prog (ZaG 25) [] 1023 8) Tryz.f111 Zp Z2 a = ZsQ a.1 a.2.1 a.2.2.1 a.2.2.2 := by kernel_rfl
def ZsM (c : TC) (s : Int) (g : List Int) (ln : QT0) : RT (Option TC) :=
 let x1 : QT1 := (c, s == 5, g, (0, 0, 0, 0, 0, 0, 0, 0), [])
 let x2 := qAtC x1 0
 let x3 := Za c.1 (qAt x1 0)
 let x4 := !x2 || x3.1 == 29
 let x5 : QT1 := (c, s == 5, g, (29, x3.2), [])
 .br (Ze s) (.leaf (some ((c.1, (rgx c.2.1 c.2.1.2.2.2.2.2.2.2.1 (u16.wrap ((spOf c) - 2)) (Zi s)), c.2.2)))) (.br (!x4 || x2) (.br (x4) (.leaf (some ((c.1, (rgx c.2.1 c.2.1.2.2.2.2.2.2.2.1 (ZdG x5 2) (ZD x5)), c.2.2.1, false, false, c.2.2.2.2.2)))) (.leaf none)) (.leaf none))
theorem ZGP (a : HL Zp) : Zh (envX Tryz.prog (ZaG 29) [] 1023 8) Tryz.f111 Zp Z2 a = ZsM a.1 a.2.1 a.2.2.1 a.2.2.2 := by kernel_rfl
def ZsI (c : TC) (s : Int) (g : List Int) (ln : QT0) : RT (Option TC) :=
 let x1 : QT1 := (c, s == 5, g, (0, 0, 0, 0, 0, 0, 0, 0), [])
 let x2 := qAtC x1 0
 let x3 := Za c.1 (qAt x1 0)
 let x4 := !x2 || x3.1 == 33
 let x5 : QT1 := (c, s == 5, g, (33, x3.2), [])
 .br (Ze s) (.leaf (some ((c.1, (rgx c.2.1 c.2.1.2.2.2.2.2.2.2.1 (u16.wrap ((spOf c) - 2)) (Zi s)), c.2.2)))) (.br (!x4 || x2) (.br (x4) (.br (qAtC x5 2) (.leaf (some ((c.1, (qAt x5 2, c.2.1.2.1, c.2.1.2.2.1, c.2.1.2.2.2.1, c.2.1.2.2.2.2.1, c.2.1.2.2.2.2.2.1, c.2.1.2.2.2.2.2.2.1, c.2.1.2.2.2.2.2.2.2.1, spOf c, ZD x5), c.2.2.1, false, false, c.2.2.2.2.2)))) (.leaf none)) (.leaf none)) (.leaf none))
theorem ZGL (a : HL Zp) : Zh (envX Tryz.prog (ZaG 33) [] 1023 8) Tryz.f111 Zp Z2 a = ZsI a.1 a.2.1 a.2.2.1 a.2.2.2 := by kernel_rfl
def ZsE (c : TC) (s : Int) (g : List Int) (ln : QT0) : RT (Option TC) :=
 let x1 : QT1 := (c, s == 5, g, (0, 0, 0, 0, 0, 0, 0, 0), [])
 let x2 := qAtC x1 0
 let x3 := Za c.1 (qAt x1 0)
 let x4 := !x2 || x3.1 == 37
 .br (Ze s) (.leaf (some ((c.1, (rgx c.2.1 c.2.1.2.2.2.2.2.2.2.1 (u16.wrap ((spOf c) - 2)) (Zi s)), c.2.2)))) (.br (!x4 || x2) (.br (x4) (.leaf (some ((c.1, (rgx c.2.1 c.2.1.2.2.2.2.2.2.2.1 (spOf c) (ZD (c, s == 5, g, (37, x3.2), []))), c.2.2.1, false, true, c.2.2.2.2.2)))) (.leaf none)) (.leaf none))
theorem ZGH (a : HL Zp) : Zh (envX Tryz.prog (ZaG 37) [] 1023 8) Tryz.f111 Zp Z2 a = ZsE a.1 a.2.1 a.2.2.1 a.2.2.2 := by kernel_rfl
def ZsA (c : TC) (s : Int) (g : List Int) (ln : QT0) : RT (Option TC) :=
 let x1 : QT1 := (c, s == 5, g, (0, 0, 0, 0, 0, 0, 0, 0), [])
 let x2 := qAtC x1 0
 let x3 := Za c.1 (qAt x1 0)
 let x4 := !x2 || x3.1 == 41
 let x5 := c.2.1.2.2.2.2.2.2.2.1.2.2.2
 let x6 := x5.2
 let x7 : QT1 := (c, s == 5, g, (41, x3.2), [])
 let x8 := ZrG (ZdG x7 2)
 .br (Ze s) (.leaf (some ((c.1, (rgx c.2.1 c.2.1.2.2.2.2.2.2.2.1 (u16.wrap ((spOf c) - 2)) (Zi s)), c.2.2)))) (.br (!x4 || x2) (.br (x4) (.leaf (some ((c.1, Zs (rgx c.2.1 ((c.2.1.2.2.2.2.2.2.2.1.1, c.2.1.2.2.2.2.2.2.2.1.2.1, c.2.1.2.2.2.2.2.2.2.1.2.2.1, x5.1, x6.1, x6.2.1, x8.2)) (spOf c) (ZD x7)) 2 x8.1, c.2.2.1, false, false, c.2.2.2.2.2)))) (.leaf none)) (.leaf none))
theorem ZGD (a : HL Zp) : Zh (envX Tryz.prog (ZaG 41) [] 1023 8) Tryz.f111 Zp Z2 a = ZsA a.1 a.2.1 a.2.2.1 a.2.2.2 := by kernel_rfl
def Zsw (c : TC) (s : Int) (g : List Int) (ln : QT0) : RT (Option TC) :=
 let x1 := u16.wrap ((spOf c) - 2)
 let x2 : QT1 := (c, s == 5, g, (0, 0, 0, 0, 0, 0, 0, 0), [])
 let x3 := qAtC x2 0
 let x4 := Za c.1 (qAt x2 0)
 let x5 := !x3 || x4.1 == 45
 let x6 : QT1 := (c, s == 5, g, (45, x4.2), [])
 let x7 := ZgJ x6
 .br (Ze s) (.leaf (some ((c.1, (rgx c.2.1 c.2.1.2.2.2.2.2.2.2.1 x1 (Zi s)), c.2.2)))) (.br (!x5 || x3) (.br (x5) (.leaf (some ((c.1, (rgx c.2.1 c.2.1.2.2.2.2.2.2.2.1 (bif x7 then x1 else (spOf c)) (bif x7 then 64 else ZD x6)), c.2.2.1, false, false, c.2.2.2.2.2)))) (.leaf none)) (.leaf none))
theorem ZGz (a : HL Zp) : Zh (envX Tryz.prog (ZaG 45) [] 1023 8) Tryz.f111 Zp Z2 a = Zsw a.1 a.2.1 a.2.2.1 a.2.2.2 := by kernel_rfl
def Zy2 (c : TC) (s : Int) (g : List Int) (ln : QT0) : RT (Option TC) :=
 let x1 := Za c.1 (mAt (c, s == 5, g, []) 0)
 let x2 := x1.2
 let x3 := x2.2
 let x4 := x3.2.1
 let x5 := x4 == 6
 let x6 := rSet c.2.1 x3.1 (bif x5 then mAt (c, s == 5, g, []) 1 else rGet c.2.1 x4)
 let x7 := x6.2
 let x8 := x7.2
 let x9 := x8.2
 let x10 := x9.2
 let x11 := x10.2
 let x12 := x11.2
 let x13 := x12.2
 .br (Zb s) (.leaf (some ((c.1, (rgx c.2.1 c.2.1.2.2.2.2.2.2.2.1 (u16.wrap ((spOf c) - 2)) (Zi s)), c.2.2)))) (.br (!mAtC (c, s == 5, g, []) 0 || x1.1 == 2) (.br (mAtC (c, s == 5, g, []) 0) (.br (!x5 || mAtC (c, s == 5, g, []) 1) (.leaf (some ((c.1, (x6.1, x7.1, x8.1, x9.1, x10.1, x11.1, x12.1, x13.1, x13.2.1, ZA (c, s == 5, g, []) x2.1), c.2.2.1, false, false, c.2.2.2.2.2)))) (.leaf none)) (.leaf none)) (.leaf none))
theorem ZKr (a : HL Zo) : Zh (envX Tryz.prog (ZaF 2) [] 79250227772808467515411824639 8) Tryz.f98 Zo Z0 a = Zy2 a.1 a.2.1 a.2.2.1 a.2.2.2 := by kernel_rfl
def ZyY (c : TC) (s : Int) (g : List Int) (ln : QT0) : RT (Option TC) :=
 let x1 := Za c.1 (mAt (c, s == 5, g, []) 0)
 .br (Zb s) (.leaf (some ((c.1, (rgx c.2.1 c.2.1.2.2.2.2.2.2.2.1 (u16.wrap ((spOf c) - 2)) (Zi s)), c.2.2)))) (.br (!mAtC (c, s == 5, g, []) 0 || x1.1 == 6) (.br (mAtC (c, s == 5, g, []) 0) (.leaf (some ((c.1, (rgx c.2.1 c.2.1.2.2.2.2.2.2.2.1 (spOf c) (ZA (c, s == 5, g, []) x1.2.1)), c.2.2.1, false, false, c.2.2.2.2.2)))) (.leaf none)) (.leaf none))
theorem ZKn (a : HL Zo) : Zh (envX Tryz.prog (ZaF 6) [] 79250227772808467515411824639 8) Tryz.f98 Zo Z0 a = ZyY a.1 a.2.1 a.2.2.1 a.2.2.2 := by kernel_rfl
def ZrA (c : TC) (s : Int) (g : List Int) (ln : QT0) : RT (Option TC) :=
 let x1 := Za c.1 (mAt (c, s == 5, g, []) 0)
 .br (Zb s) (.leaf (some ((c.1, (rgx c.2.1 c.2.1.2.2.2.2.2.2.2.1 (u16.wrap ((spOf c) - 2)) (Zi s)), c.2.2)))) (.br (!mAtC (c, s == 5, g, []) 0 || x1.1 == 10) (.br (mAtC (c, s == 5, g, []) 0) (.leaf (some ((c.1, (rgx c.2.1 c.2.1.2.2.2.2.2.2.2.1 (spOf c) (ZA (c, s == 5, g, []) x1.2.1)), c.2.2.1, false, false, c.2.2.2.2.2)))) (.leaf none)) (.leaf none))
theorem ZF3 (a : HL Zo) : Zh (envX Tryz.prog (ZaF 10) [] 79250227772808467515411824639 8) Tryz.f98 Zo Z0 a = ZrA a.1 a.2.1 a.2.2.1 a.2.2.2 := by kernel_rfl
def Zrw (c : TC) (s : Int) (g : List Int) (ln : QT0) : RT (Option TC) :=
 let x1 := Za c.1 (mAt (c, s == 5, g, []) 0)
 let x2 := x1.2
 let x3 := x2.2.1
 let x4 := x3 == 6
 let x5 := Zge c (14, x2) (bif x4 then mAt (c, s == 5, g, []) 1 else rGet c.2.1 x3)
 let x6 := rSet c.2.1 x3 x5.1
 let x7 := x6.2
 let x8 := x7.2
 let x9 := x8.2
 let x10 := x9.2
 let x11 := x10.2
 let x12 := x11.2
 .br (Zb s) (.leaf (some ((c.1, (rgx c.2.1 c.2.1.2.2.2.2.2.2.2.1 (u16.wrap ((spOf c) - 2)) (Zi s)), c.2.2)))) (.br (!mAtC (c, s == 5, g, []) 0 || x1.1 == 14) (.br (mAtC (c, s == 5, g, []) 0) (.br (!x4 || mAtC (c, s == 5, g, []) 1) (.leaf (some ((c.1, (x6.1, x7.1, x8.1, x9.1, x10.1, x11.1, x12.1, x5.2, x12.2.2.1, ZA (c, s == 5, g, []) x2.1), c.2.2.1, false, false, c.2.2.2.2.2)))) (.leaf none)) (.leaf none)) (.leaf none))
theorem ZFZ (a : HL Zo) : Zh (envX Tryz.prog (ZaF 14) [] 79250227772808467515411824639 8) Tryz.f98 Zo Z0 a = Zrw a.1 a.2.1 a.2.2.1 a.2.2.2 := by kernel_rfl
def Zrs (c : TC) (s : Int) (g : List Int) (ln : QT0) : RT (Option TC) :=
 let x1 := Za c.1 (mAt (c, s == 5, g, []) 0)
 let x2 := x1.2
 let x3 := rDad c.1 (Zai c.2.1 2) (Zai c.2.1 x2.2.2.2.1) c.2.1.2.2.2.2.2.2.2.1
 let x4 := Zs c.2.1 2 x3.1
 let x5 := x4.2
 let x6 := x5.2
 let x7 := x6.2
 let x8 := x7.2
 let x9 := x8.2
 let x10 := x9.2
 .br (Zb s) (.leaf (some ((c.1, (rgx c.2.1 c.2.1.2.2.2.2.2.2.2.1 (u16.wrap ((spOf c) - 2)) (Zi s)), c.2.2)))) (.br (!mAtC (c, s == 5, g, []) 0 || x1.1 == 18) (.br (mAtC (c, s == 5, g, []) 0) (.leaf (some ((c.1, (x4.1, x5.1, x6.1, x7.1, x8.1, x9.1, x10.1, x3.2, x10.2.2.1, ZA (c, s == 5, g, []) x2.1), c.2.2.1, false, false, c.2.2.2.2.2)))) (.leaf none)) (.leaf none))
theorem ZFV (a : HL Zo) : Zh (envX Tryz.prog (ZaF 18) [] 79250227772808467515411824639 8) Tryz.f98 Zo Z0 a = Zrs a.1 a.2.1 a.2.2.1 a.2.2.2 := by kernel_rfl
def Zro (c : TC) (s : Int) (g : List Int) (ln : QT0) : RT (Option TC) :=
 let x1 := Za c.1 (mAt (c, s == 5, g, []) 0)
 let x2 := c.2.1.2.2.2.2.2.2.2.1.2.2.2
 let x3 := x2.2
 let x4 := x3.2
 .br (Zb s) (.leaf (some ((c.1, (rgx c.2.1 c.2.1.2.2.2.2.2.2.2.1 (u16.wrap ((spOf c) - 2)) (Zi s)), c.2.2)))) (.br (!mAtC (c, s == 5, g, []) 0 || x1.1 == 22) (.br (mAtC (c, s == 5, g, []) 0) (.leaf (some ((c.1, (rgx c.2.1 ((c.2.1.2.2.2.2.2.2.2.1.1, c.2.1.2.2.2.2.2.2.2.1.2.1, c.2.1.2.2.2.2.2.2.2.1.2.2.1, x2.1, x3.1, x4.1, !x4.2)) (spOf c) (ZA (c, s == 5, g, []) x1.2.1)), c.2.2.1, false, false, c.2.2.2.2.2)))) (.leaf none)) (.leaf none))
theorem ZFR (a : HL Zo) : Zh (envX Tryz.prog (ZaF 22) [] 79250227772808467515411824639 8) Tryz.f98 Zo Z0 a = Zro a.1 a.2.1 a.2.2.1 a.2.2.2 := by kernel_rfl
def Zrk (c : TC) (s : Int) (g : List Int) (ln : QT0) : RT (Option TC) :=
 let x1 := Za c.1 (mAt (c, s == 5, g, []) 0)
 let x2 := x1.2
 let x3 := !Zd6 (c, s == 5, g, []) (26, x2)
 let x4 := c.2.1.2.2.2.2.2.2.2.1.2.2.1
 let x5 := c.2.1.2.2.2.2.2.2.2.1.2.2.2
 let x6 := x5.1
 let x7 := x5.2
 let x8 := x7.1
 let x9 := x7.2
 let x10 := x9.1
 let x11 := x9.2
 .br (Zb s) (.leaf (some ((c.1, (rgx c.2.1 c.2.1.2.2.2.2.2.2.2.1 (u16.wrap ((spOf c) - 2)) (Zi s)), c.2.2)))) (.br (!mAtC (c, s == 5, g, []) 0 || x1.1 == 26) (.br (mAtC (c, s == 5, g, []) 0) (.br (x3 || ZbX (c, s == 5, g, []) 1) (.leaf (some ((bif x3 then c.1 else c.1, (bif x3 then c.2.1.1 else c.2.1.1, bif x3 then c.2.1.2.1 else c.2.1.2.1, bif x3 then c.2.1.2.2.1 else c.2.1.2.2.1, bif x3 then c.2.1.2.2.2.1 else c.2.1.2.2.2.1, bif x3 then c.2.1.2.2.2.2.1 else c.2.1.2.2.2.2.1, bif x3 then c.2.1.2.2.2.2.2.1 else c.2.1.2.2.2.2.2.1, bif x3 then c.2.1.2.2.2.2.2.2.1 else c.2.1.2.2.2.2.2.2.1, (bif x3 then c.2.1.2.2.2.2.2.2.2.1.1 else c.2.1.2.2.2.2.2.2.2.1.1, bif x3 then c.2.1.2.2.2.2.2.2.2.1.2.1 else c.2.1.2.2.2.2.2.2.2.1.2.1, bif x3 then x4 else x4, bif x3 then x6 else x6, bif x3 then x8 else x8, bif x3 then x10 else x10, bif x3 then x11 else x11), bif x3 then (spOf c) else u16.wrap ((spOf c) + 2), bif x3 then ZA (c, s == 5, g, []) x2.1 else Zei (c, s == 5, g, []) 1), bif x3 then c.2.2.1 else c.2.2.1, false, false, bif x3 then c.2.2.2.2.2.1 else c.2.2.2.2.2.1, bif x3 then c.2.2.2.2.2.2.1 else c.2.2.2.2.2.2.1, bif x3 then c.2.2.2.2.2.2.2.1 else c.2.2.2.2.2.2.2.1, bif x3 then c.2.2.2.2.2.2.2.2.1 else c.2.2.2.2.2.2.2.2.1, bif x3 then c.2.2.2.2.2.2.2.2.2.1 else c.2.2.2.2.2.2.2.2.2.1, bif x3 then c.2.2.2.2.2.2.2.2.2.2.1 else c.2.2.2.2.2.2.2.2.2.2.1, bif x3 then c.2.2.2.2.2.2.2.2.2.2.2.1 else c.2.2.2.2.2.2.2.2.2.2.2.1, bif x3 then c.2.2.2.2.2.2.2.2.2.2.2.2 else c.2.2.2.2.2.2.2.2.2.2.2.2)))) (.leaf none)) (.leaf none)) (.leaf none))
theorem ZFN (a : HL Zo) : Zh (envX Tryz.prog (ZaF 26) [] 79250227772808467515411824639 8) Tryz.f98 Zo Z0 a = Zrk a.1 a.2.1 a.2.2.1 a.2.2.2 := by kernel_rfl
def Zrg (c : TC) (s : Int) (g : List Int) (ln : QT0) : RT (Option TC) :=
 let x1 := u16.wrap ((spOf c) - 2)
 let x2 := Za c.1 (mAt (c, s == 5, g, []) 0)
 .br (Zb s) (.leaf (some ((c.1, (rgx c.2.1 c.2.1.2.2.2.2.2.2.2.1 x1 (Zi s)), c.2.2)))) (.br (!mAtC (c, s == 5, g, []) 0 || x2.1 == 30) (.br (mAtC (c, s == 5, g, []) 0) (.leaf (some ((c.1, (rgx c.2.1 c.2.1.2.2.2.2.2.2.2.1 x1 (ZA (c, s == 5, g, []) x2.2.1)), c.2.2.1, false, false, c.2.2.2.2.2)))) (.leaf none)) (.leaf none))
theorem ZFJ (a : HL Zo) : Zh (envX Tryz.prog (ZaF 30) [] 79250227772808467515411824639 8) Tryz.f98 Zo Z0 a = Zrg a.1 a.2.1 a.2.2.1 a.2.2.2 := by kernel_rfl
def Zrc (c : TC) (s : Int) (g : List Int) (ln : QT0) : RT (Option TC) :=
 let x1 := Za c.1 (mAt (c, s == 5, g, []) 0)
 .br (Zb s) (.leaf (some ((c.1, (rgx c.2.1 c.2.1.2.2.2.2.2.2.2.1 (u16.wrap ((spOf c) - 2)) (Zi s)), c.2.2)))) (.br (!mAtC (c, s == 5, g, []) 0 || x1.1 == 34) (.br (mAtC (c, s == 5, g, []) 0) (.leaf (some ((c.1, (rgx c.2.1 c.2.1.2.2.2.2.2.2.2.1 (spOf c) (ZA (c, s == 5, g, []) x1.2.1)), c.2.2.1, false, false, c.2.2.2.2.2)))) (.leaf none)) (.leaf none))
theorem ZFF (a : HL Zo) : Zh (envX Tryz.prog (ZaF 34) [] 79250227772808467515411824639 8) Tryz.f98 Zo Z0 a = Zrc a.1 a.2.1 a.2.2.1 a.2.2.2 := by kernel_rfl
def Zq8 (c : TC) (s : Int) (g : List Int) (ln : QT0) : RT (Option TC) :=
 let x1 := Za c.1 (mAt (c, s == 5, g, []) 0)
 let x2 := rRim (c.1, (rgx c.2.1 c.2.1.2.2.2.2.2.2.2.1 (spOf c) (ZA (c, s == 5, g, []) x1.2.1)), c.2.2) ln
 let x3 := x2.2
 let x4 := x3.2
 let x5 := x4.2
 let x6 := x5.2.2.2
 let x7 := x6.2
 let x8 := x7.2
 let x9 := x8.2
 let x10 := x9.2
 .br (Zb s) (.leaf (some ((c.1, (rgx c.2.1 c.2.1.2.2.2.2.2.2.2.1 (u16.wrap ((spOf c) - 2)) (Zi s)), c.2.2)))) (.br (!mAtC (c, s == 5, g, []) 0 || x1.1 == 38) (.br (mAtC (c, s == 5, g, []) 0) (.leaf (some ((x3.1, (x2.1, x4.1.2), x5.1, false, false, x6.1, x7.1, x8.1, x9.1, x10.1, false, false, x10.2.2.2)))) (.leaf none)) (.leaf none))
theorem ZFB (a : HL Zo) : Zh (envX Tryz.prog (ZaF 38) [] 79250227772808467515411824639 8) Tryz.f98 Zo Z0 a = Zq8 a.1 a.2.1 a.2.2.1 a.2.2.2 := by kernel_rfl
def Zq4 (c : TC) (s : Int) (g : List Int) (ln : QT0) : RT (Option TC) :=
 let x1 := Za c.1 (mAt (c, s == 5, g, []) 0)
 let x2 := Zu6 (Zai c.2.1 1) c.2.1.2.2.2.2.2.2.2.1.2.2.2.2.2.2
 let x3 := Zs c.2.1 1 x2.1
 let x4 := x3.2
 let x5 := x4.2
 let x6 := x5.2
 let x7 := x6.2
 let x8 := x7.2
 let x9 := x8.2
 let x10 := x9.2
 let x11 := x10.1
 let x12 := x11.2
 let x13 := x12.2
 let x14 := x13.2
 let x15 := x2.2
 .br (Zb s) (.leaf (some ((c.1, (rgx c.2.1 c.2.1.2.2.2.2.2.2.2.1 (u16.wrap ((spOf c) - 2)) (Zi s)), c.2.2)))) (.br (!mAtC (c, s == 5, g, []) 0 || x1.1 == 42) (.br (mAtC (c, s == 5, g, []) 0) (.leaf (some ((c.1, (x3.1, x4.1, x5.1, x6.1, x7.1, x8.1, x9.1, (x11.1, x12.1, x13.1, x14.1, x14.2.1, x15.2, x15.1), x10.2.1, ZA (c, s == 5, g, []) x1.2.1), c.2.2.1, false, false, c.2.2.2.2.2)))) (.leaf none)) (.leaf none))
theorem ZFx (a : HL Zo) : Zh (envX Tryz.prog (ZaF 42) [] 79250227772808467515411824639 8) Tryz.f98 Zo Z0 a = Zq4 a.1 a.2.1 a.2.2.1 a.2.2.2 := by kernel_rfl
def Zq0 (c : TC) (s : Int) (g : List Int) (ln : QT0) : RT (Option TC) :=
 let x1 := Za c.1 (mAt (c, s == 5, g, []) 0)
 .br (Zb s) (.leaf (some ((c.1, (rgx c.2.1 c.2.1.2.2.2.2.2.2.2.1 (u16.wrap ((spOf c) - 2)) (Zi s)), c.2.2)))) (.br (!mAtC (c, s == 5, g, []) 0 || x1.1 == 46) (.br (mAtC (c, s == 5, g, []) 0) (.leaf (some ((c.1, (rgx c.2.1 c.2.1.2.2.2.2.2.2.2.1 (spOf c) (ZA (c, s == 5, g, []) x1.2.1)), c.2.2.1, false, false, c.2.2.2.2.2)))) (.leaf none)) (.leaf none))
theorem ZFt (a : HL Zo) : Zh (envX Tryz.prog (ZaF 46) [] 79250227772808467515411824639 8) Tryz.f98 Zo Z0 a = Zq0 a.1 a.2.1 a.2.2.1 a.2.2.2 := by kernel_rfl
def ZAv (c : TC) (s : Int) (g : List Int) (ln : QT0) : RT (Option TC) :=
 let x1 : QT1 := (c, s == 5, g, (0, 0, 0, 0, 0, 0, 0, 0), [])
 let x2 := qAtC x1 0
 let x3 := Za c.1 (qAt x1 0)
 let x4 := !x2 || x3.1 == 2
 let x5 := x3.2
 let x6 := x5.2
 let x7 := x6.2.1
 let x8 := x7 == 6
 let x9 : QT1 := (c, s == 5, g, (2, x5), [])
 .br (Ze s) (.leaf (some ((c.1, (rgx c.2.1 c.2.1.2.2.2.2.2.2.2.1 (u16.wrap ((spOf c) - 2)) (Zi s)), c.2.2)))) (.br (!x4 || x2) (.br (x4) (.br (!x8 || qAtC x9 1) (.leaf (some ((c.1, rSet (rgx c.2.1 c.2.1.2.2.2.2.2.2.2.1 (spOf c) (ZD x9)) x6.1 (bif x8 then qAt x9 1 else qReg x9 x7), c.2.2.1, false, false, c.2.2.2.2.2)))) (.leaf none)) (.leaf none)) (.leaf none))
theorem ZMi (a : HL Zp) : Zh (envX Tryz.prog (ZaG 2) [] 1023 8) Tryz.f111 Zp Z2 a = ZAv a.1 a.2.1 a.2.2.1 a.2.2.2 := by kernel_rfl
def ZAr (c : TC) (s : Int) (g : List Int) (ln : QT0) : RT (Option TC) :=
 let x1 : QT1 := (c, s == 5, g, (0, 0, 0, 0, 0, 0, 0, 0), [])
 let x2 := qAtC x1 0
 let x3 := Za c.1 (qAt x1 0)
 let x4 := !x2 || x3.1 == 6
 .br (Ze s) (.leaf (some ((c.1, (rgx c.2.1 c.2.1.2.2.2.2.2.2.2.1 (u16.wrap ((spOf c) - 2)) (Zi s)), c.2.2)))) (.br (!x4 || x2) (.br (x4) (.leaf (some ((c.1, (rgx c.2.1 c.2.1.2.2.2.2.2.2.2.1 (spOf c) (ZD (c, s == 5, g, (6, x3.2), []))), c.2.2.1, false, false, c.2.2.2.2.2)))) (.leaf none)) (.leaf none))
theorem ZMe (a : HL Zp) : Zh (envX Tryz.prog (ZaG 6) [] 1023 8) Tryz.f111 Zp Z2 a = ZAr a.1 a.2.1 a.2.2.1 a.2.2.2 := by kernel_rfl
def Zs5 (c : TC) (s : Int) (g : List Int) (ln : QT0) : RT (Option TC) :=
 let x1 : QT1 := (c, s == 5, g, (0, 0, 0, 0, 0, 0, 0, 0), [])
 let x2 := qAtC x1 0
 let x3 := Za c.1 (qAt x1 0)
 let x4 := !x2 || x3.1 == 10
 .br (Ze s) (.leaf (some ((c.1, (rgx c.2.1 c.2.1.2.2.2.2.2.2.2.1 (u16.wrap ((spOf c) - 2)) (Zi s)), c.2.2)))) (.br (!x4 || x2) (.br (x4) (.leaf (some ((c.1, (rgx c.2.1 c.2.1.2.2.2.2.2.2.2.1 (spOf c) (ZD (c, s == 5, g, (10, x3.2), []))), c.2.2.1, false, false, c.2.2.2.2.2)))) (.leaf none)) (.leaf none))
theorem ZG8 (a : HL Zp) : Zh (envX Tryz.prog (ZaG 10) [] 1023 8) Tryz.f111 Zp Z2 a = Zs5 a.1 a.2.1 a.2.2.1 a.2.2.2 := by kernel_rfl
def Zs1 (c : TC) (s : Int) (g : List Int) (ln : QT0) : RT (Option TC) :=
 let x1 : QT1 := (c, s == 5, g, (0, 0, 0, 0, 0, 0, 0, 0), [])
 let x2 := qAtC x1 0
 let x3 := Za c.1 (qAt x1 0)
 let x4 := !x2 || x3.1 == 14
 let x5 := x3.2
 let x6 := x5.2.1
 let x7 := x6 == 6
 let x8 : QT1 := (c, s == 5, g, (14, x5), [])
 let x9 := rInr c.1 (bif x7 then qAt x8 1 else qReg x8 x6) c.2.1.2.2.2.2.2.2.2.1
 .br (Ze s) (.leaf (some ((c.1, (rgx c.2.1 c.2.1.2.2.2.2.2.2.2.1 (u16.wrap ((spOf c) - 2)) (Zi s)), c.2.2)))) (.br (!x4 || x2) (.br (x4) (.br (!x7 || qAtC x8 1) (.leaf (some ((c.1, rSet (rgx c.2.1 x9.2 (spOf c) (ZD x8)) x6 x9.1, c.2.2.1, false, false, c.2.2.2.2.2)))) (.leaf none)) (.leaf none)) (.leaf none))
theorem ZG4 (a : HL Zp) : Zh (envX Tryz.prog (ZaG 14) [] 1023 8) Tryz.f111 Zp Z2 a = Zs1 a.1 a.2.1 a.2.2.1 a.2.2.2 := by kernel_rfl
def ZsX (c : TC) (s : Int) (g : List Int) (ln : QT0) : RT (Option TC) :=
 let x1 : QT1 := (c, s == 5, g, (0, 0, 0, 0, 0, 0, 0, 0), [])
 let x2 := qAtC x1 0
 let x3 := Za c.1 (qAt x1 0)
 let x4 := !x2 || x3.1 == 18
 let x5 := x3.2
 let x6 : QT1 := (c, s == 5, g, (18, x5), [])
 let x7 := rDad c.1 (ZdG x6 2) (ZdG x6 x5.2.2.2.1) c.2.1.2.2.2.2.2.2.2.1
 .br (Ze s) (.leaf (some ((c.1, (rgx c.2.1 c.2.1.2.2.2.2.2.2.2.1 (u16.wrap ((spOf c) - 2)) (Zi s)), c.2.2)))) (.br (!x4 || x2) (.br (x4) (.leaf (some ((c.1, Zs (rgx c.2.1 x7.2 (spOf c) (ZD x6)) 2 x7.1, c.2.2.1, false, false, c.2.2.2.2.2)))) (.leaf none)) (.leaf none))
theorem ZG0 (a : HL Zp) : Zh (envX Tryz.prog (ZaG 18) [] 1023 8) Tryz.f111 Zp Z2 a = ZsX a.1 a.2.1 a.2.2.1 a.2.2.2 := by kernel_rfl
def ZsT (c : TC) (s : Int) (g : List Int) (ln : QT0) : RT (Option TC) :=
 let x1 : QT1 := (c, s == 5, g, (0, 0, 0, 0, 0, 0, 0, 0), [])
 let x2 := qAtC x1 0
 let x3 := Za c.1 (qAt x1 0)
 let x4 := !x2 || x3.1 == 22
 let x5 := c.2.1.2.2.2.2.2.2.2.1.2.2.2
 let x6 := x5.2
 let x7 := x6.2
 .br (Ze s) (.leaf (some ((c.1, (rgx c.2.1 c.2.1.2.2.2.2.2.2.2.1 (u16.wrap ((spOf c) - 2)) (Zi s)), c.2.2)))) (.br (!x4 || x2) (.br (x4) (.leaf (some ((c.1, (rgx c.2.1 ((c.2.1.2.2.2.2.2.2.2.1.1, c.2.1.2.2.2.2.2.2.2.1.2.1, c.2.1.2.2.2.2.2.2.2.1.2.2.1, x5.1, x6.1, x7.1, !x7.2)) (spOf c) (ZD (c, s == 5, g, (22, x3.2), []))), c.2.2.1, false, false, c.2.2.2.2.2)))) (.leaf none)) (.leaf none))
theorem ZGW (a : HL Zp) : Zh (envX Tryz.prog (ZaG 22) [] 1023 8) Tryz.f111 Zp Z2 a = ZsT a.1 a.2.1 a.2.2.1 a.2.2.2 := by kernel_rfl
def ZsP (c : TC) (s : Int) (g : List Int) (ln : QT0) : RT (Option TC) :=
 let x1 : QT1 := (c, s == 5, g, (0, 0, 0, 0, 0, 0, 0, 0), [])
 let x2 := qAtC x1 0
 let x3 := Za c.1 (qAt x1 0)
 let x4 := !x2 || x3.1 == 26
 let x5 : QT1 := (c, s == 5, g, (26, x3.2), [])
 let x6 := ZgJ x5
 .br (Ze s) (.leaf (some ((c.1, (rgx c.2.1 c.2.1.2.2.2.2.2.2.2.1 (u16.wrap ((spOf c) - 2)) (Zi s)), c.2.2)))) (.br (!x4 || x2) (.br (x4) (.br (!x6 || Zcq x5 1) (.leaf (some ((c.1, (rgx c.2.1 c.2.1.2.2.2.2.2.2.2.1 (bif x6 then u16.wrap ((spOf c) + 2) else (spOf c)) (bif x6 then ZfI x5 1 else ZD x5)), c.2.2.1, false, false, c.2.2.2.2.2)))) (.leaf none)) (.leaf none)) (.leaf none))
theorem ZGS (a : HL Zp) : Zh (envX Tryz.prog (ZaG 26) [] 1023 8) Tryz.f111 Zp Z2 a = ZsP a.1 a.2.1 a.2.2.1 a.2.2.2 := by kernel_rfl
def ZsL (c : TC) (s : Int) (g : List Int) (ln : QT0) : RT (Option TC) :=
 let x1 := u16.wrap ((spOf c) - 2)
 let x2 : QT1 := (c, s == 5, g, (0, 0, 0, 0, 0, 0, 0, 0), [])
 let x3 := qAtC x2 0
 let x4 := Za c.1 (qAt x2 0)
 let x5 := !x3 || x4.1 == 30
 .br (Ze s) (.leaf (some ((c.1, (rgx c.2.1 c.2.1.2.2.2.2.2.2.2.1 x1 (Zi s)), c.2.2)))) (.br (!x5 || x3) (.br (x5) (.leaf (some ((c.1, (rgx c.2.1 c.2.1.2.2.2.2.2.2.2.1 x1 (ZD (c, s == 5, g, (30, x4.2), []))), c.2.2.1, false, false, c.2.2.2.2.2)))) (.leaf none)) (.leaf none))
theorem ZGO (a : HL Zp) : Zh (envX Tryz.prog (ZaG 30) [] 1023 8) Tryz.f111 Zp Z2 a = ZsL a.1 a.2.1 a.2.2.1 a.2.2.2 := by kernel_rfl
def ZsH (c : TC) (s : Int) (g : List Int) (ln : QT0) : RT (Option TC) :=
 let x1 : QT1 := (c, s == 5, g, (0, 0, 0, 0, 0, 0, 0, 0), [])
 let x2 := qAtC x1 0
 let x3 := Za c.1 (qAt x1 0)
 let x4 := !x2 || x3.1 == 34
 .br (Ze s) (.leaf (some ((c.1, (rgx c.2.1 c.2.1.2.2.2.2.2.2.2.1 (u16.wrap ((spOf c) - 2)) (Zi s)), c.2.2)))) (.br (!x4 || x2) (.br (x4) (.leaf (some ((c.1, (rgx c.2.1 c.2.1.2.2.2.2.2.2.2.1 (spOf c) (ZD (c, s == 5, g, (34, x3.2), []))), c.2.2.1, false, false, c.2.2.2.2.2)))) (.leaf none)) (.leaf none))
theorem ZGK (a : HL Zp) : Zh (envX Tryz.prog (ZaG 34) [] 1023 8) Tryz.f111 Zp Z2 a = ZsH a.1 a.2.1 a.2.2.1 a.2.2.2 := by kernel_rfl
def ZsD (c : TC) (s : Int) (g : List Int) (ln : QT0) : RT (Option TC) :=
 let x1 : QT1 := (c, s == 5, g, (0, 0, 0, 0, 0, 0, 0, 0), [])
 let x2 := qAtC x1 0
 let x3 := Za c.1 (qAt x1 0)
 let x4 := !x2 || x3.1 == 38
 let x5 := rRim (c.1, (rgx c.2.1 c.2.1.2.2.2.2.2.2.2.1 (spOf c) (ZD (c, s == 5, g, (38, x3.2), []))), c.2.2.1, 38 == 35, 38 == 37, c.2.2.2.2.2) ln
 let x6 := x5.2
 let x7 := x6.2
 let x8 := x7.2
 let x9 := x8.2.2.2
 let x10 := x9.2
 let x11 := x10.2
 let x12 := x11.2
 let x13 := x12.2
 .br (Ze s) (.leaf (some ((c.1, (rgx c.2.1 c.2.1.2.2.2.2.2.2.2.1 (u16.wrap ((spOf c) - 2)) (Zi s)), c.2.2)))) (.br (!x4 || x2) (.br (x4) (.leaf (some ((x6.1, (x5.1, x7.1.2), x8.1, false, false, x9.1, x10.1, x11.1, x12.1, x13.1, false, false, x13.2.2.2)))) (.leaf none)) (.leaf none))
theorem ZGG (a : HL Zp) : Zh (envX Tryz.prog (ZaG 38) [] 1023 8) Tryz.f111 Zp Z2 a = ZsD a.1 a.2.1 a.2.2.1 a.2.2.2 := by kernel_rfl
def Zsz (c : TC) (s : Int) (g : List Int) (ln : QT0) : RT (Option TC) :=
 let x1 : QT1 := (c, s == 5, g, (0, 0, 0, 0, 0, 0, 0, 0), [])
 let x2 := qAtC x1 0
 let x3 := Za c.1 (qAt x1 0)
 let x4 := !x2 || x3.1 == 42
 let x5 := c.2.1.2.2.2.2.2.2.2.1.2.2.2
 let x6 := x5.2
 let x7 : QT1 := (c, s == 5, g, (42, x3.2), [])
 let x8 := Zu6 (ZdG x7 1) x6.2.2
 let x9 := x8.2
 .br (Ze s) (.leaf (some ((c.1, (rgx c.2.1 c.2.1.2.2.2.2.2.2.2.1 (u16.wrap ((spOf c) - 2)) (Zi s)), c.2.2)))) (.br (!x4 || x2) (.br (x4) (.leaf (some ((c.1, Zs (rgx c.2.1 ((c.2.1.2.2.2.2.2.2.2.1.1, c.2.1.2.2.2.2.2.2.2.1.2.1, c.2.1.2.2.2.2.2.2.2.1.2.2.1, x5.1, x6.1, x9.2, x9.1)) (spOf c) (ZD x7)) 1 x8.1, c.2.2.1, false, false, c.2.2.2.2.2)))) (.leaf none)) (.leaf none))
theorem ZGC (a : HL Zp) : Zh (envX Tryz.prog (ZaG 42) [] 1023 8) Tryz.f111 Zp Z2 a = Zsz a.1 a.2.1 a.2.2.1 a.2.2.2 := by kernel_rfl
def Zsv (c : TC) (s : Int) (g : List Int) (ln : QT0) : RT (Option TC) :=
 let x1 : QT1 := (c, s == 5, g, (0, 0, 0, 0, 0, 0, 0, 0), [])
 let x2 := qAtC x1 0
 let x3 := Za c.1 (qAt x1 0)
 let x4 := !x2 || x3.1 == 46
 .br (Ze s) (.leaf (some ((c.1, (rgx c.2.1 c.2.1.2.2.2.2.2.2.2.1 (u16.wrap ((spOf c) - 2)) (Zi s)), c.2.2)))) (.br (!x4 || x2) (.br (x4) (.leaf (some ((c.1, (rgx c.2.1 c.2.1.2.2.2.2.2.2.2.1 (spOf c) (ZD (c, s == 5, g, (46, x3.2), []))), c.2.2.1, false, false, c.2.2.2.2.2)))) (.leaf none)) (.leaf none))
theorem ZGy (a : HL Zp) : Zh (envX Tryz.prog (ZaG 46) [] 1023 8) Tryz.f111 Zp Z2 a = Zsv a.1 a.2.1 a.2.2.1 a.2.2.2 := by kernel_rfl
def Zy1 (c : TC) (s : Int) (g : List Int) (ln : QT0) : RT (Option TC) :=
 let x1 := Za c.1 (mAt (c, s == 5, g, []) 0)
 let x2 := x1.2
 let x3 := rSet c.2.1 x2.2.1 (mAt (c, s == 5, g, []) 1)
 let x4 := x3.2
 let x5 := x4.2
 let x6 := x5.2
 let x7 := x6.2
 let x8 := x7.2
 let x9 := x8.2
 let x10 := x9.2
 .br (Zb s) (.leaf (some ((c.1, (rgx c.2.1 c.2.1.2.2.2.2.2.2.2.1 (u16.wrap ((spOf c) - 2)) (Zi s)), c.2.2)))) (.br (!mAtC (c, s == 5, g, []) 0 || x1.1 == 3) (.br (mAtC (c, s == 5, g, []) 0) (.br (mAtC (c, s == 5, g, []) 1) (.leaf (some ((c.1, (x3.1, x4.1, x5.1, x6.1, x7.1, x8.1, x9.1, x10.1, x10.2.1, ZA (c, s == 5, g, []) x2.1), c.2.2.1, false, false, c.2.2.2.2.2)))) (.leaf none)) (.leaf none)) (.leaf none))
theorem ZKq (a : HL Zo) : Zh (envX Tryz.prog (ZaF 3) [] 79250227772808467515411824639 8) Tryz.f98 Zo Z0 a = Zy1 a.1 a.2.1 a.2.2.1 a.2.2.2 := by kernel_rfl
def ZyX (c : TC) (s : Int) (g : List Int) (ln : QT0) : RT (Option TC) :=
 let x1 := Za c.1 (mAt (c, s == 5, g, []) 0)
 let x2 := !mAtC (c, s == 5, g, []) 3 || mAtC (c, s == 5, g, []) 4
 let x3 := !x2 || mAtC (c, s == 5, g, []) 3
 let x4 := !x3 || x2
 .br (Zb s) (.leaf (some ((c.1, (rgx c.2.1 c.2.1.2.2.2.2.2.2.2.1 (u16.wrap ((spOf c) - 2)) (Zi s)), c.2.2)))) (.br (!mAtC (c, s == 5, g, []) 0 || x1.1 == 7) (.br (mAtC (c, s == 5, g, []) 0) (.br (!x4 || x3) (.br (x4) (.leaf (some ((c.1, (c.2.1.1, c.2.1.2.1, c.2.1.2.2.1, c.2.1.2.2.2.1, c.2.1.2.2.2.2.1, mAt (c, s == 5, g, []) 4, mAt (c, s == 5, g, []) 3, c.2.1.2.2.2.2.2.2.2.1, spOf c, ZA (c, s == 5, g, []) x1.2.1), c.2.2.1, false, false, c.2.2.2.2.2)))) (.leaf none)) (.leaf none)) (.leaf none)) (.leaf none))
theorem ZKm (a : HL Zo) : Zh (envX Tryz.prog (ZaF 7) [] 79250227772808467515411824639 8) Tryz.f98 Zo Z0 a = ZyX a.1 a.2.1 a.2.2.1 a.2.2.2 := by kernel_rfl
def Zrz (c : TC) (s : Int) (g : List Int) (ln : QT0) : RT (Option TC) :=
 let x1 := Za c.1 (mAt (c, s == 5, g, []) 0)
 .br (Zb s) (.leaf (some ((c.1, (rgx c.2.1 c.2.1.2.2.2.2.2.2.2.1 (u16.wrap ((spOf c) - 2)) (Zi s)), c.2.2)))) (.br (!mAtC (c, s == 5, g, []) 0 || x1.1 == 11) (.br (mAtC (c, s == 5, g, []) 0) (.leaf (some ((c.1, (c.2.1.1, c.2.1.2.1, c.2.1.2.2.1, c.2.1.2.2.2.2.2.1, c.2.1.2.2.2.2.2.2.1, c.2.1.2.2.2.1, c.2.1.2.2.2.2.1, c.2.1.2.2.2.2.2.2.2.1, spOf c, ZA (c, s == 5, g, []) x1.2.1), c.2.2.1, false, false, c.2.2.2.2.2)))) (.leaf none)) (.leaf none))
theorem ZF2 (a : HL Zo) : Zh (envX Tryz.prog (ZaF 11) [] 79250227772808467515411824639 8) Tryz.f98 Zo Z0 a = Zrz a.1 a.2.1 a.2.2.1 a.2.2.2 := by kernel_rfl
def Zrv (c : TC) (s : Int) (g : List Int) (ln : QT0) : RT (Option TC) :=
 let x1 := Za c.1 (mAt (c, s == 5, g, []) 0)
 let x2 := x1.2
 let x3 := x2.2.1
 let x4 := x3 == 6
 let x5 := Zge c (15, x2) (bif x4 then mAt (c, s == 5, g, []) 1 else rGet c.2.1 x3)
 let x6 := rSet c.2.1 x3 x5.1
 let x7 := x6.2
 let x8 := x7.2
 let x9 := x8.2
 let x10 := x9.2
 let x11 := x10.2
 let x12 := x11.2
 .br (Zb s) (.leaf (some ((c.1, (rgx c.2.1 c.2.1.2.2.2.2.2.2.2.1 (u16.wrap ((spOf c) - 2)) (Zi s)), c.2.2)))) (.br (!mAtC (c, s == 5, g, []) 0 || x1.1 == 15) (.br (mAtC (c, s == 5, g, []) 0) (.br (!x4 || mAtC (c, s == 5, g, []) 1) (.leaf (some ((c.1, (x6.1, x7.1, x8.1, x9.1, x10.1, x11.1, x12.1, x5.2, x12.2.2.1, ZA (c, s == 5, g, []) x2.1), c.2.2.1, false, false, c.2.2.2.2.2)))) (.leaf none)) (.leaf none)) (.leaf none))
theorem ZFY (a : HL Zo) : Zh (envX Tryz.prog (ZaF 15) [] 79250227772808467515411824639 8) Tryz.f98 Zo Z0 a = Zrv a.1 a.2.1 a.2.2.1 a.2.2.2 := by kernel_rfl
def Zrr (c : TC) (s : Int) (g : List Int) (ln : QT0) : RT (Option TC) :=
 let x1 := Za c.1 (mAt (c, s == 5, g, []) 0)
 let x2 := rDaa c.1 c.2.1.1 c.2.1.2.2.2.2.2.2.2.1
 .br (Zb s) (.leaf (some ((c.1, (rgx c.2.1 c.2.1.2.2.2.2.2.2.2.1 (u16.wrap ((spOf c) - 2)) (Zi s)), c.2.2)))) (.br (!mAtC (c, s == 5, g, []) 0 || x1.1 == 19) (.br (mAtC (c, s == 5, g, []) 0) (.leaf (some ((c.1, (x2.1, c.2.1.2.1, c.2.1.2.2.1, c.2.1.2.2.2.1, c.2.1.2.2.2.2.1, c.2.1.2.2.2.2.2.1, c.2.1.2.2.2.2.2.2.1, x2.2, spOf c, ZA (c, s == 5, g, []) x1.2.1), c.2.2.1, false, false, c.2.2.2.2.2)))) (.leaf none)) (.leaf none))
theorem ZFU (a : HL Zo) : Zh (envX Tryz.prog (ZaF 19) [] 79250227772808467515411824639 8) Tryz.f98 Zo Z0 a = Zrr a.1 a.2.1 a.2.2.1 a.2.2.2 := by kernel_rfl
def Zrn (c : TC) (s : Int) (g : List Int) (ln : QT0) : RT (Option TC) :=
 let x1 := Za c.1 (mAt (c, s == 5, g, []) 0)
 let x2 := x1.2
 let x3 := c.2.1.2.2.2.2.2.2.2.1.2.2.2
 let x4 := x3.2
 let x5 := x4.2
 let x6 := rRot x2.2.2.2.2.1 c.2.1.1 x5.2
 .br (Zb s) (.leaf (some ((c.1, (rgx c.2.1 c.2.1.2.2.2.2.2.2.2.1 (u16.wrap ((spOf c) - 2)) (Zi s)), c.2.2)))) (.br (!mAtC (c, s == 5, g, []) 0 || x1.1 == 23) (.br (mAtC (c, s == 5, g, []) 0) (.leaf (some ((c.1, (x6.1, c.2.1.2.1, c.2.1.2.2.1, c.2.1.2.2.2.1, c.2.1.2.2.2.2.1, c.2.1.2.2.2.2.2.1, c.2.1.2.2.2.2.2.2.1, (c.2.1.2.2.2.2.2.2.2.1.1, c.2.1.2.2.2.2.2.2.2.1.2.1, c.2.1.2.2.2.2.2.2.2.1.2.2.1, x3.1, x4.1, x5.1, x6.2), spOf c, ZA (c, s == 5, g, []) x2.1), c.2.2.1, false, false, c.2.2.2.2.2)))) (.leaf none)) (.leaf none))
theorem ZFQ (a : HL Zo) : Zh (envX Tryz.prog (ZaF 23) [] 79250227772808467515411824639 8) Tryz.f98 Zo Z0 a = Zrn a.1 a.2.1 a.2.2.1 a.2.2.2 := by kernel_rfl
def Zrj (c : TC) (s : Int) (g : List Int) (ln : QT0) : RT (Option TC) :=
 let x1 := u16.wrap ((spOf c) - 2)
 let x2 := Za c.1 (mAt (c, s == 5, g, []) 0)
 .br (Zb s) (.leaf (some ((c.1, (rgx c.2.1 c.2.1.2.2.2.2.2.2.2.1 x1 (Zi s)), c.2.2)))) (.br (!mAtC (c, s == 5, g, []) 0 || x2.1 == 27) (.br (mAtC (c, s == 5, g, []) 0) (.leaf (some ((c.1, (rgx c.2.1 c.2.1.2.2.2.2.2.2.2.1 x1 (u16.wrap (i64.wrap (8 * x2.2.2.2.2.2.2.2)))), c.2.2.1, false, false, c.2.2.2.2.2)))) (.leaf none)) (.leaf none))
theorem ZFM (a : HL Zo) : Zh (envX Tryz.prog (ZaF 27) [] 79250227772808467515411824639 8) Tryz.f98 Zo Z0 a = Zrj a.1 a.2.1 a.2.2.1 a.2.2.2 := by kernel_rfl
def Zrf (c : TC) (s : Int) (g : List Int) (ln : QT0) : RT (Option TC) :=
 let x1 := Za c.1 (mAt (c, s == 5, g, []) 0)
 let x2 := x1.2
 let x3 := x2.2.2.2.1
 let x4 := x3 == 3
 let x5 := !x4 || ZbX (c, s == 5, g, []) 1
 let x6 := !x5 || (x4 || ZbX (c, s == 5, g, []) 1)
 let x7 := !x6 || x5
 let x8 := Zfx c.1 c.2.1 (Zei (c, s == 5, g, []) 1)
 let x9 := Zs c.2.1 x3 (Zei (c, s == 5, g, []) 1)
 let x10 := x8.2
 let x11 := x9.2
 let x12 := x10.2
 let x13 := x11.2
 let x14 := x12.2
 let x15 := x13.2
 let x16 := x14.2
 let x17 := x15.2
 let x18 := x16.2
 let x19 := x17.2
 let x20 := x18.2
 let x21 := x19.2
 let x22 := x20.2
 let x23 := x22.1
 let x24 := x21.2
 let x25 := x24.1
 let x26 := x23.2
 let x27 := x25.2
 let x28 := x26.2
 let x29 := x27.2
 let x30 := x28.2
 let x31 := x29.2
 let x32 := x30.2
 let x33 := x31.2
 let x34 := x32.2
 let x35 := x33.2
 .br (Zb s) (.leaf (some ((c.1, (rgx c.2.1 c.2.1.2.2.2.2.2.2.2.1 (u16.wrap ((spOf c) - 2)) (Zi s)), c.2.2)))) (.br (!mAtC (c, s == 5, g, []) 0 || x1.1 == 31) (.br (mAtC (c, s == 5, g, []) 0) (.br (!x7 || x6) (.br (x7) (.leaf (some ((c.1, (bif x4 then x8.1 else x9.1, bif x4 then x10.1 else x11.1, bif x4 then x12.1 else x13.1, bif x4 then x14.1 else x15.1, bif x4 then x16.1 else x17.1, bif x4 then x18.1 else x19.1, bif x4 then x20.1 else x21.1, (bif x4 then x23.1 else x25.1, bif x4 then x26.1 else x27.1, bif x4 then x28.1 else x29.1, bif x4 then x30.1 else x31.1, bif x4 then x32.1 else x33.1, bif x4 then x34.1 else x35.1, bif x4 then x34.2 else x35.2), u16.wrap ((bif x4 then x22.2.1 else x24.2.1) + 2), ZA (c, s == 5, g, []) x2.1), c.2.2.1, false, false, c.2.2.2.2.2)))) (.leaf none)) (.leaf none)) (.leaf none)) (.leaf none))
theorem ZFI (a : HL Zo) : Zh (envX Tryz.prog (ZaF 31) [] 79250227772808467515411824639 8) Tryz.f98 Zo Z0 a = Zrf a.1 a.2.1 a.2.2.1 a.2.2.2 := by kernel_rfl
def Zrb (c : TC) (s : Int) (g : List Int) (ln : QT0) : RT (Option TC) :=
 let x1 := Za c.1 (mAt (c, s == 5, g, []) 0)
 .br (Zb s) (.leaf (some ((c.1, (rgx c.2.1 c.2.1.2.2.2.2.2.2.2.1 (u16.wrap ((spOf c) - 2)) (Zi s)), c.2.2)))) (.br (!mAtC (c, s == 5, g, []) 0 || x1.1 == 35) (.br (mAtC (c, s == 5, g, []) 0) (.leaf (some ((c.1, (rgx c.2.1 c.2.1.2.2.2.2.2.2.2.1 (spOf c) (ZA (c, s == 5, g, []) x1.2.1)), true, true, false, c.2.2.2.2.2)))) (.leaf none)) (.leaf none))
theorem ZFE (a : HL Zo) : Zh (envX Tryz.prog (ZaF 35) [] 79250227772808467515411824639 8) Tryz.f98 Zo Z0 a = Zrb a.1 a.2.1 a.2.2.1 a.2.2.2 := by kernel_rfl
def Zq7 (c : TC) (s : Int) (g : List Int) (ln : QT0) : RT (Option TC) :=
 let x1 := Za c.1 (mAt (c, s == 5, g, []) 0)
 let x2 := rSim (c.1, (rgx c.2.1 c.2.1.2.2.2.2.2.2.2.1 (spOf c) (ZA (c, s == 5, g, []) x1.2.1)), c.2.2) c.2.1.1
 let x3 := x2.2
 let x4 := x3.2
 .br (Zb s) (.leaf (some ((c.1, (rgx c.2.1 c.2.1.2.2.2.2.2.2.2.1 (u16.wrap ((spOf c) - 2)) (Zi s)), c.2.2)))) (.br (!mAtC (c, s == 5, g, []) 0 || x1.1 == 39) (.br (mAtC (c, s == 5, g, []) 0) (.leaf (some ((x2.1, x3.1, x4.1, false, false, x4.2.2.2)))) (.leaf none)) (.leaf none))
theorem ZFA (a : HL Zo) : Zh (envX Tryz.prog (ZaF 39) [] 79250227772808467515411824639 8) Tryz.f98 Zo Z0 a = Zq7 a.1 a.2.1 a.2.2.1 a.2.2.2 := by kernel_rfl
def Zq3 (c : TC) (s : Int) (g : List Int) (ln : QT0) : RT (Option TC) :=
 let x1 := Za c.1 (mAt (c, s == 5, g, []) 0)
 let x2 := Zs c.2.1 1 (u16.wrap (Zai c.2.1 2 + u16.wrap (mAt (c, s == 5, g, []) 1)))
 let x3 := x2.2
 let x4 := x3.2
 let x5 := x4.2
 let x6 := x5.2
 let x7 := x6.2
 let x8 := x7.2
 let x9 := x8.2
 .br (Zb s) (.leaf (some ((c.1, (rgx c.2.1 c.2.1.2.2.2.2.2.2.2.1 (u16.wrap ((spOf c) - 2)) (Zi s)), c.2.2)))) (.br (!mAtC (c, s == 5, g, []) 0 || x1.1 == 43) (.br (mAtC (c, s == 5, g, []) 0) (.br (mAtC (c, s == 5, g, []) 1) (.leaf (some ((c.1, (x2.1, x3.1, x4.1, x5.1, x6.1, x7.1, x8.1, x9.1, x9.2.1, ZA (c, s == 5, g, []) x1.2.1), c.2.2.1, false, false, c.2.2.2.2.2)))) (.leaf none)) (.leaf none)) (.leaf none))
theorem ZFw (a : HL Zo) : Zh (envX Tryz.prog (ZaF 43) [] 79250227772808467515411824639 8) Tryz.f98 Zo Z0 a = Zq3 a.1 a.2.1 a.2.2.1 a.2.2.2 := by kernel_rfl
def ZqZ (c : TC) (s : Int) (g : List Int) (ln : QT0) : RT (Option TC) :=
 let x1 := Za c.1 (mAt (c, s == 5, g, []) 0)
 let x2 := !mAtC (c, s == 5, g, []) 1 || mAtC (c, s == 5, g, []) 2
 let x3 := !x2 || mAtC (c, s == 5, g, []) 1
 let x4 := !x3 || x2
 .br (Zb s) (.leaf (some ((c.1, (rgx c.2.1 c.2.1.2.2.2.2.2.2.2.1 (u16.wrap ((spOf c) - 2)) (Zi s)), c.2.2)))) (.br (!mAtC (c, s == 5, g, []) 0 || x1.1 == 47) (.br (mAtC (c, s == 5, g, []) 0) (.br (!x4 || x3) (.br (x4) (.leaf (some ((c.1, (c.2.1.1, c.2.1.2.1, c.2.1.2.2.1, c.2.1.2.2.2.1, c.2.1.2.2.2.2.1, mAt (c, s == 5, g, []) 2, mAt (c, s == 5, g, []) 1, c.2.1.2.2.2.2.2.2.2.1, spOf c, ZA (c, s == 5, g, []) x1.2.1), c.2.2.1, false, false, c.2.2.2.2.2)))) (.leaf none)) (.leaf none)) (.leaf none)) (.leaf none))
theorem ZFs (a : HL Zo) : Zh (envX Tryz.prog (ZaF 47) [] 79250227772808467515411824639 8) Tryz.f98 Zo Z0 a = ZqZ a.1 a.2.1 a.2.2.1 a.2.2.2 := by kernel_rfl
def ZAu (c : TC) (s : Int) (g : List Int) (ln : QT0) : RT (Option TC) :=
 let x1 : QT1 := (c, s == 5, g, (0, 0, 0, 0, 0, 0, 0, 0), [])
 let x2 := qAtC x1 0
 let x3 := Za c.1 (qAt x1 0)
 let x4 := !x2 || x3.1 == 3
 let x5 := x3.2
 let x6 : QT1 := (c, s == 5, g, (3, x5), [])
 .br (Ze s) (.leaf (some ((c.1, (rgx c.2.1 c.2.1.2.2.2.2.2.2.2.1 (u16.wrap ((spOf c) - 2)) (Zi s)), c.2.2)))) (.br (!x4 || x2) (.br (x4) (.br (qAtC x6 1) (.leaf (some ((c.1, rSet (rgx c.2.1 c.2.1.2.2.2.2.2.2.2.1 (spOf c) (ZD x6)) x5.2.1 (qAt x6 1), c.2.2.1, false, false, c.2.2.2.2.2)))) (.leaf none)) (.leaf none)) (.leaf none))
theorem ZMh (a : HL Zp) : Zh (envX Tryz.prog (ZaG 3) [] 1023 8) Tryz.f111 Zp Z2 a = ZAu a.1 a.2.1 a.2.2.1 a.2.2.2 := by kernel_rfl
def ZAq (c : TC) (s : Int) (g : List Int) (ln : QT0) : RT (Option TC) :=
 let x1 : QT1 := (c, s == 5, g, (0, 0, 0, 0, 0, 0, 0, 0), [])
 let x2 := qAtC x1 0
 let x3 := Za c.1 (qAt x1 0)
 let x4 := !x2 || x3.1 == 7
 let x5 : QT1 := (c, s == 5, g, (7, x3.2), [])
 .br (Ze s) (.leaf (some ((c.1, (rgx c.2.1 c.2.1.2.2.2.2.2.2.2.1 (u16.wrap ((spOf c) - 2)) (Zi s)), c.2.2)))) (.br (!x4 || x2) (.br (x4) (.br (Zcq x5 3) (.leaf (some ((c.1, Zs (rgx c.2.1 c.2.1.2.2.2.2.2.2.2.1 (spOf c) (ZD x5)) 2 (ZfI x5 3), c.2.2.1, false, false, c.2.2.2.2.2)))) (.leaf none)) (.leaf none)) (.leaf none))
theorem ZMd (a : HL Zp) : Zh (envX Tryz.prog (ZaG 7) [] 1023 8) Tryz.f111 Zp Z2 a = ZAq a.1 a.2.1 a.2.2.1 a.2.2.2 := by kernel_rfl
def Zs4 (c : TC) (s : Int) (g : List Int) (ln : QT0) : RT (Option TC) :=
 let x1 : QT1 := (c, s == 5, g, (0, 0, 0, 0, 0, 0, 0, 0), [])
 let x2 := qAtC x1 0
 let x3 := Za c.1 (qAt x1 0)
 let x4 := !x2 || x3.1 == 11
 .br (Ze s) (.leaf (some ((c.1, (rgx c.2.1 c.2.1.2.2.2.2.2.2.2.1 (u16.wrap ((spOf c) - 2)) (Zi s)), c.2.2)))) (.br (!x4 || x2) (.br (x4) (.leaf (some ((c.1, (c.2.1.1, c.2.1.2.1, c.2.1.2.2.1, c.2.1.2.2.2.2.2.1, c.2.1.2.2.2.2.2.2.1, c.2.1.2.2.2.1, c.2.1.2.2.2.2.1, c.2.1.2.2.2.2.2.2.2.1, spOf c, ZD (c, s == 5, g, (11, x3.2), [])), c.2.2.1, false, false, c.2.2.2.2.2)))) (.leaf none)) (.leaf none))
theorem ZG7 (a : HL Zp) : Zh (envX Tryz.prog (ZaG 11) [] 1023 8) Tryz.f111 Zp Z2 a = Zs4 a.1 a.2.1 a.2.2.1 a.2.2.2 := by kernel_rfl
def Zs0 (c : TC) (s : Int) (g : List Int) (ln : QT0) : RT (Option TC) :=
 let x1 : QT1 := (c, s == 5, g, (0, 0, 0, 0, 0, 0, 0, 0), [])
 let x2 := qAtC x1 0
 let x3 := Za c.1 (qAt x1 0)
 let x4 := !x2 || x3.1 == 15
 let x5 := x3.2
 let x6 := x5.2.1
 let x7 := x6 == 6
 let x8 : QT1 := (c, s == 5, g, (15, x5), [])
 let x9 := rDcr c.1 (bif x7 then qAt x8 1 else qReg x8 x6) c.2.1.2.2.2.2.2.2.2.1
 .br (Ze s) (.leaf (some ((c.1, (rgx c.2.1 c.2.1.2.2.2.2.2.2.2.1 (u16.wrap ((spOf c) - 2)) (Zi s)), c.2.2)))) (.br (!x4 || x2) (.br (x4) (.br (!x7 || qAtC x8 1) (.leaf (some ((c.1, rSet (rgx c.2.1 x9.2 (spOf c) (ZD x8)) x6 x9.1, c.2.2.1, false, false, c.2.2.2.2.2)))) (.leaf none)) (.leaf none)) (.leaf none))
theorem ZG3 (a : HL Zp) : Zh (envX Tryz.prog (ZaG 15) [] 1023 8) Tryz.f111 Zp Z2 a = Zs0 a.1 a.2.1 a.2.2.1 a.2.2.2 := by kernel_rfl
def ZsW (c : TC) (s : Int) (g : List Int) (ln : QT0) : RT (Option TC) :=
 let x1 : QT1 := (c, s == 5, g, (0, 0, 0, 0, 0, 0, 0, 0), [])
 let x2 := qAtC x1 0
 let x3 := Za c.1 (qAt x1 0)
 let x4 := !x2 || x3.1 == 19
 let x5 := rDaa c.1 c.2.1.1 c.2.1.2.2.2.2.2.2.2.1
 .br (Ze s) (.leaf (some ((c.1, (rgx c.2.1 c.2.1.2.2.2.2.2.2.2.1 (u16.wrap ((spOf c) - 2)) (Zi s)), c.2.2)))) (.br (!x4 || x2) (.br (x4) (.leaf (some ((c.1, (x5.1, c.2.1.2.1, c.2.1.2.2.1, c.2.1.2.2.2.1, c.2.1.2.2.2.2.1, c.2.1.2.2.2.2.2.1, c.2.1.2.2.2.2.2.2.1, x5.2, spOf c, ZD (c, s == 5, g, (19, x3.2), [])), c.2.2.1, false, false, c.2.2.2.2.2)))) (.leaf none)) (.leaf none))
theorem ZGZ (a : HL Zp) : Zh (envX Tryz.prog (ZaG 19) [] 1023 8) Tryz.f111 Zp Z2 a = ZsW a.1 a.2.1 a.2.2.1 a.2.2.2 := by kernel_rfl
def ZsS (c : TC) (s : Int) (g : List Int) (ln : QT0) : RT (Option TC) :=
 let x1 : QT1 := (c, s == 5, g, (0, 0, 0, 0, 0, 0, 0, 0), [])
 let x2 := qAtC x1 0
 let x3 := Za c.1 (qAt x1 0)
 let x4 := !x2 || x3.1 == 23
 let x5 := x3.2
 let x6 := c.2.1.2.2.2.2.2.2.2.1.2.2.2
 let x7 := x6.2
 let x8 := x7.2
 let x9 := rRot x5.2.2.2.2.1 c.2.1.1 x8.2
 .br (Ze s) (.leaf (some ((c.1, (rgx c.2.1 c.2.1.2.2.2.2.2.2.2.1 (u16.wrap ((spOf c) - 2)) (Zi s)), c.2.2)))) (.br (!x4 || x2) (.br (x4) (.leaf (some ((c.1, (x9.1, c.2.1.2.1, c.2.1.2.2.1, c.2.1.2.2.2.1, c.2.1.2.2.2.2.1, c.2.1.2.2.2.2.2.1, c.2.1.2.2.2.2.2.2.1, (c.2.1.2.2.2.2.2.2.2.1.1, c.2.1.2.2.2.2.2.2.2.1.2.1, c.2.1.2.2.2.2.2.2.2.1.2.2.1, x6.1, x7.1, x8.1, x9.2), spOf c, ZD (c, s == 5, g, (23, x5), [])), c.2.2.1, false, false, c.2.2.2.2.2)))) (.leaf none)) (.leaf none))
theorem ZGV (a : HL Zp) : Zh (envX Tryz.prog (ZaG 23) [] 1023 8) Tryz.f111 Zp Z2 a = ZsS a.1 a.2.1 a.2.2.1 a.2.2.2 := by kernel_rfl
def ZsO (c : TC) (s : Int) (g : List Int) (ln : QT0) : RT (Option TC) :=
 let x1 := u16.wrap ((spOf c) - 2)
 let x2 : QT1 := (c, s == 5, g, (0, 0, 0, 0, 0, 0, 0, 0), [])
 let x3 := qAtC x2 0
 let x4 := Za c.1 (qAt x2 0)
 let x5 := !x3 || x4.1 == 27
 .br (Ze s) (.leaf (some ((c.1, (rgx c.2.1 c.2.1.2.2.2.2.2.2.2.1 x1 (Zi s)), c.2.2)))) (.br (!x5 || x3) (.br (x5) (.leaf (some ((c.1, (rgx c.2.1 c.2.1.2.2.2.2.2.2.2.1 x1 (u16.wrap (i64.wrap (8 * x4.2.2.2.2.2.2.2)))), c.2.2.1, false, false, c.2.2.2.2.2)))) (.leaf none)) (.leaf none))
theorem ZGR (a : HL Zp) : Zh (envX Tryz.prog (ZaG 27) [] 1023 8) Tryz.f111 Zp Z2 a = ZsO a.1 a.2.1 a.2.2.1 a.2.2.2 := by kernel_rfl
def ZsK (c : TC) (s : Int) (g : List Int) (ln : QT0) : RT (Option TC) :=
 let x1 : QT1 := (c, s == 5, g, (0, 0, 0, 0, 0, 0, 0, 0), [])
 let x2 := qAtC x1 0
 let x3 := Za c.1 (qAt x1 0)
 let x4 := !x2 || x3.1 == 31
 let x5 := x3.2
 let x6 := x5.2.2.2.1
 let x7 := x6 == 3
 let x8 : QT1 := (c, s == 5, g, (31, x5), [])
 let x9 := Zcq x8 1
 let x10 := !x7 || x9
 let x11 := !x10 || (x7 || x9)
 let x12 := !x11 || x10
 let x13 := !x12 || x11
 let x14 : TR := (rgx c.2.1 c.2.1.2.2.2.2.2.2.2.1 (spOf c) (ZD x8))
 let x15 := ZfI x8 1
 let x16 := Zfx c.1 x14 x15
 let x17 := Zs x14 x6 x15
 let x18 := x16.2
 let x19 := x17.2
 let x20 := x18.2
 let x21 := x19.2
 let x22 := x20.2
 let x23 := x21.2
 let x24 := x22.2
 let x25 := x23.2
 let x26 := x24.2
 let x27 := x25.2
 let x28 := x26.2
 let x29 := x27.2
 let x30 := x28.2
 let x31 := x30.1
 let x32 := x29.2
 let x33 := x32.1
 let x34 := x31.2
 let x35 := x33.2
 let x36 := x34.2
 let x37 := x35.2
 let x38 := x36.2
 let x39 := x37.2
 let x40 := x38.2
 let x41 := x39.2
 let x42 := x40.2
 let x43 := x41.2
 let x44 := x30.2
 let x45 := x32.2
 .br (Ze s) (.leaf (some ((c.1, (rgx c.2.1 c.2.1.2.2.2.2.2.2.2.1 (u16.wrap ((spOf c) - 2)) (Zi s)), c.2.2)))) (.br (!x4 || x2) (.br (x4) (.br (!x13 || x12) (.br (x13) (.leaf (some ((c.1, (bif x7 then x16.1 else x17.1, bif x7 then x18.1 else x19.1, bif x7 then x20.1 else x21.1, bif x7 then x22.1 else x23.1, bif x7 then x24.1 else x25.1, bif x7 then x26.1 else x27.1, bif x7 then x28.1 else x29.1, (bif x7 then x31.1 else x33.1, bif x7 then x34.1 else x35.1, bif x7 then x36.1 else x37.1, bif x7 then x38.1 else x39.1, bif x7 then x40.1 else x41.1, bif x7 then x42.1 else x43.1, bif x7 then x42.2 else x43.2), u16.wrap ((bif x7 then x44.1 else x45.1) + 2), bif x7 then x44.2 else x45.2), c.2.2.1, false, false, c.2.2.2.2.2)))) (.leaf none)) (.leaf none)) (.leaf none)) (.leaf none))
theorem ZGN (a : HL Zp) : Zh (envX Tryz.prog (ZaG 31) [] 1023 8) Tryz.f111 Zp Z2 a = ZsK a.1 a.2.1 a.2.2.1 a.2.2.2 := by kernel_rfl
def ZsG (c : TC) (s : Int) (g : List Int) (ln : QT0) : RT (Option TC) :=
 let x1 : QT1 := (c, s == 5, g, (0, 0, 0, 0, 0, 0, 0, 0), [])
 let x2 := qAtC x1 0
 let x3 := Za c.1 (qAt x1 0)
 let x4 := !x2 || x3.1 == 35
 .br (Ze s) (.leaf (some ((c.1, (rgx c.2.1 c.2.1.2.2.2.2.2.2.2.1 (u16.wrap ((spOf c) - 2)) (Zi s)), c.2.2)))) (.br (!x4 || x2) (.br (x4) (.leaf (some ((c.1, (rgx c.2.1 c.2.1.2.2.2.2.2.2.2.1 (spOf c) (ZD (c, s == 5, g, (35, x3.2), []))), true, true, false, c.2.2.2.2.2)))) (.leaf none)) (.leaf none))
theorem ZGJ (a : HL Zp) : Zh (envX Tryz.prog (ZaG 35) [] 1023 8) Tryz.f111 Zp Z2 a = ZsG a.1 a.2.1 a.2.2.1 a.2.2.2 := by kernel_rfl
def ZsC (c : TC) (s : Int) (g : List Int) (ln : QT0) : RT (Option TC) :=
 let x1 : QT1 := (c, s == 5, g, (0, 0, 0, 0, 0, 0, 0, 0), [])
 let x2 := qAtC x1 0
 let x3 := Za c.1 (qAt x1 0)
 let x4 := !x2 || x3.1 == 39
 let x5 := rSim (c.1, (rgx c.2.1 c.2.1.2.2.2.2.2.2.2.1 (spOf c) (ZD (c, s == 5, g, (39, x3.2), []))), c.2.2.1, 39 == 35, 39 == 37, c.2.2.2.2.2) c.2.1.1
 let x6 := x5.2
 let x7 := x6.2
 .br (Ze s) (.leaf (some ((c.1, (rgx c.2.1 c.2.1.2.2.2.2.2.2.2.1 (u16.wrap ((spOf c) - 2)) (Zi s)), c.2.2)))) (.br (!x4 || x2) (.br (x4) (.leaf (some ((x5.1, x6.1, x7.1, false, false, x7.2.2.2)))) (.leaf none)) (.leaf none))
theorem ZGF (a : HL Zp) : Zh (envX Tryz.prog (ZaG 39) [] 1023 8) Tryz.f111 Zp Z2 a = ZsC a.1 a.2.1 a.2.2.1 a.2.2.2 := by kernel_rfl
def Zsy (c : TC) (s : Int) (g : List Int) (ln : QT0) : RT (Option TC) :=
 let x1 : QT1 := (c, s == 5, g, (0, 0, 0, 0, 0, 0, 0, 0), [])
 let x2 := qAtC x1 0
 let x3 := Za c.1 (qAt x1 0)
 let x4 := !x2 || x3.1 == 43
 let x5 : QT1 := (c, s == 5, g, (43, x3.2), [])
 .br (Ze s) (.leaf (some ((c.1, (rgx c.2.1 c.2.1.2.2.2.2.2.2.2.1 (u16.wrap ((spOf c) - 2)) (Zi s)), c.2.2)))) (.br (!x4 || x2) (.br (x4) (.br (qAtC x5 1) (.leaf (some ((c.1, Zs (rgx c.2.1 c.2.1.2.2.2.2.2.2.2.1 (spOf c) (ZD x5)) 1 (u16.wrap (ZdG x5 2 + u16.wrap (qAt x5 1))), c.2.2.1, false, false, c.2.2.2.2.2)))) (.leaf none)) (.leaf none)) (.leaf none))
theorem ZGB (a : HL Zp) : Zh (envX Tryz.prog (ZaG 43) [] 1023 8) Tryz.f111 Zp Z2 a = Zsy a.1 a.2.1 a.2.2.1 a.2.2.2 := by kernel_rfl
def Zsu (c : TC) (s : Int) (g : List Int) (ln : QT0) : RT (Option TC) :=
 let x1 : QT1 := (c, s == 5, g, (0, 0, 0, 0, 0, 0, 0, 0), [])
 let x2 := qAtC x1 0
 let x3 := Za c.1 (qAt x1 0)
 let x4 := !x2 || x3.1 == 47
 let x5 : QT1 := (c, s == 5, g, (47, x3.2), [])
 .br (Ze s) (.leaf (some ((c.1, (rgx c.2.1 c.2.1.2.2.2.2.2.2.2.1 (u16.wrap ((spOf c) - 2)) (Zi s)), c.2.2)))) (.br (!x4 || x2) (.br (x4) (.br (Zcq x5 1) (.leaf (some ((c.1, Zs (rgx c.2.1 c.2.1.2.2.2.2.2.2.2.1 (spOf c) (ZD x5)) 2 (ZfI x5 1), c.2.2.1, false, false, c.2.2.2.2.2)))) (.leaf none)) (.leaf none)) (.leaf none))
theorem ZGx (a : HL Zp) : Zh (envX Tryz.prog (ZaG 47) [] 1023 8) Tryz.f111 Zp Z2 a = Zsu a.1 a.2.1 a.2.2.1 a.2.2.2 := by kernel_rfl
def Zy0 (c : TC) (s : Int) (g : List Int) (ln : QT0) : RT (Option TC) :=
 let x1 := Za c.1 (mAt (c, s == 5, g, []) 0)
 let x2 := x1.2
 let x3 := Zs c.2.1 x2.2.2.2.1 (Zei (c, s == 5, g, []) 1)
 let x4 := x3.2
 let x5 := x4.2
 let x6 := x5.2
 let x7 := x6.2
 let x8 := x7.2
 let x9 := x8.2
 let x10 := x9.2
 .br (Zb s) (.leaf (some ((c.1, (rgx c.2.1 c.2.1.2.2.2.2.2.2.2.1 (u16.wrap ((spOf c) - 2)) (Zi s)), c.2.2)))) (.br (!mAtC (c, s == 5, g, []) 0 || x1.1 == 4) (.br (mAtC (c, s == 5, g, []) 0) (.br (ZbX (c, s == 5, g, []) 1) (.leaf (some ((c.1, (x3.1, x4.1, x5.1, x6.1, x7.1, x8.1, x9.1, x10.1, x10.2.1, ZA (c, s == 5, g, []) x2.1), c.2.2.1, false, false, c.2.2.2.2.2)))) (.leaf none)) (.leaf none)) (.leaf none))
theorem ZKp (a : HL Zo) : Zh (envX Tryz.prog (ZaF 4) [] 79250227772808467515411824639 8) Tryz.f98 Zo Z0 a = Zy0 a.1 a.2.1 a.2.2.1 a.2.2.2 := by kernel_rfl
def ZyW (c : TC) (s : Int) (g : List Int) (ln : QT0) : RT (Option TC) :=
 let x1 := Za c.1 (mAt (c, s == 5, g, []) 0)
 .br (Zb s) (.leaf (some ((c.1, (rgx c.2.1 c.2.1.2.2.2.2.2.2.2.1 (u16.wrap ((spOf c) - 2)) (Zi s)), c.2.2)))) (.br (!mAtC (c, s == 5, g, []) 0 || x1.1 == 8) (.br (mAtC (c, s == 5, g, []) 0) (.leaf (some ((c.1, (rgx c.2.1 c.2.1.2.2.2.2.2.2.2.1 (spOf c) (ZA (c, s == 5, g, []) x1.2.1)), c.2.2.1, false, false, c.2.2.2.2.2)))) (.leaf none)) (.leaf none))
theorem ZKl (a : HL Zo) : Zh (envX Tryz.prog (ZaF 8) [] 79250227772808467515411824639 8) Tryz.f98 Zo Z0 a = ZyW a.1 a.2.1 a.2.2.1 a.2.2.2 := by kernel_rfl
def Zry (c : TC) (s : Int) (g : List Int) (ln : QT0) : RT (Option TC) :=
 let x1 := Za c.1 (mAt (c, s == 5, g, []) 0)
 let x2 := x1.2
 let x3 := x2.2.2
 let x4 := x3.1
 let x5 := x4 == 6
 let x6 := rDo c.1 x3.2.2.1 c.2.1.1 (bif x5 then mAt (c, s == 5, g, []) 1 else rGet c.2.1 x4) c.2.1.2.2.2.2.2.2.2.1
 .br (Zb s) (.leaf (some ((c.1, (rgx c.2.1 c.2.1.2.2.2.2.2.2.2.1 (u16.wrap ((spOf c) - 2)) (Zi s)), c.2.2)))) (.br (!mAtC (c, s == 5, g, []) 0 || x1.1 == 12) (.br (mAtC (c, s == 5, g, []) 0) (.br (!x5 || mAtC (c, s == 5, g, []) 1) (.leaf (some ((c.1, (x6.1, c.2.1.2.1, c.2.1.2.2.1, c.2.1.2.2.2.1, c.2.1.2.2.2.2.1, c.2.1.2.2.2.2.2.1, c.2.1.2.2.2.2.2.2.1, x6.2, spOf c, ZA (c, s == 5, g, []) x2.1), c.2.2.1, false, false, c.2.2.2.2.2)))) (.leaf none)) (.leaf none)) (.leaf none))
theorem ZF1 (a : HL Zo) : Zh (envX Tryz.prog (ZaF 12) [] 79250227772808467515411824639 8) Tryz.f98 Zo Z0 a = Zry a.1 a.2.1 a.2.2.1 a.2.2.2 := by kernel_rfl
def Zru (c : TC) (s : Int) (g : List Int) (ln : QT0) : RT (Option TC) :=
 let x1 := Za c.1 (mAt (c, s == 5, g, []) 0)
 let x2 := x1.2
 let x3 := x2.2.2.2.1
 let x4 := rInx c.1 (Zai c.2.1 x3) c.2.1.2.2.2.2.2.2.2.1
 let x5 := Zs c.2.1 x3 x4.1
 let x6 := x5.2
 let x7 := x6.2
 let x8 := x7.2
 let x9 := x8.2
 let x10 := x9.2
 let x11 := x10.2
 .br (Zb s) (.leaf (some ((c.1, (rgx c.2.1 c.2.1.2.2.2.2.2.2.2.1 (u16.wrap ((spOf c) - 2)) (Zi s)), c.2.2)))) (.br (!mAtC (c, s == 5, g, []) 0 || x1.1 == 16) (.br (mAtC (c, s == 5, g, []) 0) (.leaf (some ((c.1, (x5.1, x6.1, x7.1, x8.1, x9.1, x10.1, x11.1, x4.2, x11.2.2.1, ZA (c, s == 5, g, []) x2.1), c.2.2.1, false, false, c.2.2.2.2.2)))) (.leaf none)) (.leaf none))
theorem ZFX (a : HL Zo) : Zh (envX Tryz.prog (ZaF 16) [] 79250227772808467515411824639 8) Tryz.f98 Zo Z0 a = Zru a.1 a.2.1 a.2.2.1 a.2.2.2 := by kernel_rfl
def Zrq (c : TC) (s : Int) (g : List Int) (ln : QT0) : RT (Option TC) :=
 let x1 := Za c.1 (mAt (c, s == 5, g, []) 0)
 .br (Zb s) (.leaf (some ((c.1, (rgx c.2.1 c.2.1.2.2.2.2.2.2.2.1 (u16.wrap ((spOf c) - 2)) (Zi s)), c.2.2)))) (.br (!mAtC (c, s == 5, g, []) 0 || x1.1 == 20) (.br (mAtC (c, s == 5, g, []) 0) (.leaf (some ((c.1, (u8.wrap (255 - c.2.1.1), c.2.1.2.1, c.2.1.2.2.1, c.2.1.2.2.2.1, c.2.1.2.2.2.2.1, c.2.1.2.2.2.2.2.1, c.2.1.2.2.2.2.2.2.1, c.2.1.2.2.2.2.2.2.2.1, spOf c, ZA (c, s == 5, g, []) x1.2.1), c.2.2.1, false, false, c.2.2.2.2.2)))) (.leaf none)) (.leaf none))
theorem ZFT (a : HL Zo) : Zh (envX Tryz.prog (ZaF 20) [] 79250227772808467515411824639 8) Tryz.f98 Zo Z0 a = Zrq a.1 a.2.1 a.2.2.1 a.2.2.2 := by kernel_rfl
def Zrm (c : TC) (s : Int) (g : List Int) (ln : QT0) : RT (Option TC) :=
 let x1 := Za c.1 (mAt (c, s == 5, g, []) 0)
 let x2 := x1.2
 let x3 := !Zd6 (c, s == 5, g, []) (24, x2)
 let x4 := c.2.1.2.2.2.2.2.2.2.1.2.2.1
 let x5 := c.2.1.2.2.2.2.2.2.2.1.2.2.2
 let x6 := x5.1
 let x7 := x5.2
 let x8 := x7.1
 let x9 := x7.2
 let x10 := x9.1
 let x11 := x9.2
 .br (Zb s) (.leaf (some ((c.1, (rgx c.2.1 c.2.1.2.2.2.2.2.2.2.1 (u16.wrap ((spOf c) - 2)) (Zi s)), c.2.2)))) (.br (!mAtC (c, s == 5, g, []) 0 || x1.1 == 24) (.br (mAtC (c, s == 5, g, []) 0) (.br (x3 || ZbX (c, s == 5, g, []) 1) (.leaf (some ((bif x3 then c.1 else c.1, (bif x3 then c.2.1.1 else c.2.1.1, bif x3 then c.2.1.2.1 else c.2.1.2.1, bif x3 then c.2.1.2.2.1 else c.2.1.2.2.1, bif x3 then c.2.1.2.2.2.1 else c.2.1.2.2.2.1, bif x3 then c.2.1.2.2.2.2.1 else c.2.1.2.2.2.2.1, bif x3 then c.2.1.2.2.2.2.2.1 else c.2.1.2.2.2.2.2.1, bif x3 then c.2.1.2.2.2.2.2.2.1 else c.2.1.2.2.2.2.2.2.1, (bif x3 then c.2.1.2.2.2.2.2.2.2.1.1 else c.2.1.2.2.2.2.2.2.2.1.1, bif x3 then c.2.1.2.2.2.2.2.2.2.1.2.1 else c.2.1.2.2.2.2.2.2.2.1.2.1, bif x3 then x4 else x4, bif x3 then x6 else x6, bif x3 then x8 else x8, bif x3 then x10 else x10, bif x3 then x11 else x11), bif x3 then (spOf c) else (spOf c), bif x3 then ZA (c, s == 5, g, []) x2.1 else Zei (c, s == 5, g, []) 1), bif x3 then c.2.2.1 else c.2.2.1, false, false, bif x3 then c.2.2.2.2.2.1 else c.2.2.2.2.2.1, bif x3 then c.2.2.2.2.2.2.1 else c.2.2.2.2.2.2.1, bif x3 then c.2.2.2.2.2.2.2.1 else c.2.2.2.2.2.2.2.1, bif x3 then c.2.2.2.2.2.2.2.2.1 else c.2.2.2.2.2.2.2.2.1, bif x3 then c.2.2.2.2.2.2.2.2.2.1 else c.2.2.2.2.2.2.2.2.2.1, bif x3 then c.2.2.2.2.2.2.2.2.2.2.1 else c.2.2.2.2.2.2.2.2.2.2.1, bif x3 then c.2.2.2.2.2.2.2.2.2.2.2.1 else c.2.2.2.2.2.2.2.2.2.2.2.1, bif x3 then c.2.2.2.2.2.2.2.2.2.2.2.2 else c.2.2.2.2.2.2.2.2.2.2.2.2)))) (.leaf none)) (.leaf none)) (.leaf none))
theorem ZFP (a : HL Zo) : Zh (envX Tryz.prog (ZaF 24) [] 79250227772808467515411824639 8) Tryz.f98 Zo Z0 a = Zrm a.1 a.2.1 a.2.2.1 a.2.2.2 := by kernel_rfl
def Zri (c : TC) (s : Int) (g : List Int) (ln : QT0) : RT (Option TC) :=
 let x1 := Za c.1 (mAt (c, s == 5, g, []) 0)
 .br (Zb s) (.leaf (some ((c.1, (rgx c.2.1 c.2.1.2.2.2.2.2.2.2.1 (u16.wrap ((spOf c) - 2)) (Zi s)), c.2.2)))) (.br (!mAtC (c, s == 5, g, []) 0 || x1.1 == 28) (.br (mAtC (c, s == 5, g, []) 0) (.leaf (some ((c.1, (rgx c.2.1 c.2.1.2.2.2.2.2.2.2.1 (spOf c) (Zai (rgx c.2.1 c.2.1.2.2.2.2.2.2.2.1 (spOf c) (ZA (c, s == 5, g, []) x1.2.1)) 2)), c.2.2.1, false, false, c.2.2.2.2.2)))) (.leaf none)) (.leaf none))
theorem ZFL (a : HL Zo) : Zh (envX Tryz.prog (ZaF 28) [] 79250227772808467515411824639 8) Tryz.f98 Zo Z0 a = Zri a.1 a.2.1 a.2.2.1 a.2.2.2 := by kernel_rfl
def Zre (c : TC) (s : Int) (g : List Int) (ln : QT0) : RT (Option TC) :=
 let x1 := Za c.1 (mAt (c, s == 5, g, []) 0)
 let x2 := !mAtC (c, s == 5, g, []) 1 || mAtC (c, s == 5, g, []) 2
 let x3 := !x2 || mAtC (c, s == 5, g, []) 1
 let x4 := !x3 || x2
 .br (Zb s) (.leaf (some ((c.1, (rgx c.2.1 c.2.1.2.2.2.2.2.2.2.1 (u16.wrap ((spOf c) - 2)) (Zi s)), c.2.2)))) (.br (!mAtC (c, s == 5, g, []) 0 || x1.1 == 32) (.br (mAtC (c, s == 5, g, []) 0) (.br (!x4 || x3) (.br (x4) (.leaf (some ((c.1, (c.2.1.1, c.2.1.2.1, c.2.1.2.2.1, c.2.1.2.2.2.1, c.2.1.2.2.2.2.1, mAt (c, s == 5, g, []) 2, mAt (c, s == 5, g, []) 1, c.2.1.2.2.2.2.2.2.2.1, spOf c, ZA (c, s == 5, g, []) x1.2.1), c.2.2.1, false, false, c.2.2.2.2.2)))) (.leaf none)) (.leaf none)) (.leaf none)) (.leaf none))
theorem ZFH (a : HL Zo) : Zh (envX Tryz.prog (ZaF 32) [] 79250227772808467515411824639 8) Tryz.f98 Zo Z0 a = Zre a.1 a.2.1 a.2.2.1 a.2.2.2 := by kernel_rfl
def Zra (c : TC) (s : Int) (g : List Int) (ln : QT0) : RT (Option TC) :=
 let x1 := Za c.1 (mAt (c, s == 5, g, []) 0)
 .br (Zb s) (.leaf (some ((c.1, (rgx c.2.1 c.2.1.2.2.2.2.2.2.2.1 (u16.wrap ((spOf c) - 2)) (Zi s)), c.2.2)))) (.br (!mAtC (c, s == 5, g, []) 0 || x1.1 == 36) (.br (mAtC (c, s == 5, g, []) 0) (.leaf (some ((c.1, (rgx c.2.1 c.2.1.2.2.2.2.2.2.2.1 (spOf c) (ZA (c, s == 5, g, []) x1.2.1)), false, false, false, c.2.2.2.2.2)))) (.leaf none)) (.leaf none))
theorem ZFD (a : HL Zo) : Zh (envX Tryz.prog (ZaF 36) [] 79250227772808467515411824639 8) Tryz.f98 Zo Z0 a = Zra a.1 a.2.1 a.2.2.1 a.2.2.2 := by kernel_rfl
def Zq6 (c : TC) (s : Int) (g : List Int) (ln : QT0) : RT (Option TC) :=
 let x1 := Za c.1 (mAt (c, s == 5, g, []) 0)
 let x2 := Zs c.2.1 2 (Zvm (Zai c.2.1 2) (Zai c.2.1 0)).1
 let x3 := x2.2
 let x4 := x3.2
 let x5 := x4.2
 let x6 := x5.2
 let x7 := x6.2
 let x8 := x7.2
 .br (Zb s) (.leaf (some ((c.1, (rgx c.2.1 c.2.1.2.2.2.2.2.2.2.1 (u16.wrap ((spOf c) - 2)) (Zi s)), c.2.2)))) (.br (!mAtC (c, s == 5, g, []) 0 || x1.1 == 40) (.br (mAtC (c, s == 5, g, []) 0) (.leaf (some ((c.1, (x2.1, x3.1, x4.1, x5.1, x6.1, x7.1, x8.1, (Zvm (Zai c.2.1 2) (Zai c.2.1 0)).2, x8.2.2.1, ZA (c, s == 5, g, []) x1.2.1), c.2.2.1, false, false, c.2.2.2.2.2)))) (.leaf none)) (.leaf none))
theorem ZFz (a : HL Zo) : Zh (envX Tryz.prog (ZaF 40) [] 79250227772808467515411824639 8) Tryz.f98 Zo Z0 a = Zq6 a.1 a.2.1 a.2.2.1 a.2.2.2 := by kernel_rfl
def Zq2 (c : TC) (s : Int) (g : List Int) (ln : QT0) : RT (Option TC) :=
 let x1 := Za c.1 (mAt (c, s == 5, g, []) 0)
 let x2 := Zs c.2.1 1 (u16.wrap ((spOf c) + u16.wrap (mAt (c, s == 5, g, []) 1)))
 let x3 := x2.2
 let x4 := x3.2
 let x5 := x4.2
 let x6 := x5.2
 let x7 := x6.2
 let x8 := x7.2
 let x9 := x8.2
 .br (Zb s) (.leaf (some ((c.1, (rgx c.2.1 c.2.1.2.2.2.2.2.2.2.1 (u16.wrap ((spOf c) - 2)) (Zi s)), c.2.2)))) (.br (!mAtC (c, s == 5, g, []) 0 || x1.1 == 44) (.br (mAtC (c, s == 5, g, []) 0) (.br (mAtC (c, s == 5, g, []) 1) (.leaf (some ((c.1, (x2.1, x3.1, x4.1, x5.1, x6.1, x7.1, x8.1, x9.1, x9.2.1, ZA (c, s == 5, g, []) x1.2.1), c.2.2.1, false, false, c.2.2.2.2.2)))) (.leaf none)) (.leaf none)) (.leaf none))
theorem ZFv (a : HL Zo) : Zh (envX Tryz.prog (ZaF 44) [] 79250227772808467515411824639 8) Tryz.f98 Zo Z0 a = Zq2 a.1 a.2.1 a.2.2.1 a.2.2.2 := by kernel_rfl
def ZAt (c : TC) (s : Int) (g : List Int) (ln : QT0) : RT (Option TC) :=
 let x1 : QT1 := (c, s == 5, g, (0, 0, 0, 0, 0, 0, 0, 0), [])
 let x2 := qAtC x1 0
 let x3 := Za c.1 (qAt x1 0)
 let x4 := !x2 || x3.1 == 4
 let x5 := x3.2
 let x6 : QT1 := (c, s == 5, g, (4, x5), [])
 .br (Ze s) (.leaf (some ((c.1, (rgx c.2.1 c.2.1.2.2.2.2.2.2.2.1 (u16.wrap ((spOf c) - 2)) (Zi s)), c.2.2)))) (.br (!x4 || x2) (.br (x4) (.br (Zcq x6 1) (.leaf (some ((c.1, Zs (rgx c.2.1 c.2.1.2.2.2.2.2.2.2.1 (spOf c) (ZD x6)) x5.2.2.2.1 (ZfI x6 1), c.2.2.1, false, false, c.2.2.2.2.2)))) (.leaf none)) (.leaf none)) (.leaf none))
theorem ZMg (a : HL Zp) : Zh (envX Tryz.prog (ZaG 4) [] 1023 8) Tryz.f111 Zp Z2 a = ZAt a.1 a.2.1 a.2.2.1 a.2.2.2 := by kernel_rfl
def ZAp (c : TC) (s : Int) (g : List Int) (ln : QT0) : RT (Option TC) :=
 let x1 : QT1 := (c, s == 5, g, (0, 0, 0, 0, 0, 0, 0, 0), [])
 let x2 := qAtC x1 0
 let x3 := Za c.1 (qAt x1 0)
 let x4 := !x2 || x3.1 == 8
 .br (Ze s) (.leaf (some ((c.1, (rgx c.2.1 c.2.1.2.2.2.2.2.2.2.1 (u16.wrap ((spOf c) - 2)) (Zi s)), c.2.2)))) (.br (!x4 || x2) (.br (x4) (.leaf (some ((c.1, (rgx c.2.1 c.2.1.2.2.2.2.2.2.2.1 (spOf c) (ZD (c, s == 5, g, (8, x3.2), []))), c.2.2.1, false, false, c.2.2.2.2.2)))) (.leaf none)) (.leaf none))
theorem ZMc (a : HL Zp) : Zh (envX Tryz.prog (ZaG 8) [] 1023 8) Tryz.f111 Zp Z2 a = ZAp a.1 a.2.1 a.2.2.1 a.2.2.2 := by kernel_rfl
def Zs3 (c : TC) (s : Int) (g : List Int) (ln : QT0) : RT (Option TC) :=
 let x1 : QT1 := (c, s == 5, g, (0, 0, 0, 0, 0, 0, 0, 0), [])
 let x2 := qAtC x1 0
 let x3 := Za c.1 (qAt x1 0)
 let x4 := !x2 || x3.1 == 12
 let x5 := x3.2
 let x6 : QT1 := (c, s == 5, g, (12, x5), [])
 let x7 := rDo c.1 x5.2.2.2.2.1 c.2.1.1 (ZhO x6) c.2.1.2.2.2.2.2.2.2.1
 .br (Ze s) (.leaf (some ((c.1, (rgx c.2.1 c.2.1.2.2.2.2.2.2.2.1 (u16.wrap ((spOf c) - 2)) (Zi s)), c.2.2)))) (.br (!x4 || x2) (.br (x4) (.br (ZfH x6) (.leaf (some ((c.1, (x7.1, c.2.1.2.1, c.2.1.2.2.1, c.2.1.2.2.2.1, c.2.1.2.2.2.2.1, c.2.1.2.2.2.2.2.1, c.2.1.2.2.2.2.2.2.1, x7.2, spOf c, ZD x6), c.2.2.1, false, false, c.2.2.2.2.2)))) (.leaf none)) (.leaf none)) (.leaf none))
theorem ZG6 (a : HL Zp) : Zh (envX Tryz.prog (ZaG 12) [] 1023 8) Tryz.f111 Zp Z2 a = Zs3 a.1 a.2.1 a.2.2.1 a.2.2.2 := by kernel_rfl
def ZsZ (c : TC) (s : Int) (g : List Int) (ln : QT0) : RT (Option TC) :=
 let x1 : QT1 := (c, s == 5, g, (0, 0, 0, 0, 0, 0, 0, 0), [])
 let x2 := qAtC x1 0
 let x3 := Za c.1 (qAt x1 0)
 let x4 := !x2 || x3.1 == 16
 let x5 := x3.2
 let x6 : QT1 := (c, s == 5, g, (16, x5), [])
 let x7 := x5.2.2.2.1
 let x8 := rInx c.1 (ZdG x6 x7) c.2.1.2.2.2.2.2.2.2.1
 .br (Ze s) (.leaf (some ((c.1, (rgx c.2.1 c.2.1.2.2.2.2.2.2.2.1 (u16.wrap ((spOf c) - 2)) (Zi s)), c.2.2)))) (.br (!x4 || x2) (.br (x4) (.leaf (some ((c.1, Zs (rgx c.2.1 x8.2 (spOf c) (ZD x6)) x7 x8.1, c.2.2.1, false, false, c.2.2.2.2.2)))) (.leaf none)) (.leaf none))
theorem ZG2 (a : HL Zp) : Zh (envX Tryz.prog (ZaG 16) [] 1023 8) Tryz.f111 Zp Z2 a = ZsZ a.1 a.2.1 a.2.2.1 a.2.2.2 := by kernel_rfl
def ZsV (c : TC) (s : Int) (g : List Int) (ln : QT0) : RT (Option TC) :=
 let x1 : QT1 := (c, s == 5, g, (0, 0, 0, 0, 0, 0, 0, 0), [])
 let x2 := qAtC x1 0
 let x3 := Za c.1 (qAt x1 0)
 let x4 := !x2 || x3.1 == 20
 .br (Ze s) (.leaf (some ((c.1, (rgx c.2.1 c.2.1.2.2.2.2.2.2.2.1 (u16.wrap ((spOf c) - 2)) (Zi s)), c.2.2)))) (.br (!x4 || x2) (.br (x4) (.leaf (some ((c.1, (notI u8 c.2.1.1, c.2.1.2.1, c.2.1.2.2.1, c.2.1.2.2.2.1, c.2.1.2.2.2.2.1, c.2.1.2.2.2.2.2.1, c.2.1.2.2.2.2.2.2.1, c.2.1.2.2.2.2.2.2.2.1, spOf c, ZD (c, s == 5, g, (20, x3.2), [])), c.2.2.1, false, false, c.2.2.2.2.2)))) (.leaf none)) (.leaf none))
theorem ZGY (a : HL Zp) : Zh (envX Tryz.prog (ZaG 20) [] 1023 8) Tryz.f111 Zp Z2 a = ZsV a.1 a.2.1 a.2.2.1 a.2.2.2 := by kernel_rfl
def ZsR (c : TC) (s : Int) (g : List Int) (ln : QT0) : RT (Option TC) :=
 let x1 : QT1 := (c, s == 5, g, (0, 0, 0, 0, 0, 0, 0, 0), [])
 let x2 := qAtC x1 0
 let x3 := Za c.1 (qAt x1 0)
 let x4 := !x2 || x3.1 == 24
 let x5 : QT1 := (c, s == 5, g, (24, x3.2), [])
 let x6 := ZgJ x5
 .br (Ze s) (.leaf (some ((c.1, (rgx c.2.1 c.2.1.2.2.2.2.2.2.2.1 (u16.wrap ((spOf c) - 2)) (Zi s)), c.2.2)))) (.br (!x4 || x2) (.br (x4) (.br (!x6 || Zcq x5 1) (.leaf (some ((c.1, (rgx c.2.1 c.2.1.2.2.2.2.2.2.2.1 (spOf c) (bif x6 then ZfI x5 1 else ZD x5)), c.2.2.1, false, false, c.2.2.2.2.2)))) (.leaf none)) (.leaf none)) (.leaf none))
theorem ZGU (a : HL Zp) : Zh (envX Tryz.prog (ZaG 24) [] 1023 8) Tryz.f111 Zp Z2 a = ZsR a.1 a.2.1 a.2.2.1 a.2.2.2 := by kernel_rfl
def ZsN (c : TC) (s : Int) (g : List Int) (ln : QT0) : RT (Option TC) :=
 let x1 : QT1 := (c, s == 5, g, (0, 0, 0, 0, 0, 0, 0, 0), [])
 let x2 := qAtC x1 0
 let x3 := Za c.1 (qAt x1 0)
 let x4 := !x2 || x3.1 == 28
 .br (Ze s) (.leaf (some ((c.1, (rgx c.2.1 c.2.1.2.2.2.2.2.2.2.1 (u16.wrap ((spOf c) - 2)) (Zi s)), c.2.2)))) (.br (!x4 || x2) (.br (x4) (.leaf (some ((c.1, (rgx c.2.1 c.2.1.2.2.2.2.2.2.2.1 (spOf c) (ZdG (c, s == 5, g, (28, x3.2), []) 2)), c.2.2.1, false, false, c.2.2.2.2.2)))) (.leaf none)) (.leaf none))
theorem ZGQ (a : HL Zp) : Zh (envX Tryz.prog (ZaG 28) [] 1023 8) Tryz.f111 Zp Z2 a = ZsN a.1 a.2.1 a.2.2.1 a.2.2.2 := by kernel_rfl
def ZsJ (c : TC) (s : Int) (g : List Int) (ln : QT0) : RT (Option TC) :=
 let x1 : QT1 := (c, s == 5, g, (0, 0, 0, 0, 0, 0, 0, 0), [])
 let x2 := qAtC x1 0
 let x3 := Za c.1 (qAt x1 0)
 let x4 := !x2 || x3.1 == 32
 let x5 : QT1 := (c, s == 5, g, (32, x3.2), [])
 .br (Ze s) (.leaf (some ((c.1, (rgx c.2.1 c.2.1.2.2.2.2.2.2.2.1 (u16.wrap ((spOf c) - 2)) (Zi s)), c.2.2)))) (.br (!x4 || x2) (.br (x4) (.br (Zcq x5 1) (.leaf (some ((c.1, Zs (rgx c.2.1 c.2.1.2.2.2.2.2.2.2.1 (spOf c) (ZD x5)) 2 (ZfI x5 1), c.2.2.1, false, false, c.2.2.2.2.2)))) (.leaf none)) (.leaf none)) (.leaf none))
theorem ZGM (a : HL Zp) : Zh (envX Tryz.prog (ZaG 32) [] 1023 8) Tryz.f111 Zp Z2 a = ZsJ a.1 a.2.1 a.2.2.1 a.2.2.2 := by kernel_rfl
def ZsF (c : TC) (s : Int) (g : List Int) (ln : QT0) : RT (Option TC) :=
 let x1 : QT1 := (c, s == 5, g, (0, 0, 0, 0, 0, 0, 0, 0), [])
 let x2 := qAtC x1 0
 let x3 := Za c.1 (qAt x1 0)
 let x4 := !x2 || x3.1 == 36
 .br (Ze s) (.leaf (some ((c.1, (rgx c.2.1 c.2.1.2.2.2.2.2.2.2.1 (u16.wrap ((spOf c) - 2)) (Zi s)), c.2.2)))) (.br (!x4 || x2) (.br (x4) (.leaf (some ((c.1, (rgx c.2.1 c.2.1.2.2.2.2.2.2.2.1 (spOf c) (ZD (c, s == 5, g, (36, x3.2), []))), false, false, false, c.2.2.2.2.2)))) (.leaf none)) (.leaf none))
theorem ZGI (a : HL Zp) : Zh (envX Tryz.prog (ZaG 36) [] 1023 8) Tryz.f111 Zp Z2 a = ZsF a.1 a.2.1 a.2.2.1 a.2.2.2 := by kernel_rfl
def ZsB (c : TC) (s : Int) (g : List Int) (ln : QT0) : RT (Option TC) :=
 let x1 : QT1 := (c, s == 5, g, (0, 0, 0, 0, 0, 0, 0, 0), [])
 let x2 := qAtC x1 0
 let x3 := Za c.1 (qAt x1 0)
 let x4 := !x2 || x3.1 == 40
 let x5 : QT1 := (c, s == 5, g, (40, x3.2), [])
 let x6 := Zvm (ZdG x5 2) (ZdG x5 0)
 .br (Ze s) (.leaf (some ((c.1, (rgx c.2.1 c.2.1.2.2.2.2.2.2.2.1 (u16.wrap ((spOf c) - 2)) (Zi s)), c.2.2)))) (.br (!x4 || x2) (.br (x4) (.leaf (some ((c.1, Zs (rgx c.2.1 x6.2 (spOf c) (ZD x5)) 2 x6.1, c.2.2.1, false, false, c.2.2.2.2.2)))) (.leaf none)) (.leaf none))
theorem ZGE (a : HL Zp) : Zh (envX Tryz.prog (ZaG 40) [] 1023 8) Tryz.f111 Zp Z2 a = ZsB a.1 a.2.1 a.2.2.1 a.2.2.2 := by kernel_rfl
def Zsx (c : TC) (s : Int) (g : List Int) (ln : QT0) : RT (Option TC) :=
 let x1 : QT1 := (c, s == 5, g, (0, 0, 0, 0, 0, 0, 0, 0), [])
 let x2 := qAtC x1 0
 let x3 := Za c.1 (qAt x1 0)
 let x4 := !x2 || x3.1 == 44
 let x5 : QT1 := (c, s == 5, g, (44, x3.2), [])
 .br (Ze s) (.leaf (some ((c.1, (rgx c.2.1 c.2.1.2.2.2.2.2.2.2.1 (u16.wrap ((spOf c) - 2)) (Zi s)), c.2.2)))) (.br (!x4 || x2) (.br (x4) (.br (qAtC x5 1) (.leaf (some ((c.1, Zs (rgx c.2.1 c.2.1.2.2.2.2.2.2.2.1 (spOf c) (ZD x5)) 1 (u16.wrap ((spOf c) + u16.wrap (qAt x5 1))), c.2.2.1, false, false, c.2.2.2.2.2)))) (.leaf none)) (.leaf none)) (.leaf none))
theorem ZGA (a : HL Zp) : Zh (envX Tryz.prog (ZaG 44) [] 1023 8) Tryz.f111 Zp Z2 a = Zsx a.1 a.2.1 a.2.2.1 a.2.2.2 := by kernel_rfl
def Zy3 (c : TC) (s : Int) (g : List Int) (ln : QT0) : RT (Option TC) :=
 let x1 := Za c.1 (mAt (c, s == 5, g, []) 0)
 .br (Zb s) (.leaf (some ((c.1, (rgx c.2.1 c.2.1.2.2.2.2.2.2.2.1 (u16.wrap ((spOf c) - 2)) (Zi s)), c.2.2)))) (.br (!mAtC (c, s == 5, g, []) 0 || x1.1 == 1) (.br (mAtC (c, s == 5, g, []) 0) (.leaf (some ((c.1, (rgx c.2.1 c.2.1.2.2.2.2.2.2.2.1 (spOf c) (ZA (c, s == 5, g, []) x1.2.1)), c.2.2.1, false, false, c.2.2.2.2.2)))) (.leaf none)) (.leaf none))
theorem ZKs (a : HL Zo) : Zh (envX Tryz.prog (ZaF 1) [] 79250227772808467515411824639 8) Tryz.f98 Zo Z0 a = Zy3 a.1 a.2.1 a.2.2.1 a.2.2.2 := by kernel_rfl
def ZyZ (c : TC) (s : Int) (g : List Int) (ln : QT0) : RT (Option TC) :=
 let x1 := Za c.1 (mAt (c, s == 5, g, []) 0)
 .br (Zb s) (.leaf (some ((c.1, (rgx c.2.1 c.2.1.2.2.2.2.2.2.2.1 (u16.wrap ((spOf c) - 2)) (Zi s)), c.2.2)))) (.br (!mAtC (c, s == 5, g, []) 0 || x1.1 == 5) (.br (mAtC (c, s == 5, g, []) 0) (.br (mAtC (c, s == 5, g, []) 3) (.leaf (some ((c.1, (mAt (c, s == 5, g, []) 3, c.2.1.2.1, c.2.1.2.2.1, c.2.1.2.2.2.1, c.2.1.2.2.2.2.1, c.2.1.2.2.2.2.2.1, c.2.1.2.2.2.2.2.2.1, c.2.1.2.2.2.2.2.2.2.1, spOf c, ZA (c, s == 5, g, []) x1.2.1), c.2.2.1, false, false, c.2.2.2.2.2)))) (.leaf none)) (.leaf none)) (.leaf none))
theorem ZKo (a : HL Zo) : Zh (envX Tryz.prog (ZaF 5) [] 79250227772808467515411824639 8) Tryz.f98 Zo Z0 a = ZyZ a.1 a.2.1 a.2.2.1 a.2.2.2 := by kernel_rfl
def ZyV (c : TC) (s : Int) (g : List Int) (ln : QT0) : RT (Option TC) :=
 let x1 := Za c.1 (mAt (c, s == 5, g, []) 0)
 .br (Zb s) (.leaf (some ((c.1, (rgx c.2.1 c.2.1.2.2.2.2.2.2.2.1 (u16.wrap ((spOf c) - 2)) (Zi s)), c.2.2)))) (.br (!mAtC (c, s == 5, g, []) 0 || x1.1 == 9) (.br (mAtC (c, s == 5, g, []) 0) (.br (mAtC (c, s == 5, g, []) 1) (.leaf (some ((c.1, (mAt (c, s == 5, g, []) 1, c.2.1.2.1, c.2.1.2.2.1, c.2.1.2.2.2.1, c.2.1.2.2.2.2.1, c.2.1.2.2.2.2.2.1, c.2.1.2.2.2.2.2.2.1, c.2.1.2.2.2.2.2.2.2.1, spOf c, ZA (c, s == 5, g, []) x1.2.1), c.2.2.1, false, false, c.2.2.2.2.2)))) (.leaf none)) (.leaf none)) (.leaf none))
theorem ZKk (a : HL Zo) : Zh (envX Tryz.prog (ZaF 9) [] 79250227772808467515411824639 8) Tryz.f98 Zo Z0 a = ZyV a.1 a.2.1 a.2.2.1 a.2.2.2 := by kernel_rfl
def Zrx (c : TC) (s : Int) (g : List Int) (ln : QT0) : RT (Option TC) :=
 let x1 := Za c.1 (mAt (c, s == 5, g, []) 0)
 let x2 := x1.2
 let x3 := rDo c.1 x2.2.2.2.2.1 c.2.1.1 (mAt (c, s == 5, g, []) 1) c.2.1.2.2.2.2.2.2.2.1
 .br (Zb s) (.leaf (some ((c.1, (rgx c.2.1 c.2.1.2.2.2.2.2.2.2.1 (u16.wrap ((spOf c) - 2)) (Zi s)), c.2.2)))) (.br (!mAtC (c, s == 5, g, []) 0 || x1.1 == 13) (.br (mAtC (c, s == 5, g, []) 0) (.br (mAtC (c, s == 5, g, []) 1) (.leaf (some ((c.1, (x3.1, c.2.1.2.1, c.2.1.2.2.1, c.2.1.2.2.2.1, c.2.1.2.2.2.2.1, c.2.1.2.2.2.2.2.1, c.2.1.2.2.2.2.2.2.1, x3.2, spOf c, ZA (c, s == 5, g, []) x2.1), c.2.2.1, false, false, c.2.2.2.2.2)))) (.leaf none)) (.leaf none)) (.leaf none))
theorem ZF0 (a : HL Zo) : Zh (envX Tryz.prog (ZaF 13) [] 79250227772808467515411824639 8) Tryz.f98 Zo Z0 a = Zrx a.1 a.2.1 a.2.2.1 a.2.2.2 := by kernel_rfl
def Zrt (c : TC) (s : Int) (g : List Int) (ln : QT0) : RT (Option TC) :=
 let x1 := Za c.1 (mAt (c, s == 5, g, []) 0)
 let x2 := x1.2
 let x3 := x2.2.2.2.1
 let x4 := rDcx c.1 (Zai c.2.1 x3) c.2.1.2.2.2.2.2.2.2.1
 let x5 := Zs c.2.1 x3 x4.1
 let x6 := x5.2
 let x7 := x6.2
 let x8 := x7.2
 let x9 := x8.2
 let x10 := x9.2
 let x11 := x10.2
 .br (Zb s) (.leaf (some ((c.1, (rgx c.2.1 c.2.1.2.2.2.2.2.2.2.1 (u16.wrap ((spOf c) - 2)) (Zi s)), c.2.2)))) (.br (!mAtC (c, s == 5, g, []) 0 || x1.1 == 17) (.br (mAtC (c, s == 5, g, []) 0) (.leaf (some ((c.1, (x5.1, x6.1, x7.1, x8.1, x9.1, x10.1, x11.1, x4.2, x11.2.2.1, ZA (c, s == 5, g, []) x2.1), c.2.2.1, false, false, c.2.2.2.2.2)))) (.leaf none)) (.leaf none))
theorem ZFW (a : HL Zo) : Zh (envX Tryz.prog (ZaF 17) [] 79250227772808467515411824639 8) Tryz.f98 Zo Z0 a = Zrt a.1 a.2.1 a.2.2.1 a.2.2.2 := by kernel_rfl
def Zrp (c : TC) (s : Int) (g : List Int) (ln : QT0) : RT (Option TC) :=
 let x1 := Za c.1 (mAt (c, s == 5, g, []) 0)
 let x2 := c.2.1.2.2.2.2.2.2.2.1.2.2.2
 let x3 := x2.2
 .br (Zb s) (.leaf (some ((c.1, (rgx c.2.1 c.2.1.2.2.2.2.2.2.2.1 (u16.wrap ((spOf c) - 2)) (Zi s)), c.2.2)))) (.br (!mAtC (c, s == 5, g, []) 0 || x1.1 == 21) (.br (mAtC (c, s == 5, g, []) 0) (.leaf (some ((c.1, (rgx c.2.1 ((c.2.1.2.2.2.2.2.2.2.1.1, c.2.1.2.2.2.2.2.2.2.1.2.1, c.2.1.2.2.2.2.2.2.2.1.2.2.1, x2.1, x3.1, x3.2.1, true)) (spOf c) (ZA (c, s == 5, g, []) x1.2.1)), c.2.2.1, false, false, c.2.2.2.2.2)))) (.leaf none)) (.leaf none))
theorem ZFS (a : HL Zo) : Zh (envX Tryz.prog (ZaF 21) [] 79250227772808467515411824639 8) Tryz.f98 Zo Z0 a = Zrp a.1 a.2.1 a.2.2.1 a.2.2.2 := by kernel_rfl
def Zrl (c : TC) (s : Int) (g : List Int) (ln : QT0) : RT (Option TC) :=
 let x1 := u16.wrap ((spOf c) - 2)
 let x2 := Za c.1 (mAt (c, s == 5, g, []) 0)
 let x3 := x2.2
 let x4 := !Zd6 (c, s == 5, g, []) (25, x3)
 let x5 := c.2.1.2.2.2.2.2.2.2.1.2.2.1
 let x6 := c.2.1.2.2.2.2.2.2.2.1.2.2.2
 let x7 := x6.1
 let x8 := x6.2
 let x9 := x8.1
 let x10 := x8.2
 let x11 := x10.1
 let x12 := x10.2
 .br (Zb s) (.leaf (some ((c.1, (rgx c.2.1 c.2.1.2.2.2.2.2.2.2.1 x1 (Zi s)), c.2.2)))) (.br (!mAtC (c, s == 5, g, []) 0 || x2.1 == 25) (.br (mAtC (c, s == 5, g, []) 0) (.br (x4 || ZbX (c, s == 5, g, []) 1) (.leaf (some ((bif x4 then c.1 else c.1, (bif x4 then c.2.1.1 else c.2.1.1, bif x4 then c.2.1.2.1 else c.2.1.2.1, bif x4 then c.2.1.2.2.1 else c.2.1.2.2.1, bif x4 then c.2.1.2.2.2.1 else c.2.1.2.2.2.1, bif x4 then c.2.1.2.2.2.2.1 else c.2.1.2.2.2.2.1, bif x4 then c.2.1.2.2.2.2.2.1 else c.2.1.2.2.2.2.2.1, bif x4 then c.2.1.2.2.2.2.2.2.1 else c.2.1.2.2.2.2.2.2.1, (bif x4 then c.2.1.2.2.2.2.2.2.2.1.1 else c.2.1.2.2.2.2.2.2.2.1.1, bif x4 then c.2.1.2.2.2.2.2.2.2.1.2.1 else c.2.1.2.2.2.2.2.2.2.1.2.1, bif x4 then x5 else x5, bif x4 then x7 else x7, bif x4 then x9 else x9, bif x4 then x11 else x11, bif x4 then x12 else x12), bif x4 then (spOf c) else x1, bif x4 then ZA (c, s == 5, g, []) x3.1 else Zei (c, s == 5, g, []) 1), bif x4 then c.2.2.1 else c.2.2.1, false, false, bif x4 then c.2.2.2.2.2.1 else c.2.2.2.2.2.1, bif x4 then c.2.2.2.2.2.2.1 else c.2.2.2.2.2.2.1, bif x4 then c.2.2.2.2.2.2.2.1 else c.2.2.2.2.2.2.2.1, bif x4 then c.2.2.2.2.2.2.2.2.1 else c.2.2.2.2.2.2.2.2.1, bif x4 then c.2.2.2.2.2.2.2.2.2.1 else c.2.2.2.2.2.2.2.2.2.1, bif x4 then c.2.2.2.2.2.2.2.2.2.2.1 else c.2.2.2.2.2.2.2.2.2.2.1, bif x4 then c.2.2.2.2.2.2.2.2.2.2.2.1 else c.2.2.2.2.2.2.2.2.2.2.2.1, bif x4 then c.2.2.2.2.2.2.2.2.2.2.2.2 else c.2.2.2.2.2.2.2.2.2.2.2.2)))) (.leaf none)) (.leaf none)) (.leaf none))
theorem ZFO (a : HL Zo) : Zh (envX Tryz.prog (ZaF 25) [] 79250227772808467515411824639 8) Tryz.f98 Zo Z0 a = Zrl a.1 a.2.1 a.2.2.1 a.2.2.2 := by kernel_rfl
def Zrh (c : TC) (s : Int) (g : List Int) (ln : QT0) : RT (Option TC) :=
 let x1 := Za c.1 (mAt (c, s == 5, g, []) 0)
 .br (Zb s) (.leaf (some ((c.1, (rgx c.2.1 c.2.1.2.2.2.2.2.2.2.1 (u16.wrap ((spOf c) - 2)) (Zi s)), c.2.2)))) (.br (!mAtC (c, s == 5, g, []) 0 || x1.1 == 29) (.br (mAtC (c, s == 5, g, []) 0) (.leaf (some ((c.1, (rgx c.2.1 c.2.1.2.2.2.2.2.2.2.1 (Zai c.2.1 2) (ZA (c, s == 5, g, []) x1.2.1)), c.2.2.1, false, false, c.2.2.2.2.2)))) (.leaf none)) (.leaf none))
theorem ZFK (a : HL Zo) : Zh (envX Tryz.prog (ZaF 29) [] 79250227772808467515411824639 8) Tryz.f98 Zo Z0 a = Zrh a.1 a.2.1 a.2.2.1 a.2.2.2 := by kernel_rfl
def Zrd (c : TC) (s : Int) (g : List Int) (ln : QT0) : RT (Option TC) :=
 let x1 := Za c.1 (mAt (c, s == 5, g, []) 0)
 .br (Zb s) (.leaf (some ((c.1, (rgx c.2.1 c.2.1.2.2.2.2.2.2.2.1 (u16.wrap ((spOf c) - 2)) (Zi s)), c.2.2)))) (.br (!mAtC (c, s == 5, g, []) 0 || x1.1 == 33) (.br (mAtC (c, s == 5, g, []) 0) (.br (mAtC (c, s == 5, g, []) 2) (.leaf (some ((c.1, (mAt (c, s == 5, g, []) 2, c.2.1.2.1, c.2.1.2.2.1, c.2.1.2.2.2.1, c.2.1.2.2.2.2.1, c.2.1.2.2.2.2.2.1, c.2.1.2.2.2.2.2.2.1, c.2.1.2.2.2.2.2.2.2.1, spOf c, ZA (c, s == 5, g, []) x1.2.1), c.2.2.1, false, false, c.2.2.2.2.2)))) (.leaf none)) (.leaf none)) (.leaf none))
theorem ZFG (a : HL Zo) : Zh (envX Tryz.prog (ZaF 33) [] 79250227772808467515411824639 8) Tryz.f98 Zo Z0 a = Zrd a.1 a.2.1 a.2.2.1 a.2.2.2 := by kernel_rfl
def Zq9 (c : TC) (s : Int) (g : List Int) (ln : QT0) : RT (Option TC) :=
 let x1 := Za c.1 (mAt (c, s == 5, g, []) 0)
 .br (Zb s) (.leaf (some ((c.1, (rgx c.2.1 c.2.1.2.2.2.2.2.2.2.1 (u16.wrap ((spOf c) - 2)) (Zi s)), c.2.2)))) (.br (!mAtC (c, s == 5, g, []) 0 || x1.1 == 37) (.br (mAtC (c, s == 5, g, []) 0) (.leaf (some ((c.1, (rgx c.2.1 c.2.1.2.2.2.2.2.2.2.1 (spOf c) (ZA (c, s == 5, g, []) x1.2.1)), c.2.2.1, false, true, c.2.2.2.2.2)))) (.leaf none)) (.leaf none))
theorem ZFC (a : HL Zo) : Zh (envX Tryz.prog (ZaF 37) [] 79250227772808467515411824639 8) Tryz.f98 Zo Z0 a = Zq9 a.1 a.2.1 a.2.2.1 a.2.2.2 := by kernel_rfl
def Zq5 (c : TC) (s : Int) (g : List Int) (ln : QT0) : RT (Option TC) :=
 let x1 := Za c.1 (mAt (c, s == 5, g, []) 0)
 let x2 : Int × Int × Int × Int × Int × TF × Int × Int := (Zs c.2.1 2 (ZrG (Zai c.2.1 2)).1).2.2
 let x3 := x2.2
 let x4 := x3.2
 let x5 := x4.2
 let x6 := x5.2
 let x7 := x6.2
 let x8 := x7.1
 let x9 := x8.2
 let x10 := x9.2
 let x11 := x10.2
 let x12 := x11.2
 .br (Zb s) (.leaf (some ((c.1, (rgx c.2.1 c.2.1.2.2.2.2.2.2.2.1 (u16.wrap ((spOf c) - 2)) (Zi s)), c.2.2)))) (.br (!mAtC (c, s == 5, g, []) 0 || x1.1 == 41) (.br (mAtC (c, s == 5, g, []) 0) (.leaf (some ((c.1, ((Zs c.2.1 2 (ZrG (Zai c.2.1 2)).1).1, (Zs c.2.1 2 (ZrG (Zai c.2.1 2)).1).2.1, x2.1, x3.1, x4.1, x5.1, x6.1, (x8.1, x9.1, x10.1, x11.1, x12.1, x12.2.1, (ZrG (Zai c.2.1 2)).2), x7.2.1, ZA (c, s == 5, g, []) x1.2.1), c.2.2.1, false, false, c.2.2.2.2.2)))) (.leaf none)) (.leaf none))
theorem ZFy (a : HL Zo) : Zh (envX Tryz.prog (ZaF 41) [] 79250227772808467515411824639 8) Tryz.f98 Zo Z0 a = Zq5 a.1 a.2.1 a.2.2.1 a.2.2.2 := by kernel_rfl
def Zq1 (c : TC) (s : Int) (g : List Int) (ln : QT0) : RT (Option TC) :=
 let x1 := u16.wrap ((spOf c) - 2)
 let x2 := Za c.1 (mAt (c, s == 5, g, []) 0)
 let x3 := x2.2
 let x4 := !Zd6 (c, s == 5, g, []) (45, x3)
 let x5 := c.2.1.2.2.2.2.2.2.2.1.2.2.1
 let x6 := c.2.1.2.2.2.2.2.2.2.1.2.2.2
 let x7 := x6.1
 let x8 := x6.2
 let x9 := x8.1
 let x10 := x8.2
 let x11 := x10.1
 let x12 := x10.2
 .br (Zb s) (.leaf (some ((c.1, (rgx c.2.1 c.2.1.2.2.2.2.2.2.2.1 x1 (Zi s)), c.2.2)))) (.br (!mAtC (c, s == 5, g, []) 0 || x2.1 == 45) (.br (mAtC (c, s == 5, g, []) 0) (.leaf (some ((bif x4 then c.1 else c.1, (bif x4 then c.2.1.1 else c.2.1.1, bif x4 then c.2.1.2.1 else c.2.1.2.1, bif x4 then c.2.1.2.2.1 else c.2.1.2.2.1, bif x4 then c.2.1.2.2.2.1 else c.2.1.2.2.2.1, bif x4 then c.2.1.2.2.2.2.1 else c.2.1.2.2.2.2.1, bif x4 then c.2.1.2.2.2.2.2.1 else c.2.1.2.2.2.2.2.1, bif x4 then c.2.1.2.2.2.2.2.2.1 else c.2.1.2.2.2.2.2.2.1, (bif x4 then c.2.1.2.2.2.2.2.2.2.1.1 else c.2.1.2.2.2.2.2.2.2.1.1, bif x4 then c.2.1.2.2.2.2.2.2.2.1.2.1 else c.2.1.2.2.2.2.2.2.2.1.2.1, bif x4 then x5 else x5, bif x4 then x7 else x7, bif x4 then x9 else x9, bif x4 then x11 else x11, bif x4 then x12 else x12), bif x4 then (spOf c) else x1, bif x4 then ZA (c, s == 5, g, []) x3.1 else 64), bif x4 then c.2.2.1 else c.2.2.1, false, false, bif x4 then c.2.2.2.2.2.1 else c.2.2.2.2.2.1, bif x4 then c.2.2.2.2.2.2.1 else c.2.2.2.2.2.2.1, bif x4 then c.2.2.2.2.2.2.2.1 else c.2.2.2.2.2.2.2.1, bif x4 then c.2.2.2.2.2.2.2.2.1 else c.2.2.2.2.2.2.2.2.1, bif x4 then c.2.2.2.2.2.2.2.2.2.1 else c.2.2.2.2.2.2.2.2.2.1, bif x4 then c.2.2.2.2.2.2.2.2.2.2.1 else c.2.2.2.2.2.2.2.2.2.2.1, bif x4 then c.2.2.2.2.2.2.2.2.2.2.2.1 else c.2.2.2.2.2.2.2.2.2.2.2.1, bif x4 then c.2.2.2.2.2.2.2.2.2.2.2.2 else c.2.2.2.2.2.2.2.2.2.2.2.2)))) (.leaf none)) (.leaf none))
theorem ZFu (a : HL Zo) : Zh (envX Tryz.prog (ZaF 45) [] 79250227772808467515411824639 8) Tryz.f98 Zo Z0 a = Zq1 a.1 a.2.1 a.2.2.1 a.2.2.2 := by kernel_rfl
end
end Go.Proofs.YtghoimllhpjkjaaGreat
