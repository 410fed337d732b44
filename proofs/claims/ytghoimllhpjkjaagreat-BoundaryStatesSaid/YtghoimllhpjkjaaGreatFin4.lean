/-
  Contracts of functions; each found by the symbolic executor and checked by the kernel. Conditions: none.
-/
import Derived.Test.YtghoimllhpjkjaaGreatS3D
import Derived.Test.YtghoimllhpjkjaaGreatProg
import Derived.Test.YtghoimllhpjkjaaGreatFin0
open Go.IntKind (u8 u16 i64)
set_option linter.unusedSimpArgs false
open Go Go.S3 Go.Proofs
set_option linter.unusedVariables false
set_option maxRecDepth 100000
namespace Go.Proofs.YtghoimllhpjkjaaGreat
noncomputable section
def Zwl (c : TC) (s : Int) (g : List Int) (ln : QT0) : RT (Option TC) :=
 let x1 : QT1 := (c, s == 5, g, (0, 0, 0, 0, 0, 0, 0, 0), [])
 let x2 := qAtC x1 0
 let x3 := Za c.1 (qAt x1 0)
 let x4 := !x2 || x3.1 == 1
 .br (Zd s) (.leaf (some ((c.1, (rgx c.2.1 c.2.1.2.2.2.2.2.2.2.1 (u16.wrap ((spOf c) - 2)) (Zh s)), c.2.2)))) (.br (!x4 || x2) (.br (x4) (.leaf (some ((c.1, (rgx c.2.1 c.2.1.2.2.2.2.2.2.2.1 (spOf c) (ZC (c, s == 5, g, (1, x3.2), []))), c.2.2.1, false, false, c.2.2.2.2.2)))) (.leaf none)) (.leaf none))
theorem ZFu (a : HL Zn) : Zg (envX Tryz.prog (Zav 1) [] 1023 8) Tryz.f111 Zn ZX a = Zwl a.1 a.2.1 a.2.2.1 a.2.2.2 := by kernel_rfl
def Zwh (c : TC) (s : Int) (g : List Int) (ln : QT0) : RT (Option TC) :=
 let x1 : QT1 := (c, s == 5, g, (0, 0, 0, 0, 0, 0, 0, 0), [])
 let x2 := qAtC x1 0
 let x3 := Za c.1 (qAt x1 0)
 let x4 := !x2 || x3.1 == 5
 let x5 : QT1 := (c, s == 5, g, (5, x3.2), [])
 .br (Zd s) (.leaf (some ((c.1, (rgx c.2.1 c.2.1.2.2.2.2.2.2.2.1 (u16.wrap ((spOf c) - 2)) (Zh s)), c.2.2)))) (.br (!x4 || x2) (.br (x4) (.br (qAtC x5 3) (.leaf (some ((c.1, (qAt x5 3, c.2.1.2.1, c.2.1.2.2.1, c.2.1.2.2.2.1, c.2.1.2.2.2.2.1, c.2.1.2.2.2.2.2.1, c.2.1.2.2.2.2.2.2.1, c.2.1.2.2.2.2.2.2.2.1, spOf c, ZC x5), c.2.2.1, false, false, c.2.2.2.2.2)))) (.leaf none)) (.leaf none)) (.leaf none))
theorem ZFq (a : HL Zn) : Zg (envX Tryz.prog (Zav 5) [] 1023 8) Tryz.f111 Zn ZX a = Zwh a.1 a.2.1 a.2.2.1 a.2.2.2 := by kernel_rfl
def Zwd (c : TC) (s : Int) (g : List Int) (ln : QT0) : RT (Option TC) :=
 let x1 : QT1 := (c, s == 5, g, (0, 0, 0, 0, 0, 0, 0, 0), [])
 let x2 := qAtC x1 0
 let x3 := Za c.1 (qAt x1 0)
 let x4 := !x2 || x3.1 == 9
 let x5 : QT1 := (c, s == 5, g, (9, x3.2), [])
 .br (Zd s) (.leaf (some ((c.1, (rgx c.2.1 c.2.1.2.2.2.2.2.2.2.1 (u16.wrap ((spOf c) - 2)) (Zh s)), c.2.2)))) (.br (!x4 || x2) (.br (x4) (.br (qAtC x5 1) (.leaf (some ((c.1, (qAt x5 1, c.2.1.2.1, c.2.1.2.2.1, c.2.1.2.2.2.1, c.2.1.2.2.2.2.1, c.2.1.2.2.2.2.2.1, c.2.1.2.2.2.2.2.2.1, c.2.1.2.2.2.2.2.2.2.1, spOf c, ZC x5), c.2.2.1, false, false, c.2.2.2.2.2)))) (.leaf none)) (.leaf none)) (.leaf none))
theorem ZFm (a : HL Zn) : Zg (envX Tryz.prog (Zav 9) [] 1023 8) Tryz.f111 Zn ZX a = Zwd a.1 a.2.1 a.2.2.1 a.2.2.2 := by kernel_rfl
def Zqp (c : TC) (s : Int) (g : List Int) (ln : QT0) : RT (Option TC) :=
 let x1 : QT1 := (c, s == 5, g, (0, 0, 0, 0, 0, 0, 0, 0), [])
 let x2 := qAtC x1 0
 let x3 := Za c.1 (qAt x1 0)
 let x4 := !x2 || x3.1 == 13
 let x5 := x3.2
 let x6 : QT1 := (c, s == 5, g, (13, x5), [])
 let x7 := rDo c.1 x5.2.2.2.2.1 c.2.1.1 (ZgB x6) c.2.1.2.2.2.2.2.2.2.1
 .br (Zd s) (.leaf (some ((c.1, (rgx c.2.1 c.2.1.2.2.2.2.2.2.2.1 (u16.wrap ((spOf c) - 2)) (Zh s)), c.2.2)))) (.br (!x4 || x2) (.br (x4) (.br (ZeV x6) (.leaf (some ((c.1, (x7.1, c.2.1.2.1, c.2.1.2.2.1, c.2.1.2.2.2.1, c.2.1.2.2.2.2.1, c.2.1.2.2.2.2.2.1, c.2.1.2.2.2.2.2.2.1, x7.2, spOf c, ZC x6), c.2.2.1, false, false, c.2.2.2.2.2)))) (.leaf none)) (.leaf none)) (.leaf none))
theorem ZBC (a : HL Zn) : Zg (envX Tryz.prog (Zav 13) [] 1023 8) Tryz.f111 Zn ZX a = Zqp a.1 a.2.1 a.2.2.1 a.2.2.2 := by kernel_rfl
def Zql (c : TC) (s : Int) (g : List Int) (ln : QT0) : RT (Option TC) :=
 let x1 : QT1 := (c, s == 5, g, (0, 0, 0, 0, 0, 0, 0, 0), [])
 let x2 := qAtC x1 0
 let x3 := Za c.1 (qAt x1 0)
 let x4 := !x2 || x3.1 == 17
 let x5 := x3.2
 let x6 : QT1 := (c, s == 5, g, (17, x5), [])
 let x7 := x5.2.2.2.1
 let x8 := rDcx c.1 (Zdb x6 x7) c.2.1.2.2.2.2.2.2.2.1
 .br (Zd s) (.leaf (some ((c.1, (rgx c.2.1 c.2.1.2.2.2.2.2.2.2.1 (u16.wrap ((spOf c) - 2)) (Zh s)), c.2.2)))) (.br (!x4 || x2) (.br (x4) (.leaf (some ((c.1, Zp (rgx c.2.1 x8.2 (spOf c) (ZC x6)) x7 x8.1, c.2.2.1, false, false, c.2.2.2.2.2)))) (.leaf none)) (.leaf none))
theorem ZBy (a : HL Zn) : Zg (envX Tryz.prog (Zav 17) [] 1023 8) Tryz.f111 Zn ZX a = Zql a.1 a.2.1 a.2.2.1 a.2.2.2 := by kernel_rfl
def Zqh (c : TC) (s : Int) (g : List Int) (ln : QT0) : RT (Option TC) :=
 let x1 : QT1 := (c, s == 5, g, (0, 0, 0, 0, 0, 0, 0, 0), [])
 let x2 := qAtC x1 0
 let x3 := Za c.1 (qAt x1 0)
 let x4 := !x2 || x3.1 == 21
 let x5 := c.2.1.2.2.2.2.2.2.2.1.2.2.2
 let x6 := x5.2
 .br (Zd s) (.leaf (some ((c.1, (rgx c.2.1 c.2.1.2.2.2.2.2.2.2.1 (u16.wrap ((spOf c) - 2)) (Zh s)), c.2.2)))) (.br (!x4 || x2) (.br (x4) (.leaf (some ((c.1, (rgx c.2.1 ((c.2.1.2.2.2.2.2.2.2.1.1, c.2.1.2.2.2.2.2.2.2.1.2.1, c.2.1.2.2.2.2.2.2.2.1.2.2.1, x5.1, x6.1, x6.2.1, true)) (spOf c) (ZC (c, s == 5, g, (21, x3.2), []))), c.2.2.1, false, false, c.2.2.2.2.2)))) (.leaf none)) (.leaf none))
theorem ZBu (a : HL Zn) : Zg (envX Tryz.prog (Zav 21) [] 1023 8) Tryz.f111 Zn ZX a = Zqh a.1 a.2.1 a.2.2.1 a.2.2.2 := by kernel_rfl
def Zqd (c : TC) (s : Int) (g : List Int) (ln : QT0) : RT (Option TC) :=
 let x1 := u16.wrap ((spOf c) - 2)
 let x2 : QT1 := (c, s == 5, g, (0, 0, 0, 0, 0, 0, 0, 0), [])
 let x3 := qAtC x2 0
 let x4 := Za c.1 (qAt x2 0)
 let x5 := !x3 || x4.1 == 25
 let x6 : QT1 := (c, s == 5, g, (25, x4.2), [])
 let x7 := ZfI x6
 .br (Zd s) (.leaf (some ((c.1, (rgx c.2.1 c.2.1.2.2.2.2.2.2.2.1 x1 (Zh s)), c.2.2)))) (.br (!x5 || x3) (.br (x5) (.br (!x7 || Zb4 x6 1) (.leaf (some ((c.1, (rgx c.2.1 c.2.1.2.2.2.2.2.2.2.1 (bif x7 then x1 else (spOf c)) (bif x7 then ZeW x6 1 else ZC x6)), c.2.2.1, false, false, c.2.2.2.2.2)))) (.leaf none)) (.leaf none)) (.leaf none))
theorem ZBq (a : HL Zn) : Zg (envX Tryz.prog (Zav 25) [] 1023 8) Tryz.f111 Zn ZX a = Zqd a.1 a.2.1 a.2.2.1 a.2.2.2 := by kernel_rfl
def Zp9 (c : TC) (s : Int) (g : List Int) (ln : QT0) : RT (Option TC) :=
 let x1 : QT1 := (c, s == 5, g, (0, 0, 0, 0, 0, 0, 0, 0), [])
 let x2 := qAtC x1 0
 let x3 := Za c.1 (qAt x1 0)
 let x4 := !x2 || x3.1 == 29
 let x5 : QT1 := (c, s == 5, g, (29, x3.2), [])
 .br (Zd s) (.leaf (some ((c.1, (rgx c.2.1 c.2.1.2.2.2.2.2.2.2.1 (u16.wrap ((spOf c) - 2)) (Zh s)), c.2.2)))) (.br (!x4 || x2) (.br (x4) (.leaf (some ((c.1, (rgx c.2.1 c.2.1.2.2.2.2.2.2.2.1 (Zdb x5 2) (ZC x5)), c.2.2.1, false, false, c.2.2.2.2.2)))) (.leaf none)) (.leaf none))
theorem ZBm (a : HL Zn) : Zg (envX Tryz.prog (Zav 29) [] 1023 8) Tryz.f111 Zn ZX a = Zp9 a.1 a.2.1 a.2.2.1 a.2.2.2 := by kernel_rfl
def Zp5 (c : TC) (s : Int) (g : List Int) (ln : QT0) : RT (Option TC) :=
 let x1 : QT1 := (c, s == 5, g, (0, 0, 0, 0, 0, 0, 0, 0), [])
 let x2 := qAtC x1 0
 let x3 := Za c.1 (qAt x1 0)
 let x4 := !x2 || x3.1 == 33
 let x5 : QT1 := (c, s == 5, g, (33, x3.2), [])
 .br (Zd s) (.leaf (some ((c.1, (rgx c.2.1 c.2.1.2.2.2.2.2.2.2.1 (u16.wrap ((spOf c) - 2)) (Zh s)), c.2.2)))) (.br (!x4 || x2) (.br (x4) (.br (qAtC x5 2) (.leaf (some ((c.1, (qAt x5 2, c.2.1.2.1, c.2.1.2.2.1, c.2.1.2.2.2.1, c.2.1.2.2.2.2.1, c.2.1.2.2.2.2.2.1, c.2.1.2.2.2.2.2.2.1, c.2.1.2.2.2.2.2.2.2.1, spOf c, ZC x5), c.2.2.1, false, false, c.2.2.2.2.2)))) (.leaf none)) (.leaf none)) (.leaf none))
theorem ZBi (a : HL Zn) : Zg (envX Tryz.prog (Zav 33) [] 1023 8) Tryz.f111 Zn ZX a = Zp5 a.1 a.2.1 a.2.2.1 a.2.2.2 := by kernel_rfl
def Zp1 (c : TC) (s : Int) (g : List Int) (ln : QT0) : RT (Option TC) :=
 let x1 : QT1 := (c, s == 5, g, (0, 0, 0, 0, 0, 0, 0, 0), [])
 let x2 := qAtC x1 0
 let x3 := Za c.1 (qAt x1 0)
 let x4 := !x2 || x3.1 == 37
 .br (Zd s) (.leaf (some ((c.1, (rgx c.2.1 c.2.1.2.2.2.2.2.2.2.1 (u16.wrap ((spOf c) - 2)) (Zh s)), c.2.2)))) (.br (!x4 || x2) (.br (x4) (.leaf (some ((c.1, (rgx c.2.1 c.2.1.2.2.2.2.2.2.2.1 (spOf c) (ZC (c, s == 5, g, (37, x3.2), []))), c.2.2.1, false, true, c.2.2.2.2.2)))) (.leaf none)) (.leaf none))
theorem ZBe (a : HL Zn) : Zg (envX Tryz.prog (Zav 37) [] 1023 8) Tryz.f111 Zn ZX a = Zp1 a.1 a.2.1 a.2.2.1 a.2.2.2 := by kernel_rfl
def ZpX (c : TC) (s : Int) (g : List Int) (ln : QT0) : RT (Option TC) :=
 let x1 : QT1 := (c, s == 5, g, (0, 0, 0, 0, 0, 0, 0, 0), [])
 let x2 := qAtC x1 0
 let x3 := Za c.1 (qAt x1 0)
 let x4 := !x2 || x3.1 == 41
 let x5 := c.2.1.2.2.2.2.2.2.2.1.2.2.2
 let x6 := x5.2
 let x7 : QT1 := (c, s == 5, g, (41, x3.2), [])
 let x8 := Zpc (Zdb x7 2)
 .br (Zd s) (.leaf (some ((c.1, (rgx c.2.1 c.2.1.2.2.2.2.2.2.2.1 (u16.wrap ((spOf c) - 2)) (Zh s)), c.2.2)))) (.br (!x4 || x2) (.br (x4) (.leaf (some ((c.1, Zp (rgx c.2.1 ((c.2.1.2.2.2.2.2.2.2.1.1, c.2.1.2.2.2.2.2.2.2.1.2.1, c.2.1.2.2.2.2.2.2.2.1.2.2.1, x5.1, x6.1, x6.2.1, x8.2)) (spOf c) (ZC x7)) 2 x8.1, c.2.2.1, false, false, c.2.2.2.2.2)))) (.leaf none)) (.leaf none))
theorem ZBa (a : HL Zn) : Zg (envX Tryz.prog (Zav 41) [] 1023 8) Tryz.f111 Zn ZX a = ZpX a.1 a.2.1 a.2.2.1 a.2.2.2 := by kernel_rfl
def ZpT (c : TC) (s : Int) (g : List Int) (ln : QT0) : RT (Option TC) :=
 let x1 := u16.wrap ((spOf c) - 2)
 let x2 : QT1 := (c, s == 5, g, (0, 0, 0, 0, 0, 0, 0, 0), [])
 let x3 := qAtC x2 0
 let x4 := Za c.1 (qAt x2 0)
 let x5 := !x3 || x4.1 == 45
 let x6 : QT1 := (c, s == 5, g, (45, x4.2), [])
 let x7 := ZfI x6
 .br (Zd s) (.leaf (some ((c.1, (rgx c.2.1 c.2.1.2.2.2.2.2.2.2.1 x1 (Zh s)), c.2.2)))) (.br (!x5 || x3) (.br (x5) (.leaf (some ((c.1, (rgx c.2.1 c.2.1.2.2.2.2.2.2.2.1 (bif x7 then x1 else (spOf c)) (bif x7 then 64 else ZC x6)), c.2.2.1, false, false, c.2.2.2.2.2)))) (.leaf none)) (.leaf none))
theorem ZA6 (a : HL Zn) : Zg (envX Tryz.prog (Zav 45) [] 1023 8) Tryz.f111 Zn ZX a = ZpT a.1 a.2.1 a.2.2.1 a.2.2.2 := by kernel_rfl
def Zu1 (c : TC) (s : Int) (g : List Int) (ln : QT0) : RT (Option TC) :=
 let x1 := Za c.1 (mAt (c, s == 5, g, []) 0)
 let x2 := x1.2
 let x3 := x2.2
 let x4 := x3.2.1
 let x5 := x4 == 6
 let x6 := rSet c.2.1 x3.1 (bif x5 then mAt (c, s == 5, g, []) 1 else rGet c.2.1 x4)
 let x7 := x6.2
 let x8 := x7.2
 let x9 := x8.2
 let x10 := x9.2
 let x11 := x10.2
 let x12 := x11.2
 let x13 := x12.2
 .br (Zb s) (.leaf (some ((c.1, (rgx c.2.1 c.2.1.2.2.2.2.2.2.2.1 (u16.wrap ((spOf c) - 2)) (Zh s)), c.2.2)))) (.br (!mAtC (c, s == 5, g, []) 0 || x1.1 == 2) (.br (mAtC (c, s == 5, g, []) 0) (.br (!x5 || mAtC (c, s == 5, g, []) 1) (.leaf (some ((c.1, (x6.1, x7.1, x8.1, x9.1, x10.1, x11.1, x12.1, x13.1, x13.2.1, Zy (c, s == 5, g, []) x2.1), c.2.2.1, false, false, c.2.2.2.2.2)))) (.leaf none)) (.leaf none)) (.leaf none))
theorem ZDV (a : HL Zm) : Zg (envX Tryz.prog (Zau 2) [] 79250227772808467515411824639 8) Tryz.f98 Zm ZV a = Zu1 a.1 a.2.1 a.2.2.1 a.2.2.2 := by kernel_rfl
def ZuX (c : TC) (s : Int) (g : List Int) (ln : QT0) : RT (Option TC) :=
 let x1 := Za c.1 (mAt (c, s == 5, g, []) 0)
 .br (Zb s) (.leaf (some ((c.1, (rgx c.2.1 c.2.1.2.2.2.2.2.2.2.1 (u16.wrap ((spOf c) - 2)) (Zh s)), c.2.2)))) (.br (!mAtC (c, s == 5, g, []) 0 || x1.1 == 6) (.br (mAtC (c, s == 5, g, []) 0) (.leaf (some ((c.1, (rgx c.2.1 c.2.1.2.2.2.2.2.2.2.1 (spOf c) (Zy (c, s == 5, g, []) x1.2.1)), c.2.2.1, false, false, c.2.2.2.2.2)))) (.leaf none)) (.leaf none))
theorem ZDR (a : HL Zm) : Zg (envX Tryz.prog (Zau 6) [] 79250227772808467515411824639 8) Tryz.f98 Zm ZV a = ZuX a.1 a.2.1 a.2.2.1 a.2.2.2 := by kernel_rfl
def Zo9 (c : TC) (s : Int) (g : List Int) (ln : QT0) : RT (Option TC) :=
 let x1 := Za c.1 (mAt (c, s == 5, g, []) 0)
 .br (Zb s) (.leaf (some ((c.1, (rgx c.2.1 c.2.1.2.2.2.2.2.2.2.1 (u16.wrap ((spOf c) - 2)) (Zh s)), c.2.2)))) (.br (!mAtC (c, s == 5, g, []) 0 || x1.1 == 10) (.br (mAtC (c, s == 5, g, []) 0) (.leaf (some ((c.1, (rgx c.2.1 c.2.1.2.2.2.2.2.2.2.1 (spOf c) (Zy (c, s == 5, g, []) x1.2.1)), c.2.2.1, false, false, c.2.2.2.2.2)))) (.leaf none)) (.leaf none))
theorem ZAA (a : HL Zm) : Zg (envX Tryz.prog (Zau 10) [] 79250227772808467515411824639 8) Tryz.f98 Zm ZV a = Zo9 a.1 a.2.1 a.2.2.1 a.2.2.2 := by kernel_rfl
def Zo5 (c : TC) (s : Int) (g : List Int) (ln : QT0) : RT (Option TC) :=
 let x1 := Za c.1 (mAt (c, s == 5, g, []) 0)
 let x2 := x1.2
 let x3 := x2.2.1
 let x4 := x3 == 6
 let x5 := Zfp c (14, x2) (bif x4 then mAt (c, s == 5, g, []) 1 else rGet c.2.1 x3)
 let x6 := rSet c.2.1 x3 x5.1
 let x7 := x6.2
 let x8 := x7.2
 let x9 := x8.2
 let x10 := x9.2
 let x11 := x10.2
 let x12 := x11.2
 .br (Zb s) (.leaf (some ((c.1, (rgx c.2.1 c.2.1.2.2.2.2.2.2.2.1 (u16.wrap ((spOf c) - 2)) (Zh s)), c.2.2)))) (.br (!mAtC (c, s == 5, g, []) 0 || x1.1 == 14) (.br (mAtC (c, s == 5, g, []) 0) (.br (!x4 || mAtC (c, s == 5, g, []) 1) (.leaf (some ((c.1, (x6.1, x7.1, x8.1, x9.1, x10.1, x11.1, x12.1, x5.2, x12.2.2.1, Zy (c, s == 5, g, []) x2.1), c.2.2.1, false, false, c.2.2.2.2.2)))) (.leaf none)) (.leaf none)) (.leaf none))
theorem ZAw (a : HL Zm) : Zg (envX Tryz.prog (Zau 14) [] 79250227772808467515411824639 8) Tryz.f98 Zm ZV a = Zo5 a.1 a.2.1 a.2.2.1 a.2.2.2 := by kernel_rfl
def Zo1 (c : TC) (s : Int) (g : List Int) (ln : QT0) : RT (Option TC) :=
 let x1 := Za c.1 (mAt (c, s == 5, g, []) 0)
 let x2 := x1.2
 let x3 := rDad c.1 (Z7 c.2.1 2) (Z7 c.2.1 x2.2.2.2.1) c.2.1.2.2.2.2.2.2.2.1
 let x4 := Zp c.2.1 2 x3.1
 let x5 := x4.2
 let x6 := x5.2
 let x7 := x6.2
 let x8 := x7.2
 let x9 := x8.2
 let x10 := x9.2
 .br (Zb s) (.leaf (some ((c.1, (rgx c.2.1 c.2.1.2.2.2.2.2.2.2.1 (u16.wrap ((spOf c) - 2)) (Zh s)), c.2.2)))) (.br (!mAtC (c, s == 5, g, []) 0 || x1.1 == 18) (.br (mAtC (c, s == 5, g, []) 0) (.leaf (some ((c.1, (x4.1, x5.1, x6.1, x7.1, x8.1, x9.1, x10.1, x3.2, x10.2.2.1, Zy (c, s == 5, g, []) x2.1), c.2.2.1, false, false, c.2.2.2.2.2)))) (.leaf none)) (.leaf none))
theorem ZAs (a : HL Zm) : Zg (envX Tryz.prog (Zau 18) [] 79250227772808467515411824639 8) Tryz.f98 Zm ZV a = Zo1 a.1 a.2.1 a.2.2.1 a.2.2.2 := by kernel_rfl
def ZoX (c : TC) (s : Int) (g : List Int) (ln : QT0) : RT (Option TC) :=
 let x1 := Za c.1 (mAt (c, s == 5, g, []) 0)
 let x2 := c.2.1.2.2.2.2.2.2.2.1.2.2.2
 let x3 := x2.2
 let x4 := x3.2
 .br (Zb s) (.leaf (some ((c.1, (rgx c.2.1 c.2.1.2.2.2.2.2.2.2.1 (u16.wrap ((spOf c) - 2)) (Zh s)), c.2.2)))) (.br (!mAtC (c, s == 5, g, []) 0 || x1.1 == 22) (.br (mAtC (c, s == 5, g, []) 0) (.leaf (some ((c.1, (rgx c.2.1 ((c.2.1.2.2.2.2.2.2.2.1.1, c.2.1.2.2.2.2.2.2.2.1.2.1, c.2.1.2.2.2.2.2.2.2.1.2.2.1, x2.1, x3.1, x4.1, !x4.2)) (spOf c) (Zy (c, s == 5, g, []) x1.2.1)), c.2.2.1, false, false, c.2.2.2.2.2)))) (.leaf none)) (.leaf none))
theorem ZAo (a : HL Zm) : Zg (envX Tryz.prog (Zau 22) [] 79250227772808467515411824639 8) Tryz.f98 Zm ZV a = ZoX a.1 a.2.1 a.2.2.1 a.2.2.2 := by kernel_rfl
def ZoT (c : TC) (s : Int) (g : List Int) (ln : QT0) : RT (Option TC) :=
 let x1 := Za c.1 (mAt (c, s == 5, g, []) 0)
 let x2 := x1.2
 let x3 := !Zdx (c, s == 5, g, []) (26, x2)
 let x4 := c.2.1.2.2.2.2.2.2.2.1.2.2.1
 let x5 := c.2.1.2.2.2.2.2.2.2.1.2.2.2
 let x6 := x5.1
 let x7 := x5.2
 let x8 := x7.1
 let x9 := x7.2
 let x10 := x9.1
 let x11 := x9.2
 .br (Zb s) (.leaf (some ((c.1, (rgx c.2.1 c.2.1.2.2.2.2.2.2.2.1 (u16.wrap ((spOf c) - 2)) (Zh s)), c.2.2)))) (.br (!mAtC (c, s == 5, g, []) 0 || x1.1 == 26) (.br (mAtC (c, s == 5, g, []) 0) (.br (x3 || ZbD (c, s == 5, g, []) 1) (.leaf (some ((bif x3 then c.1 else c.1, (bif x3 then c.2.1.1 else c.2.1.1, bif x3 then c.2.1.2.1 else c.2.1.2.1, bif x3 then c.2.1.2.2.1 else c.2.1.2.2.1, bif x3 then c.2.1.2.2.2.1 else c.2.1.2.2.2.1, bif x3 then c.2.1.2.2.2.2.1 else c.2.1.2.2.2.2.1, bif x3 then c.2.1.2.2.2.2.2.1 else c.2.1.2.2.2.2.2.1, bif x3 then c.2.1.2.2.2.2.2.2.1 else c.2.1.2.2.2.2.2.2.1, (bif x3 then c.2.1.2.2.2.2.2.2.2.1.1 else c.2.1.2.2.2.2.2.2.2.1.1, bif x3 then c.2.1.2.2.2.2.2.2.2.1.2.1 else c.2.1.2.2.2.2.2.2.2.1.2.1, bif x3 then x4 else x4, bif x3 then x6 else x6, bif x3 then x8 else x8, bif x3 then x10 else x10, bif x3 then x11 else x11), bif x3 then (spOf c) else u16.wrap ((spOf c) + 2), bif x3 then Zy (c, s == 5, g, []) x2.1 else ZdD (c, s == 5, g, []) 1), bif x3 then c.2.2.1 else c.2.2.1, false, false, bif x3 then c.2.2.2.2.2.1 else c.2.2.2.2.2.1, bif x3 then c.2.2.2.2.2.2.1 else c.2.2.2.2.2.2.1, bif x3 then c.2.2.2.2.2.2.2.1 else c.2.2.2.2.2.2.2.1, bif x3 then c.2.2.2.2.2.2.2.2.1 else c.2.2.2.2.2.2.2.2.1, bif x3 then c.2.2.2.2.2.2.2.2.2.1 else c.2.2.2.2.2.2.2.2.2.1, bif x3 then c.2.2.2.2.2.2.2.2.2.2.1 else c.2.2.2.2.2.2.2.2.2.2.1, bif x3 then c.2.2.2.2.2.2.2.2.2.2.2.1 else c.2.2.2.2.2.2.2.2.2.2.2.1, bif x3 then c.2.2.2.2.2.2.2.2.2.2.2.2 else c.2.2.2.2.2.2.2.2.2.2.2.2)))) (.leaf none)) (.leaf none)) (.leaf none))
theorem ZAk (a : HL Zm) : Zg (envX Tryz.prog (Zau 26) [] 79250227772808467515411824639 8) Tryz.f98 Zm ZV a = ZoT a.1 a.2.1 a.2.2.1 a.2.2.2 := by kernel_rfl
def ZoP (c : TC) (s : Int) (g : List Int) (ln : QT0) : RT (Option TC) :=
 let x1 := u16.wrap ((spOf c) - 2)
 let x2 := Za c.1 (mAt (c, s == 5, g, []) 0)
 .br (Zb s) (.leaf (some ((c.1, (rgx c.2.1 c.2.1.2.2.2.2.2.2.2.1 x1 (Zh s)), c.2.2)))) (.br (!mAtC (c, s == 5, g, []) 0 || x2.1 == 30) (.br (mAtC (c, s == 5, g, []) 0) (.leaf (some ((c.1, (rgx c.2.1 c.2.1.2.2.2.2.2.2.2.1 x1 (Zy (c, s == 5, g, []) x2.2.1)), c.2.2.1, false, false, c.2.2.2.2.2)))) (.leaf none)) (.leaf none))
theorem ZAg (a : HL Zm) : Zg (envX Tryz.prog (Zau 30) [] 79250227772808467515411824639 8) Tryz.f98 Zm ZV a = ZoP a.1 a.2.1 a.2.2.1 a.2.2.2 := by kernel_rfl
def ZoL (c : TC) (s : Int) (g : List Int) (ln : QT0) : RT (Option TC) :=
 let x1 := Za c.1 (mAt (c, s == 5, g, []) 0)
 .br (Zb s) (.leaf (some ((c.1, (rgx c.2.1 c.2.1.2.2.2.2.2.2.2.1 (u16.wrap ((spOf c) - 2)) (Zh s)), c.2.2)))) (.br (!mAtC (c, s == 5, g, []) 0 || x1.1 == 34) (.br (mAtC (c, s == 5, g, []) 0) (.leaf (some ((c.1, (rgx c.2.1 c.2.1.2.2.2.2.2.2.2.1 (spOf c) (Zy (c, s == 5, g, []) x1.2.1)), c.2.2.1, false, false, c.2.2.2.2.2)))) (.leaf none)) (.leaf none))
theorem ZAc (a : HL Zm) : Zg (envX Tryz.prog (Zau 34) [] 79250227772808467515411824639 8) Tryz.f98 Zm ZV a = ZoL a.1 a.2.1 a.2.2.1 a.2.2.2 := by kernel_rfl
def ZoH (c : TC) (s : Int) (g : List Int) (ln : QT0) : RT (Option TC) :=
 let x1 := Za c.1 (mAt (c, s == 5, g, []) 0)
 let x2 := rRim (c.1, (rgx c.2.1 c.2.1.2.2.2.2.2.2.2.1 (spOf c) (Zy (c, s == 5, g, []) x1.2.1)), c.2.2) ln
 let x3 := x2.2
 let x4 := x3.2
 let x5 := x4.2
 let x6 := x5.2.2.2
 let x7 := x6.2
 let x8 := x7.2
 let x9 := x8.2
 let x10 := x9.2
 .br (Zb s) (.leaf (some ((c.1, (rgx c.2.1 c.2.1.2.2.2.2.2.2.2.1 (u16.wrap ((spOf c) - 2)) (Zh s)), c.2.2)))) (.br (!mAtC (c, s == 5, g, []) 0 || x1.1 == 38) (.br (mAtC (c, s == 5, g, []) 0) (.leaf (some ((x3.1, (x2.1, x4.1.2), x5.1, false, false, x6.1, x7.1, x8.1, x9.1, x10.1, false, false, x10.2.2.2)))) (.leaf none)) (.leaf none))
theorem Zz8 (a : HL Zm) : Zg (envX Tryz.prog (Zau 38) [] 79250227772808467515411824639 8) Tryz.f98 Zm ZV a = ZoH a.1 a.2.1 a.2.2.1 a.2.2.2 := by kernel_rfl
def ZoD (c : TC) (s : Int) (g : List Int) (ln : QT0) : RT (Option TC) :=
 let x1 := Za c.1 (mAt (c, s == 5, g, []) 0)
 let x2 := Zr1 (Z7 c.2.1 1) c.2.1.2.2.2.2.2.2.2.1.2.2.2.2.2.2
 let x3 := Zp c.2.1 1 x2.1
 let x4 := x3.2
 let x5 := x4.2
 let x6 := x5.2
 let x7 := x6.2
 let x8 := x7.2
 let x9 := x8.2
 let x10 := x9.2
 let x11 := x10.1
 let x12 := x11.2
 let x13 := x12.2
 let x14 := x13.2
 let x15 := x2.2
 .br (Zb s) (.leaf (some ((c.1, (rgx c.2.1 c.2.1.2.2.2.2.2.2.2.1 (u16.wrap ((spOf c) - 2)) (Zh s)), c.2.2)))) (.br (!mAtC (c, s == 5, g, []) 0 || x1.1 == 42) (.br (mAtC (c, s == 5, g, []) 0) (.leaf (some ((c.1, (x3.1, x4.1, x5.1, x6.1, x7.1, x8.1, x9.1, (x11.1, x12.1, x13.1, x14.1, x14.2.1, x15.2, x15.1), x10.2.1, Zy (c, s == 5, g, []) x1.2.1), c.2.2.1, false, false, c.2.2.2.2.2)))) (.leaf none)) (.leaf none))
theorem Zz4 (a : HL Zm) : Zg (envX Tryz.prog (Zau 42) [] 79250227772808467515411824639 8) Tryz.f98 Zm ZV a = ZoD a.1 a.2.1 a.2.2.1 a.2.2.2 := by kernel_rfl
def Zoz (c : TC) (s : Int) (g : List Int) (ln : QT0) : RT (Option TC) :=
 let x1 := Za c.1 (mAt (c, s == 5, g, []) 0)
 .br (Zb s) (.leaf (some ((c.1, (rgx c.2.1 c.2.1.2.2.2.2.2.2.2.1 (u16.wrap ((spOf c) - 2)) (Zh s)), c.2.2)))) (.br (!mAtC (c, s == 5, g, []) 0 || x1.1 == 46) (.br (mAtC (c, s == 5, g, []) 0) (.leaf (some ((c.1, (rgx c.2.1 c.2.1.2.2.2.2.2.2.2.1 (spOf c) (Zy (c, s == 5, g, []) x1.2.1)), c.2.2.1, false, false, c.2.2.2.2.2)))) (.leaf none)) (.leaf none))
theorem Zz0 (a : HL Zm) : Zg (envX Tryz.prog (Zau 46) [] 79250227772808467515411824639 8) Tryz.f98 Zm ZV a = Zoz a.1 a.2.1 a.2.2.1 a.2.2.2 := by kernel_rfl
def Zwk (c : TC) (s : Int) (g : List Int) (ln : QT0) : RT (Option TC) :=
 let x1 : QT1 := (c, s == 5, g, (0, 0, 0, 0, 0, 0, 0, 0), [])
 let x2 := qAtC x1 0
 let x3 := Za c.1 (qAt x1 0)
 let x4 := !x2 || x3.1 == 2
 let x5 := x3.2
 let x6 := x5.2
 let x7 := x6.2.1
 let x8 := x7 == 6
 let x9 : QT1 := (c, s == 5, g, (2, x5), [])
 .br (Zd s) (.leaf (some ((c.1, (rgx c.2.1 c.2.1.2.2.2.2.2.2.2.1 (u16.wrap ((spOf c) - 2)) (Zh s)), c.2.2)))) (.br (!x4 || x2) (.br (x4) (.br (!x8 || qAtC x9 1) (.leaf (some ((c.1, rSet (rgx c.2.1 c.2.1.2.2.2.2.2.2.2.1 (spOf c) (ZC x9)) x6.1 (bif x8 then qAt x9 1 else qReg x9 x7), c.2.2.1, false, false, c.2.2.2.2.2)))) (.leaf none)) (.leaf none)) (.leaf none))
theorem ZFt (a : HL Zn) : Zg (envX Tryz.prog (Zav 2) [] 1023 8) Tryz.f111 Zn ZX a = Zwk a.1 a.2.1 a.2.2.1 a.2.2.2 := by kernel_rfl
def Zwg (c : TC) (s : Int) (g : List Int) (ln : QT0) : RT (Option TC) :=
 let x1 : QT1 := (c, s == 5, g, (0, 0, 0, 0, 0, 0, 0, 0), [])
 let x2 := qAtC x1 0
 let x3 := Za c.1 (qAt x1 0)
 let x4 := !x2 || x3.1 == 6
 .br (Zd s) (.leaf (some ((c.1, (rgx c.2.1 c.2.1.2.2.2.2.2.2.2.1 (u16.wrap ((spOf c) - 2)) (Zh s)), c.2.2)))) (.br (!x4 || x2) (.br (x4) (.leaf (some ((c.1, (rgx c.2.1 c.2.1.2.2.2.2.2.2.2.1 (spOf c) (ZC (c, s == 5, g, (6, x3.2), []))), c.2.2.1, false, false, c.2.2.2.2.2)))) (.leaf none)) (.leaf none))
theorem ZFp (a : HL Zn) : Zg (envX Tryz.prog (Zav 6) [] 1023 8) Tryz.f111 Zn ZX a = Zwg a.1 a.2.1 a.2.2.1 a.2.2.2 := by kernel_rfl
def Zqs (c : TC) (s : Int) (g : List Int) (ln : QT0) : RT (Option TC) :=
 let x1 : QT1 := (c, s == 5, g, (0, 0, 0, 0, 0, 0, 0, 0), [])
 let x2 := qAtC x1 0
 let x3 := Za c.1 (qAt x1 0)
 let x4 := !x2 || x3.1 == 10
 .br (Zd s) (.leaf (some ((c.1, (rgx c.2.1 c.2.1.2.2.2.2.2.2.2.1 (u16.wrap ((spOf c) - 2)) (Zh s)), c.2.2)))) (.br (!x4 || x2) (.br (x4) (.leaf (some ((c.1, (rgx c.2.1 c.2.1.2.2.2.2.2.2.2.1 (spOf c) (ZC (c, s == 5, g, (10, x3.2), []))), c.2.2.1, false, false, c.2.2.2.2.2)))) (.leaf none)) (.leaf none))
theorem ZBF (a : HL Zn) : Zg (envX Tryz.prog (Zav 10) [] 1023 8) Tryz.f111 Zn ZX a = Zqs a.1 a.2.1 a.2.2.1 a.2.2.2 := by kernel_rfl
def Zqo (c : TC) (s : Int) (g : List Int) (ln : QT0) : RT (Option TC) :=
 let x1 : QT1 := (c, s == 5, g, (0, 0, 0, 0, 0, 0, 0, 0), [])
 let x2 := qAtC x1 0
 let x3 := Za c.1 (qAt x1 0)
 let x4 := !x2 || x3.1 == 14
 let x5 := x3.2
 let x6 := x5.2.1
 let x7 := x6 == 6
 let x8 : QT1 := (c, s == 5, g, (14, x5), [])
 let x9 := rInr c.1 (bif x7 then qAt x8 1 else qReg x8 x6) c.2.1.2.2.2.2.2.2.2.1
 .br (Zd s) (.leaf (some ((c.1, (rgx c.2.1 c.2.1.2.2.2.2.2.2.2.1 (u16.wrap ((spOf c) - 2)) (Zh s)), c.2.2)))) (.br (!x4 || x2) (.br (x4) (.br (!x7 || qAtC x8 1) (.leaf (some ((c.1, rSet (rgx c.2.1 x9.2 (spOf c) (ZC x8)) x6 x9.1, c.2.2.1, false, false, c.2.2.2.2.2)))) (.leaf none)) (.leaf none)) (.leaf none))
theorem ZBB (a : HL Zn) : Zg (envX Tryz.prog (Zav 14) [] 1023 8) Tryz.f111 Zn ZX a = Zqo a.1 a.2.1 a.2.2.1 a.2.2.2 := by kernel_rfl
def Zqk (c : TC) (s : Int) (g : List Int) (ln : QT0) : RT (Option TC) :=
 let x1 : QT1 := (c, s == 5, g, (0, 0, 0, 0, 0, 0, 0, 0), [])
 let x2 := qAtC x1 0
 let x3 := Za c.1 (qAt x1 0)
 let x4 := !x2 || x3.1 == 18
 let x5 := x3.2
 let x6 : QT1 := (c, s == 5, g, (18, x5), [])
 let x7 := rDad c.1 (Zdb x6 2) (Zdb x6 x5.2.2.2.1) c.2.1.2.2.2.2.2.2.2.1
 .br (Zd s) (.leaf (some ((c.1, (rgx c.2.1 c.2.1.2.2.2.2.2.2.2.1 (u16.wrap ((spOf c) - 2)) (Zh s)), c.2.2)))) (.br (!x4 || x2) (.br (x4) (.leaf (some ((c.1, Zp (rgx c.2.1 x7.2 (spOf c) (ZC x6)) 2 x7.1, c.2.2.1, false, false, c.2.2.2.2.2)))) (.leaf none)) (.leaf none))
theorem ZBx (a : HL Zn) : Zg (envX Tryz.prog (Zav 18) [] 1023 8) Tryz.f111 Zn ZX a = Zqk a.1 a.2.1 a.2.2.1 a.2.2.2 := by kernel_rfl
def Zqg (c : TC) (s : Int) (g : List Int) (ln : QT0) : RT (Option TC) :=
 let x1 : QT1 := (c, s == 5, g, (0, 0, 0, 0, 0, 0, 0, 0), [])
 let x2 := qAtC x1 0
 let x3 := Za c.1 (qAt x1 0)
 let x4 := !x2 || x3.1 == 22
 let x5 := c.2.1.2.2.2.2.2.2.2.1.2.2.2
 let x6 := x5.2
 let x7 := x6.2
 .br (Zd s) (.leaf (some ((c.1, (rgx c.2.1 c.2.1.2.2.2.2.2.2.2.1 (u16.wrap ((spOf c) - 2)) (Zh s)), c.2.2)))) (.br (!x4 || x2) (.br (x4) (.leaf (some ((c.1, (rgx c.2.1 ((c.2.1.2.2.2.2.2.2.2.1.1, c.2.1.2.2.2.2.2.2.2.1.2.1, c.2.1.2.2.2.2.2.2.2.1.2.2.1, x5.1, x6.1, x7.1, !x7.2)) (spOf c) (ZC (c, s == 5, g, (22, x3.2), []))), c.2.2.1, false, false, c.2.2.2.2.2)))) (.leaf none)) (.leaf none))
theorem ZBt (a : HL Zn) : Zg (envX Tryz.prog (Zav 22) [] 1023 8) Tryz.f111 Zn ZX a = Zqg a.1 a.2.1 a.2.2.1 a.2.2.2 := by kernel_rfl
def Zqc (c : TC) (s : Int) (g : List Int) (ln : QT0) : RT (Option TC) :=
 let x1 : QT1 := (c, s == 5, g, (0, 0, 0, 0, 0, 0, 0, 0), [])
 let x2 := qAtC x1 0
 let x3 := Za c.1 (qAt x1 0)
 let x4 := !x2 || x3.1 == 26
 let x5 : QT1 := (c, s == 5, g, (26, x3.2), [])
 let x6 := ZfI x5
 .br (Zd s) (.leaf (some ((c.1, (rgx c.2.1 c.2.1.2.2.2.2.2.2.2.1 (u16.wrap ((spOf c) - 2)) (Zh s)), c.2.2)))) (.br (!x4 || x2) (.br (x4) (.br (!x6 || Zb4 x5 1) (.leaf (some ((c.1, (rgx c.2.1 c.2.1.2.2.2.2.2.2.2.1 (bif x6 then u16.wrap ((spOf c) + 2) else (spOf c)) (bif x6 then ZeW x5 1 else ZC x5)), c.2.2.1, false, false, c.2.2.2.2.2)))) (.leaf none)) (.leaf none)) (.leaf none))
theorem ZBp (a : HL Zn) : Zg (envX Tryz.prog (Zav 26) [] 1023 8) Tryz.f111 Zn ZX a = Zqc a.1 a.2.1 a.2.2.1 a.2.2.2 := by kernel_rfl
def Zp8 (c : TC) (s : Int) (g : List Int) (ln : QT0) : RT (Option TC) :=
 let x1 := u16.wrap ((spOf c) - 2)
 let x2 : QT1 := (c, s == 5, g, (0, 0, 0, 0, 0, 0, 0, 0), [])
 let x3 := qAtC x2 0
 let x4 := Za c.1 (qAt x2 0)
 let x5 := !x3 || x4.1 == 30
 .br (Zd s) (.leaf (some ((c.1, (rgx c.2.1 c.2.1.2.2.2.2.2.2.2.1 x1 (Zh s)), c.2.2)))) (.br (!x5 || x3) (.br (x5) (.leaf (some ((c.1, (rgx c.2.1 c.2.1.2.2.2.2.2.2.2.1 x1 (ZC (c, s == 5, g, (30, x4.2), []))), c.2.2.1, false, false, c.2.2.2.2.2)))) (.leaf none)) (.leaf none))
theorem ZBl (a : HL Zn) : Zg (envX Tryz.prog (Zav 30) [] 1023 8) Tryz.f111 Zn ZX a = Zp8 a.1 a.2.1 a.2.2.1 a.2.2.2 := by kernel_rfl
def Zp4 (c : TC) (s : Int) (g : List Int) (ln : QT0) : RT (Option TC) :=
 let x1 : QT1 := (c, s == 5, g, (0, 0, 0, 0, 0, 0, 0, 0), [])
 let x2 := qAtC x1 0
 let x3 := Za c.1 (qAt x1 0)
 let x4 := !x2 || x3.1 == 34
 .br (Zd s) (.leaf (some ((c.1, (rgx c.2.1 c.2.1.2.2.2.2.2.2.2.1 (u16.wrap ((spOf c) - 2)) (Zh s)), c.2.2)))) (.br (!x4 || x2) (.br (x4) (.leaf (some ((c.1, (rgx c.2.1 c.2.1.2.2.2.2.2.2.2.1 (spOf c) (ZC (c, s == 5, g, (34, x3.2), []))), c.2.2.1, false, false, c.2.2.2.2.2)))) (.leaf none)) (.leaf none))
theorem ZBh (a : HL Zn) : Zg (envX Tryz.prog (Zav 34) [] 1023 8) Tryz.f111 Zn ZX a = Zp4 a.1 a.2.1 a.2.2.1 a.2.2.2 := by kernel_rfl
def Zp0 (c : TC) (s : Int) (g : List Int) (ln : QT0) : RT (Option TC) :=
 let x1 : QT1 := (c, s == 5, g, (0, 0, 0, 0, 0, 0, 0, 0), [])
 let x2 := qAtC x1 0
 let x3 := Za c.1 (qAt x1 0)
 let x4 := !x2 || x3.1 == 38
 let x5 := rRim (c.1, (rgx c.2.1 c.2.1.2.2.2.2.2.2.2.1 (spOf c) (ZC (c, s == 5, g, (38, x3.2), []))), c.2.2.1, 38 == 35, 38 == 37, c.2.2.2.2.2) ln
 let x6 := x5.2
 let x7 := x6.2
 let x8 := x7.2
 let x9 := x8.2.2.2
 let x10 := x9.2
 let x11 := x10.2
 let x12 := x11.2
 let x13 := x12.2
 .br (Zd s) (.leaf (some ((c.1, (rgx c.2.1 c.2.1.2.2.2.2.2.2.2.1 (u16.wrap ((spOf c) - 2)) (Zh s)), c.2.2)))) (.br (!x4 || x2) (.br (x4) (.leaf (some ((x6.1, (x5.1, x7.1.2), x8.1, false, false, x9.1, x10.1, x11.1, x12.1, x13.1, false, false, x13.2.2.2)))) (.leaf none)) (.leaf none))
theorem ZBd (a : HL Zn) : Zg (envX Tryz.prog (Zav 38) [] 1023 8) Tryz.f111 Zn ZX a = Zp0 a.1 a.2.1 a.2.2.1 a.2.2.2 := by kernel_rfl
def ZpW (c : TC) (s : Int) (g : List Int) (ln : QT0) : RT (Option TC) :=
 let x1 : QT1 := (c, s == 5, g, (0, 0, 0, 0, 0, 0, 0, 0), [])
 let x2 := qAtC x1 0
 let x3 := Za c.1 (qAt x1 0)
 let x4 := !x2 || x3.1 == 42
 let x5 := c.2.1.2.2.2.2.2.2.2.1.2.2.2
 let x6 := x5.2
 let x7 : QT1 := (c, s == 5, g, (42, x3.2), [])
 let x8 := Zr1 (Zdb x7 1) x6.2.2
 let x9 := x8.2
 .br (Zd s) (.leaf (some ((c.1, (rgx c.2.1 c.2.1.2.2.2.2.2.2.2.1 (u16.wrap ((spOf c) - 2)) (Zh s)), c.2.2)))) (.br (!x4 || x2) (.br (x4) (.leaf (some ((c.1, Zp (rgx c.2.1 ((c.2.1.2.2.2.2.2.2.2.1.1, c.2.1.2.2.2.2.2.2.2.1.2.1, c.2.1.2.2.2.2.2.2.2.1.2.2.1, x5.1, x6.1, x9.2, x9.1)) (spOf c) (ZC x7)) 1 x8.1, c.2.2.1, false, false, c.2.2.2.2.2)))) (.leaf none)) (.leaf none))
theorem ZA9 (a : HL Zn) : Zg (envX Tryz.prog (Zav 42) [] 1023 8) Tryz.f111 Zn ZX a = ZpW a.1 a.2.1 a.2.2.1 a.2.2.2 := by kernel_rfl
def ZpS (c : TC) (s : Int) (g : List Int) (ln : QT0) : RT (Option TC) :=
 let x1 : QT1 := (c, s == 5, g, (0, 0, 0, 0, 0, 0, 0, 0), [])
 let x2 := qAtC x1 0
 let x3 := Za c.1 (qAt x1 0)
 let x4 := !x2 || x3.1 == 46
 .br (Zd s) (.leaf (some ((c.1, (rgx c.2.1 c.2.1.2.2.2.2.2.2.2.1 (u16.wrap ((spOf c) - 2)) (Zh s)), c.2.2)))) (.br (!x4 || x2) (.br (x4) (.leaf (some ((c.1, (rgx c.2.1 c.2.1.2.2.2.2.2.2.2.1 (spOf c) (ZC (c, s == 5, g, (46, x3.2), []))), c.2.2.1, false, false, c.2.2.2.2.2)))) (.leaf none)) (.leaf none))
theorem ZA5 (a : HL Zn) : Zg (envX Tryz.prog (Zav 46) [] 1023 8) Tryz.f111 Zn ZX a = ZpS a.1 a.2.1 a.2.2.1 a.2.2.2 := by kernel_rfl
def Zu0 (c : TC) (s : Int) (g : List Int) (ln : QT0) : RT (Option TC) :=
 let x1 := Za c.1 (mAt (c, s == 5, g, []) 0)
 let x2 := x1.2
 let x3 := rSet c.2.1 x2.2.1 (mAt (c, s == 5, g, []) 1)
 let x4 := x3.2
 let x5 := x4.2
 let x6 := x5.2
 let x7 := x6.2
 let x8 := x7.2
 let x9 := x8.2
 let x10 := x9.2
 .br (Zb s) (.leaf (some ((c.1, (rgx c.2.1 c.2.1.2.2.2.2.2.2.2.1 (u16.wrap ((spOf c) - 2)) (Zh s)), c.2.2)))) (.br (!mAtC (c, s == 5, g, []) 0 || x1.1 == 3) (.br (mAtC (c, s == 5, g, []) 0) (.br (mAtC (c, s == 5, g, []) 1) (.leaf (some ((c.1, (x3.1, x4.1, x5.1, x6.1, x7.1, x8.1, x9.1, x10.1, x10.2.1, Zy (c, s == 5, g, []) x2.1), c.2.2.1, false, false, c.2.2.2.2.2)))) (.leaf none)) (.leaf none)) (.leaf none))
theorem ZDU (a : HL Zm) : Zg (envX Tryz.prog (Zau 3) [] 79250227772808467515411824639 8) Tryz.f98 Zm ZV a = Zu0 a.1 a.2.1 a.2.2.1 a.2.2.2 := by kernel_rfl
def ZuW (c : TC) (s : Int) (g : List Int) (ln : QT0) : RT (Option TC) :=
 let x1 := Za c.1 (mAt (c, s == 5, g, []) 0)
 let x2 := !mAtC (c, s == 5, g, []) 3 || mAtC (c, s == 5, g, []) 4
 let x3 := !x2 || mAtC (c, s == 5, g, []) 3
 let x4 := !x3 || x2
 .br (Zb s) (.leaf (some ((c.1, (rgx c.2.1 c.2.1.2.2.2.2.2.2.2.1 (u16.wrap ((spOf c) - 2)) (Zh s)), c.2.2)))) (.br (!mAtC (c, s == 5, g, []) 0 || x1.1 == 7) (.br (mAtC (c, s == 5, g, []) 0) (.br (!x4 || x3) (.br (x4) (.leaf (some ((c.1, (c.2.1.1, c.2.1.2.1, c.2.1.2.2.1, c.2.1.2.2.2.1, c.2.1.2.2.2.2.1, mAt (c, s == 5, g, []) 4, mAt (c, s == 5, g, []) 3, c.2.1.2.2.2.2.2.2.2.1, spOf c, Zy (c, s == 5, g, []) x1.2.1), c.2.2.1, false, false, c.2.2.2.2.2)))) (.leaf none)) (.leaf none)) (.leaf none)) (.leaf none))
theorem ZDQ (a : HL Zm) : Zg (envX Tryz.prog (Zau 7) [] 79250227772808467515411824639 8) Tryz.f98 Zm ZV a = ZuW a.1 a.2.1 a.2.2.1 a.2.2.2 := by kernel_rfl
def Zo8 (c : TC) (s : Int) (g : List Int) (ln : QT0) : RT (Option TC) :=
 let x1 := Za c.1 (mAt (c, s == 5, g, []) 0)
 .br (Zb s) (.leaf (some ((c.1, (rgx c.2.1 c.2.1.2.2.2.2.2.2.2.1 (u16.wrap ((spOf c) - 2)) (Zh s)), c.2.2)))) (.br (!mAtC (c, s == 5, g, []) 0 || x1.1 == 11) (.br (mAtC (c, s == 5, g, []) 0) (.leaf (some ((c.1, (c.2.1.1, c.2.1.2.1, c.2.1.2.2.1, c.2.1.2.2.2.2.2.1, c.2.1.2.2.2.2.2.2.1, c.2.1.2.2.2.1, c.2.1.2.2.2.2.1, c.2.1.2.2.2.2.2.2.2.1, spOf c, Zy (c, s == 5, g, []) x1.2.1), c.2.2.1, false, false, c.2.2.2.2.2)))) (.leaf none)) (.leaf none))
theorem ZAz (a : HL Zm) : Zg (envX Tryz.prog (Zau 11) [] 79250227772808467515411824639 8) Tryz.f98 Zm ZV a = Zo8 a.1 a.2.1 a.2.2.1 a.2.2.2 := by kernel_rfl
def Zo4 (c : TC) (s : Int) (g : List Int) (ln : QT0) : RT (Option TC) :=
 let x1 := Za c.1 (mAt (c, s == 5, g, []) 0)
 let x2 := x1.2
 let x3 := x2.2.1
 let x4 := x3 == 6
 let x5 := Zfp c (15, x2) (bif x4 then mAt (c, s == 5, g, []) 1 else rGet c.2.1 x3)
 let x6 := rSet c.2.1 x3 x5.1
 let x7 := x6.2
 let x8 := x7.2
 let x9 := x8.2
 let x10 := x9.2
 let x11 := x10.2
 let x12 := x11.2
 .br (Zb s) (.leaf (some ((c.1, (rgx c.2.1 c.2.1.2.2.2.2.2.2.2.1 (u16.wrap ((spOf c) - 2)) (Zh s)), c.2.2)))) (.br (!mAtC (c, s == 5, g, []) 0 || x1.1 == 15) (.br (mAtC (c, s == 5, g, []) 0) (.br (!x4 || mAtC (c, s == 5, g, []) 1) (.leaf (some ((c.1, (x6.1, x7.1, x8.1, x9.1, x10.1, x11.1, x12.1, x5.2, x12.2.2.1, Zy (c, s == 5, g, []) x2.1), c.2.2.1, false, false, c.2.2.2.2.2)))) (.leaf none)) (.leaf none)) (.leaf none))
theorem ZAv (a : HL Zm) : Zg (envX Tryz.prog (Zau 15) [] 79250227772808467515411824639 8) Tryz.f98 Zm ZV a = Zo4 a.1 a.2.1 a.2.2.1 a.2.2.2 := by kernel_rfl
def Zo0 (c : TC) (s : Int) (g : List Int) (ln : QT0) : RT (Option TC) :=
 let x1 := Za c.1 (mAt (c, s == 5, g, []) 0)
 let x2 := rDaa c.1 c.2.1.1 c.2.1.2.2.2.2.2.2.2.1
 .br (Zb s) (.leaf (some ((c.1, (rgx c.2.1 c.2.1.2.2.2.2.2.2.2.1 (u16.wrap ((spOf c) - 2)) (Zh s)), c.2.2)))) (.br (!mAtC (c, s == 5, g, []) 0 || x1.1 == 19) (.br (mAtC (c, s == 5, g, []) 0) (.leaf (some ((c.1, (x2.1, c.2.1.2.1, c.2.1.2.2.1, c.2.1.2.2.2.1, c.2.1.2.2.2.2.1, c.2.1.2.2.2.2.2.1, c.2.1.2.2.2.2.2.2.1, x2.2, spOf c, Zy (c, s == 5, g, []) x1.2.1), c.2.2.1, false, false, c.2.2.2.2.2)))) (.leaf none)) (.leaf none))
theorem ZAr (a : HL Zm) : Zg (envX Tryz.prog (Zau 19) [] 79250227772808467515411824639 8) Tryz.f98 Zm ZV a = Zo0 a.1 a.2.1 a.2.2.1 a.2.2.2 := by kernel_rfl
def ZoW (c : TC) (s : Int) (g : List Int) (ln : QT0) : RT (Option TC) :=
 let x1 := Za c.1 (mAt (c, s == 5, g, []) 0)
 let x2 := x1.2
 let x3 := c.2.1.2.2.2.2.2.2.2.1.2.2.2
 let x4 := x3.2
 let x5 := x4.2
 let x6 := rRot x2.2.2.2.2.1 c.2.1.1 x5.2
 .br (Zb s) (.leaf (some ((c.1, (rgx c.2.1 c.2.1.2.2.2.2.2.2.2.1 (u16.wrap ((spOf c) - 2)) (Zh s)), c.2.2)))) (.br (!mAtC (c, s == 5, g, []) 0 || x1.1 == 23) (.br (mAtC (c, s == 5, g, []) 0) (.leaf (some ((c.1, (x6.1, c.2.1.2.1, c.2.1.2.2.1, c.2.1.2.2.2.1, c.2.1.2.2.2.2.1, c.2.1.2.2.2.2.2.1, c.2.1.2.2.2.2.2.2.1, (c.2.1.2.2.2.2.2.2.2.1.1, c.2.1.2.2.2.2.2.2.2.1.2.1, c.2.1.2.2.2.2.2.2.2.1.2.2.1, x3.1, x4.1, x5.1, x6.2), spOf c, Zy (c, s == 5, g, []) x2.1), c.2.2.1, false, false, c.2.2.2.2.2)))) (.leaf none)) (.leaf none))
theorem ZAn (a : HL Zm) : Zg (envX Tryz.prog (Zau 23) [] 79250227772808467515411824639 8) Tryz.f98 Zm ZV a = ZoW a.1 a.2.1 a.2.2.1 a.2.2.2 := by kernel_rfl
def ZoS (c : TC) (s : Int) (g : List Int) (ln : QT0) : RT (Option TC) :=
 let x1 := u16.wrap ((spOf c) - 2)
 let x2 := Za c.1 (mAt (c, s == 5, g, []) 0)
 .br (Zb s) (.leaf (some ((c.1, (rgx c.2.1 c.2.1.2.2.2.2.2.2.2.1 x1 (Zh s)), c.2.2)))) (.br (!mAtC (c, s == 5, g, []) 0 || x2.1 == 27) (.br (mAtC (c, s == 5, g, []) 0) (.leaf (some ((c.1, (rgx c.2.1 c.2.1.2.2.2.2.2.2.2.1 x1 (u16.wrap (i64.wrap (8 * x2.2.2.2.2.2.2.2)))), c.2.2.1, false, false, c.2.2.2.2.2)))) (.leaf none)) (.leaf none))
theorem ZAj (a : HL Zm) : Zg (envX Tryz.prog (Zau 27) [] 79250227772808467515411824639 8) Tryz.f98 Zm ZV a = ZoS a.1 a.2.1 a.2.2.1 a.2.2.2 := by kernel_rfl
def ZoO (c : TC) (s : Int) (g : List Int) (ln : QT0) : RT (Option TC) :=
 let x1 := Za c.1 (mAt (c, s == 5, g, []) 0)
 let x2 := x1.2
 let x3 := x2.2.2.2.1
 let x4 := x3 == 3
 let x5 := !x4 || ZbD (c, s == 5, g, []) 1
 let x6 := !x5 || (x4 || ZbD (c, s == 5, g, []) 1)
 let x7 := !x6 || x5
 let x8 := ZeR c.1 c.2.1 (ZdD (c, s == 5, g, []) 1)
 let x9 := Zp c.2.1 x3 (ZdD (c, s == 5, g, []) 1)
 let x10 := x8.2
 let x11 := x9.2
 let x12 := x10.2
 let x13 := x11.2
 let x14 := x12.2
 let x15 := x13.2
 let x16 := x14.2
 let x17 := x15.2
 let x18 := x16.2
 let x19 := x17.2
 let x20 := x18.2
 let x21 := x19.2
 let x22 := x20.2
 let x23 := x22.1
 let x24 := x21.2
 let x25 := x24.1
 let x26 := x23.2
 let x27 := x25.2
 let x28 := x26.2
 let x29 := x27.2
 let x30 := x28.2
 let x31 := x29.2
 let x32 := x30.2
 let x33 := x31.2
 let x34 := x32.2
 let x35 := x33.2
 .br (Zb s) (.leaf (some ((c.1, (rgx c.2.1 c.2.1.2.2.2.2.2.2.2.1 (u16.wrap ((spOf c) - 2)) (Zh s)), c.2.2)))) (.br (!mAtC (c, s == 5, g, []) 0 || x1.1 == 31) (.br (mAtC (c, s == 5, g, []) 0) (.br (!x7 || x6) (.br (x7) (.leaf (some ((c.1, (bif x4 then x8.1 else x9.1, bif x4 then x10.1 else x11.1, bif x4 then x12.1 else x13.1, bif x4 then x14.1 else x15.1, bif x4 then x16.1 else x17.1, bif x4 then x18.1 else x19.1, bif x4 then x20.1 else x21.1, (bif x4 then x23.1 else x25.1, bif x4 then x26.1 else x27.1, bif x4 then x28.1 else x29.1, bif x4 then x30.1 else x31.1, bif x4 then x32.1 else x33.1, bif x4 then x34.1 else x35.1, bif x4 then x34.2 else x35.2), u16.wrap ((bif x4 then x22.2.1 else x24.2.1) + 2), Zy (c, s == 5, g, []) x2.1), c.2.2.1, false, false, c.2.2.2.2.2)))) (.leaf none)) (.leaf none)) (.leaf none)) (.leaf none))
theorem ZAf (a : HL Zm) : Zg (envX Tryz.prog (Zau 31) [] 79250227772808467515411824639 8) Tryz.f98 Zm ZV a = ZoO a.1 a.2.1 a.2.2.1 a.2.2.2 := by kernel_rfl
def ZoK (c : TC) (s : Int) (g : List Int) (ln : QT0) : RT (Option TC) :=
 let x1 := Za c.1 (mAt (c, s == 5, g, []) 0)
 .br (Zb s) (.leaf (some ((c.1, (rgx c.2.1 c.2.1.2.2.2.2.2.2.2.1 (u16.wrap ((spOf c) - 2)) (Zh s)), c.2.2)))) (.br (!mAtC (c, s == 5, g, []) 0 || x1.1 == 35) (.br (mAtC (c, s == 5, g, []) 0) (.leaf (some ((c.1, (rgx c.2.1 c.2.1.2.2.2.2.2.2.2.1 (spOf c) (Zy (c, s == 5, g, []) x1.2.1)), true, true, false, c.2.2.2.2.2)))) (.leaf none)) (.leaf none))
theorem ZAb (a : HL Zm) : Zg (envX Tryz.prog (Zau 35) [] 79250227772808467515411824639 8) Tryz.f98 Zm ZV a = ZoK a.1 a.2.1 a.2.2.1 a.2.2.2 := by kernel_rfl
def ZoG (c : TC) (s : Int) (g : List Int) (ln : QT0) : RT (Option TC) :=
 let x1 := Za c.1 (mAt (c, s == 5, g, []) 0)
 let x2 := rSim (c.1, (rgx c.2.1 c.2.1.2.2.2.2.2.2.2.1 (spOf c) (Zy (c, s == 5, g, []) x1.2.1)), c.2.2) c.2.1.1
 let x3 := x2.2
 let x4 := x3.2
 .br (Zb s) (.leaf (some ((c.1, (rgx c.2.1 c.2.1.2.2.2.2.2.2.2.1 (u16.wrap ((spOf c) - 2)) (Zh s)), c.2.2)))) (.br (!mAtC (c, s == 5, g, []) 0 || x1.1 == 39) (.br (mAtC (c, s == 5, g, []) 0) (.leaf (some ((x2.1, x3.1, x4.1, false, false, x4.2.2.2)))) (.leaf none)) (.leaf none))
theorem Zz7 (a : HL Zm) : Zg (envX Tryz.prog (Zau 39) [] 79250227772808467515411824639 8) Tryz.f98 Zm ZV a = ZoG a.1 a.2.1 a.2.2.1 a.2.2.2 := by kernel_rfl
def ZoC (c : TC) (s : Int) (g : List Int) (ln : QT0) : RT (Option TC) :=
 let x1 := Za c.1 (mAt (c, s == 5, g, []) 0)
 let x2 := Zp c.2.1 1 (u16.wrap (Z7 c.2.1 2 + u16.wrap (mAt (c, s == 5, g, []) 1)))
 let x3 := x2.2
 let x4 := x3.2
 let x5 := x4.2
 let x6 := x5.2
 let x7 := x6.2
 let x8 := x7.2
 let x9 := x8.2
 .br (Zb s) (.leaf (some ((c.1, (rgx c.2.1 c.2.1.2.2.2.2.2.2.2.1 (u16.wrap ((spOf c) - 2)) (Zh s)), c.2.2)))) (.br (!mAtC (c, s == 5, g, []) 0 || x1.1 == 43) (.br (mAtC (c, s == 5, g, []) 0) (.br (mAtC (c, s == 5, g, []) 1) (.leaf (some ((c.1, (x2.1, x3.1, x4.1, x5.1, x6.1, x7.1, x8.1, x9.1, x9.2.1, Zy (c, s == 5, g, []) x1.2.1), c.2.2.1, false, false, c.2.2.2.2.2)))) (.leaf none)) (.leaf none)) (.leaf none))
theorem Zz3 (a : HL Zm) : Zg (envX Tryz.prog (Zau 43) [] 79250227772808467515411824639 8) Tryz.f98 Zm ZV a = ZoC a.1 a.2.1 a.2.2.1 a.2.2.2 := by kernel_rfl
def Zoy (c : TC) (s : Int) (g : List Int) (ln : QT0) : RT (Option TC) :=
 let x1 := Za c.1 (mAt (c, s == 5, g, []) 0)
 let x2 := !mAtC (c, s == 5, g, []) 1 || mAtC (c, s == 5, g, []) 2
 let x3 := !x2 || mAtC (c, s == 5, g, []) 1
 let x4 := !x3 || x2
 .br (Zb s) (.leaf (some ((c.1, (rgx c.2.1 c.2.1.2.2.2.2.2.2.2.1 (u16.wrap ((spOf c) - 2)) (Zh s)), c.2.2)))) (.br (!mAtC (c, s == 5, g, []) 0 || x1.1 == 47) (.br (mAtC (c, s == 5, g, []) 0) (.br (!x4 || x3) (.br (x4) (.leaf (some ((c.1, (c.2.1.1, c.2.1.2.1, c.2.1.2.2.1, c.2.1.2.2.2.1, c.2.1.2.2.2.2.1, mAt (c, s == 5, g, []) 2, mAt (c, s == 5, g, []) 1, c.2.1.2.2.2.2.2.2.2.1, spOf c, Zy (c, s == 5, g, []) x1.2.1), c.2.2.1, false, false, c.2.2.2.2.2)))) (.leaf none)) (.leaf none)) (.leaf none)) (.leaf none))
theorem ZzZ (a : HL Zm) : Zg (envX Tryz.prog (Zau 47) [] 79250227772808467515411824639 8) Tryz.f98 Zm ZV a = Zoy a.1 a.2.1 a.2.2.1 a.2.2.2 := by kernel_rfl
def Zwj (c : TC) (s : Int) (g : List Int) (ln : QT0) : RT (Option TC) :=
 let x1 : QT1 := (c, s == 5, g, (0, 0, 0, 0, 0, 0, 0, 0), [])
 let x2 := qAtC x1 0
 let x3 := Za c.1 (qAt x1 0)
 let x4 := !x2 || x3.1 == 3
 let x5 := x3.2
 let x6 : QT1 := (c, s == 5, g, (3, x5), [])
 .br (Zd s) (.leaf (some ((c.1, (rgx c.2.1 c.2.1.2.2.2.2.2.2.2.1 (u16.wrap ((spOf c) - 2)) (Zh s)), c.2.2)))) (.br (!x4 || x2) (.br (x4) (.br (qAtC x6 1) (.leaf (some ((c.1, rSet (rgx c.2.1 c.2.1.2.2.2.2.2.2.2.1 (spOf c) (ZC x6)) x5.2.1 (qAt x6 1), c.2.2.1, false, false, c.2.2.2.2.2)))) (.leaf none)) (.leaf none)) (.leaf none))
theorem ZFs (a : HL Zn) : Zg (envX Tryz.prog (Zav 3) [] 1023 8) Tryz.f111 Zn ZX a = Zwj a.1 a.2.1 a.2.2.1 a.2.2.2 := by kernel_rfl
def Zwf (c : TC) (s : Int) (g : List Int) (ln : QT0) : RT (Option TC) :=
 let x1 : QT1 := (c, s == 5, g, (0, 0, 0, 0, 0, 0, 0, 0), [])
 let x2 := qAtC x1 0
 let x3 := Za c.1 (qAt x1 0)
 let x4 := !x2 || x3.1 == 7
 let x5 : QT1 := (c, s == 5, g, (7, x3.2), [])
 .br (Zd s) (.leaf (some ((c.1, (rgx c.2.1 c.2.1.2.2.2.2.2.2.2.1 (u16.wrap ((spOf c) - 2)) (Zh s)), c.2.2)))) (.br (!x4 || x2) (.br (x4) (.br (Zb4 x5 3) (.leaf (some ((c.1, Zp (rgx c.2.1 c.2.1.2.2.2.2.2.2.2.1 (spOf c) (ZC x5)) 2 (ZeW x5 3), c.2.2.1, false, false, c.2.2.2.2.2)))) (.leaf none)) (.leaf none)) (.leaf none))
theorem ZFo (a : HL Zn) : Zg (envX Tryz.prog (Zav 7) [] 1023 8) Tryz.f111 Zn ZX a = Zwf a.1 a.2.1 a.2.2.1 a.2.2.2 := by kernel_rfl
def Zqr (c : TC) (s : Int) (g : List Int) (ln : QT0) : RT (Option TC) :=
 let x1 : QT1 := (c, s == 5, g, (0, 0, 0, 0, 0, 0, 0, 0), [])
 let x2 := qAtC x1 0
 let x3 := Za c.1 (qAt x1 0)
 let x4 := !x2 || x3.1 == 11
 .br (Zd s) (.leaf (some ((c.1, (rgx c.2.1 c.2.1.2.2.2.2.2.2.2.1 (u16.wrap ((spOf c) - 2)) (Zh s)), c.2.2)))) (.br (!x4 || x2) (.br (x4) (.leaf (some ((c.1, (c.2.1.1, c.2.1.2.1, c.2.1.2.2.1, c.2.1.2.2.2.2.2.1, c.2.1.2.2.2.2.2.2.1, c.2.1.2.2.2.1, c.2.1.2.2.2.2.1, c.2.1.2.2.2.2.2.2.2.1, spOf c, ZC (c, s == 5, g, (11, x3.2), [])), c.2.2.1, false, false, c.2.2.2.2.2)))) (.leaf none)) (.leaf none))
theorem ZBE (a : HL Zn) : Zg (envX Tryz.prog (Zav 11) [] 1023 8) Tryz.f111 Zn ZX a = Zqr a.1 a.2.1 a.2.2.1 a.2.2.2 := by kernel_rfl
def Zqn (c : TC) (s : Int) (g : List Int) (ln : QT0) : RT (Option TC) :=
 let x1 : QT1 := (c, s == 5, g, (0, 0, 0, 0, 0, 0, 0, 0), [])
 let x2 := qAtC x1 0
 let x3 := Za c.1 (qAt x1 0)
 let x4 := !x2 || x3.1 == 15
 let x5 := x3.2
 let x6 := x5.2.1
 let x7 := x6 == 6
 let x8 : QT1 := (c, s == 5, g, (15, x5), [])
 let x9 := rDcr c.1 (bif x7 then qAt x8 1 else qReg x8 x6) c.2.1.2.2.2.2.2.2.2.1
 .br (Zd s) (.leaf (some ((c.1, (rgx c.2.1 c.2.1.2.2.2.2.2.2.2.1 (u16.wrap ((spOf c) - 2)) (Zh s)), c.2.2)))) (.br (!x4 || x2) (.br (x4) (.br (!x7 || qAtC x8 1) (.leaf (some ((c.1, rSet (rgx c.2.1 x9.2 (spOf c) (ZC x8)) x6 x9.1, c.2.2.1, false, false, c.2.2.2.2.2)))) (.leaf none)) (.leaf none)) (.leaf none))
theorem ZBA (a : HL Zn) : Zg (envX Tryz.prog (Zav 15) [] 1023 8) Tryz.f111 Zn ZX a = Zqn a.1 a.2.1 a.2.2.1 a.2.2.2 := by kernel_rfl
def Zqj (c : TC) (s : Int) (g : List Int) (ln : QT0) : RT (Option TC) :=
 let x1 : QT1 := (c, s == 5, g, (0, 0, 0, 0, 0, 0, 0, 0), [])
 let x2 := qAtC x1 0
 let x3 := Za c.1 (qAt x1 0)
 let x4 := !x2 || x3.1 == 19
 let x5 := rDaa c.1 c.2.1.1 c.2.1.2.2.2.2.2.2.2.1
 .br (Zd s) (.leaf (some ((c.1, (rgx c.2.1 c.2.1.2.2.2.2.2.2.2.1 (u16.wrap ((spOf c) - 2)) (Zh s)), c.2.2)))) (.br (!x4 || x2) (.br (x4) (.leaf (some ((c.1, (x5.1, c.2.1.2.1, c.2.1.2.2.1, c.2.1.2.2.2.1, c.2.1.2.2.2.2.1, c.2.1.2.2.2.2.2.1, c.2.1.2.2.2.2.2.2.1, x5.2, spOf c, ZC (c, s == 5, g, (19, x3.2), [])), c.2.2.1, false, false, c.2.2.2.2.2)))) (.leaf none)) (.leaf none))
theorem ZBw (a : HL Zn) : Zg (envX Tryz.prog (Zav 19) [] 1023 8) Tryz.f111 Zn ZX a = Zqj a.1 a.2.1 a.2.2.1 a.2.2.2 := by kernel_rfl
def Zqf (c : TC) (s : Int) (g : List Int) (ln : QT0) : RT (Option TC) :=
 let x1 : QT1 := (c, s == 5, g, (0, 0, 0, 0, 0, 0, 0, 0), [])
 let x2 := qAtC x1 0
 let x3 := Za c.1 (qAt x1 0)
 let x4 := !x2 || x3.1 == 23
 let x5 := x3.2
 let x6 := c.2.1.2.2.2.2.2.2.2.1.2.2.2
 let x7 := x6.2
 let x8 := x7.2
 let x9 := rRot x5.2.2.2.2.1 c.2.1.1 x8.2
 .br (Zd s) (.leaf (some ((c.1, (rgx c.2.1 c.2.1.2.2.2.2.2.2.2.1 (u16.wrap ((spOf c) - 2)) (Zh s)), c.2.2)))) (.br (!x4 || x2) (.br (x4) (.leaf (some ((c.1, (x9.1, c.2.1.2.1, c.2.1.2.2.1, c.2.1.2.2.2.1, c.2.1.2.2.2.2.1, c.2.1.2.2.2.2.2.1, c.2.1.2.2.2.2.2.2.1, (c.2.1.2.2.2.2.2.2.2.1.1, c.2.1.2.2.2.2.2.2.2.1.2.1, c.2.1.2.2.2.2.2.2.2.1.2.2.1, x6.1, x7.1, x8.1, x9.2), spOf c, ZC (c, s == 5, g, (23, x5), [])), c.2.2.1, false, false, c.2.2.2.2.2)))) (.leaf none)) (.leaf none))
theorem ZBs (a : HL Zn) : Zg (envX Tryz.prog (Zav 23) [] 1023 8) Tryz.f111 Zn ZX a = Zqf a.1 a.2.1 a.2.2.1 a.2.2.2 := by kernel_rfl
def Zqb (c : TC) (s : Int) (g : List Int) (ln : QT0) : RT (Option TC) :=
 let x1 := u16.wrap ((spOf c) - 2)
 let x2 : QT1 := (c, s == 5, g, (0, 0, 0, 0, 0, 0, 0, 0), [])
 let x3 := qAtC x2 0
 let x4 := Za c.1 (qAt x2 0)
 let x5 := !x3 || x4.1 == 27
 .br (Zd s) (.leaf (some ((c.1, (rgx c.2.1 c.2.1.2.2.2.2.2.2.2.1 x1 (Zh s)), c.2.2)))) (.br (!x5 || x3) (.br (x5) (.leaf (some ((c.1, (rgx c.2.1 c.2.1.2.2.2.2.2.2.2.1 x1 (u16.wrap (i64.wrap (8 * x4.2.2.2.2.2.2.2)))), c.2.2.1, false, false, c.2.2.2.2.2)))) (.leaf none)) (.leaf none))
theorem ZBo (a : HL Zn) : Zg (envX Tryz.prog (Zav 27) [] 1023 8) Tryz.f111 Zn ZX a = Zqb a.1 a.2.1 a.2.2.1 a.2.2.2 := by kernel_rfl
def Zp7 (c : TC) (s : Int) (g : List Int) (ln : QT0) : RT (Option TC) :=
 let x1 : QT1 := (c, s == 5, g, (0, 0, 0, 0, 0, 0, 0, 0), [])
 let x2 := qAtC x1 0
 let x3 := Za c.1 (qAt x1 0)
 let x4 := !x2 || x3.1 == 31
 let x5 := x3.2
 let x6 := x5.2.2.2.1
 let x7 := x6 == 3
 let x8 : QT1 := (c, s == 5, g, (31, x5), [])
 let x9 := Zb4 x8 1
 let x10 := !x7 || x9
 let x11 := !x10 || (x7 || x9)
 let x12 := !x11 || x10
 let x13 := !x12 || x11
 let x14 : TR := (rgx c.2.1 c.2.1.2.2.2.2.2.2.2.1 (spOf c) (ZC x8))
 let x15 := ZeW x8 1
 let x16 := ZeR c.1 x14 x15
 let x17 := Zp x14 x6 x15
 let x18 := x16.2
 let x19 := x17.2
 let x20 := x18.2
 let x21 := x19.2
 let x22 := x20.2
 let x23 := x21.2
 let x24 := x22.2
 let x25 := x23.2
 let x26 := x24.2
 let x27 := x25.2
 let x28 := x26.2
 let x29 := x27.2
 let x30 := x28.2
 let x31 := x30.1
 let x32 := x29.2
 let x33 := x32.1
 let x34 := x31.2
 let x35 := x33.2
 let x36 := x34.2
 let x37 := x35.2
 let x38 := x36.2
 let x39 := x37.2
 let x40 := x38.2
 let x41 := x39.2
 let x42 := x40.2
 let x43 := x41.2
 let x44 := x30.2
 let x45 := x32.2
 .br (Zd s) (.leaf (some ((c.1, (rgx c.2.1 c.2.1.2.2.2.2.2.2.2.1 (u16.wrap ((spOf c) - 2)) (Zh s)), c.2.2)))) (.br (!x4 || x2) (.br (x4) (.br (!x13 || x12) (.br (x13) (.leaf (some ((c.1, (bif x7 then x16.1 else x17.1, bif x7 then x18.1 else x19.1, bif x7 then x20.1 else x21.1, bif x7 then x22.1 else x23.1, bif x7 then x24.1 else x25.1, bif x7 then x26.1 else x27.1, bif x7 then x28.1 else x29.1, (bif x7 then x31.1 else x33.1, bif x7 then x34.1 else x35.1, bif x7 then x36.1 else x37.1, bif x7 then x38.1 else x39.1, bif x7 then x40.1 else x41.1, bif x7 then x42.1 else x43.1, bif x7 then x42.2 else x43.2), u16.wrap ((bif x7 then x44.1 else x45.1) + 2), bif x7 then x44.2 else x45.2), c.2.2.1, false, false, c.2.2.2.2.2)))) (.leaf none)) (.leaf none)) (.leaf none)) (.leaf none))
theorem ZBk (a : HL Zn) : Zg (envX Tryz.prog (Zav 31) [] 1023 8) Tryz.f111 Zn ZX a = Zp7 a.1 a.2.1 a.2.2.1 a.2.2.2 := by kernel_rfl
def Zp3 (c : TC) (s : Int) (g : List Int) (ln : QT0) : RT (Option TC) :=
 let x1 : QT1 := (c, s == 5, g, (0, 0, 0, 0, 0, 0, 0, 0), [])
 let x2 := qAtC x1 0
 let x3 := Za c.1 (qAt x1 0)
 let x4 := !x2 || x3.1 == 35
 .br (Zd s) (.leaf (some ((c.1, (rgx c.2.1 c.2.1.2.2.2.2.2.2.2.1 (u16.wrap ((spOf c) - 2)) (Zh s)), c.2.2)))) (.br (!x4 || x2) (.br (x4) (.leaf (some ((c.1, (rgx c.2.1 c.2.1.2.2.2.2.2.2.2.1 (spOf c) (ZC (c, s == 5, g, (35, x3.2), []))), true, true, false, c.2.2.2.2.2)))) (.leaf none)) (.leaf none))
theorem ZBg (a : HL Zn) : Zg (envX Tryz.prog (Zav 35) [] 1023 8) Tryz.f111 Zn ZX a = Zp3 a.1 a.2.1 a.2.2.1 a.2.2.2 := by kernel_rfl
def ZpZ (c : TC) (s : Int) (g : List Int) (ln : QT0) : RT (Option TC) :=
 let x1 : QT1 := (c, s == 5, g, (0, 0, 0, 0, 0, 0, 0, 0), [])
 let x2 := qAtC x1 0
 let x3 := Za c.1 (qAt x1 0)
 let x4 := !x2 || x3.1 == 39
 let x5 := rSim (c.1, (rgx c.2.1 c.2.1.2.2.2.2.2.2.2.1 (spOf c) (ZC (c, s == 5, g, (39, x3.2), []))), c.2.2.1, 39 == 35, 39 == 37, c.2.2.2.2.2) c.2.1.1
 let x6 := x5.2
 let x7 := x6.2
 .br (Zd s) (.leaf (some ((c.1, (rgx c.2.1 c.2.1.2.2.2.2.2.2.2.1 (u16.wrap ((spOf c) - 2)) (Zh s)), c.2.2)))) (.br (!x4 || x2) (.br (x4) (.leaf (some ((x5.1, x6.1, x7.1, false, false, x7.2.2.2)))) (.leaf none)) (.leaf none))
theorem ZBc (a : HL Zn) : Zg (envX Tryz.prog (Zav 39) [] 1023 8) Tryz.f111 Zn ZX a = ZpZ a.1 a.2.1 a.2.2.1 a.2.2.2 := by kernel_rfl
def ZpV (c : TC) (s : Int) (g : List Int) (ln : QT0) : RT (Option TC) :=
 let x1 : QT1 := (c, s == 5, g, (0, 0, 0, 0, 0, 0, 0, 0), [])
 let x2 := qAtC x1 0
 let x3 := Za c.1 (qAt x1 0)
 let x4 := !x2 || x3.1 == 43
 let x5 : QT1 := (c, s == 5, g, (43, x3.2), [])
 .br (Zd s) (.leaf (some ((c.1, (rgx c.2.1 c.2.1.2.2.2.2.2.2.2.1 (u16.wrap ((spOf c) - 2)) (Zh s)), c.2.2)))) (.br (!x4 || x2) (.br (x4) (.br (qAtC x5 1) (.leaf (some ((c.1, Zp (rgx c.2.1 c.2.1.2.2.2.2.2.2.2.1 (spOf c) (ZC x5)) 1 (u16.wrap (Zdb x5 2 + u16.wrap (qAt x5 1))), c.2.2.1, false, false, c.2.2.2.2.2)))) (.leaf none)) (.leaf none)) (.leaf none))
theorem ZA8 (a : HL Zn) : Zg (envX Tryz.prog (Zav 43) [] 1023 8) Tryz.f111 Zn ZX a = ZpV a.1 a.2.1 a.2.2.1 a.2.2.2 := by kernel_rfl
def ZpR (c : TC) (s : Int) (g : List Int) (ln : QT0) : RT (Option TC) :=
 let x1 : QT1 := (c, s == 5, g, (0, 0, 0, 0, 0, 0, 0, 0), [])
 let x2 := qAtC x1 0
 let x3 := Za c.1 (qAt x1 0)
 let x4 := !x2 || x3.1 == 47
 let x5 : QT1 := (c, s == 5, g, (47, x3.2), [])
 .br (Zd s) (.leaf (some ((c.1, (rgx c.2.1 c.2.1.2.2.2.2.2.2.2.1 (u16.wrap ((spOf c) - 2)) (Zh s)), c.2.2)))) (.br (!x4 || x2) (.br (x4) (.br (Zb4 x5 1) (.leaf (some ((c.1, Zp (rgx c.2.1 c.2.1.2.2.2.2.2.2.2.1 (spOf c) (ZC x5)) 2 (ZeW x5 1), c.2.2.1, false, false, c.2.2.2.2.2)))) (.leaf none)) (.leaf none)) (.leaf none))
theorem ZA4 (a : HL Zn) : Zg (envX Tryz.prog (Zav 47) [] 1023 8) Tryz.f111 Zn ZX a = ZpR a.1 a.2.1 a.2.2.1 a.2.2.2 := by kernel_rfl
def ZuZ (c : TC) (s : Int) (g : List Int) (ln : QT0) : RT (Option TC) :=
 let x1 := Za c.1 (mAt (c, s == 5, g, []) 0)
 let x2 := x1.2
 let x3 := Zp c.2.1 x2.2.2.2.1 (ZdD (c, s == 5, g, []) 1)
 let x4 := x3.2
 let x5 := x4.2
 let x6 := x5.2
 let x7 := x6.2
 let x8 := x7.2
 let x9 := x8.2
 let x10 := x9.2
 .br (Zb s) (.leaf (some ((c.1, (rgx c.2.1 c.2.1.2.2.2.2.2.2.2.1 (u16.wrap ((spOf c) - 2)) (Zh s)), c.2.2)))) (.br (!mAtC (c, s == 5, g, []) 0 || x1.1 == 4) (.br (mAtC (c, s == 5, g, []) 0) (.br (ZbD (c, s == 5, g, []) 1) (.leaf (some ((c.1, (x3.1, x4.1, x5.1, x6.1, x7.1, x8.1, x9.1, x10.1, x10.2.1, Zy (c, s == 5, g, []) x2.1), c.2.2.1, false, false, c.2.2.2.2.2)))) (.leaf none)) (.leaf none)) (.leaf none))
theorem ZDT (a : HL Zm) : Zg (envX Tryz.prog (Zau 4) [] 79250227772808467515411824639 8) Tryz.f98 Zm ZV a = ZuZ a.1 a.2.1 a.2.2.1 a.2.2.2 := by kernel_rfl
def ZuV (c : TC) (s : Int) (g : List Int) (ln : QT0) : RT (Option TC) :=
 let x1 := Za c.1 (mAt (c, s == 5, g, []) 0)
 .br (Zb s) (.leaf (some ((c.1, (rgx c.2.1 c.2.1.2.2.2.2.2.2.2.1 (u16.wrap ((spOf c) - 2)) (Zh s)), c.2.2)))) (.br (!mAtC (c, s == 5, g, []) 0 || x1.1 == 8) (.br (mAtC (c, s == 5, g, []) 0) (.leaf (some ((c.1, (rgx c.2.1 c.2.1.2.2.2.2.2.2.2.1 (spOf c) (Zy (c, s == 5, g, []) x1.2.1)), c.2.2.1, false, false, c.2.2.2.2.2)))) (.leaf none)) (.leaf none))
theorem ZDP (a : HL Zm) : Zg (envX Tryz.prog (Zau 8) [] 79250227772808467515411824639 8) Tryz.f98 Zm ZV a = ZuV a.1 a.2.1 a.2.2.1 a.2.2.2 := by kernel_rfl
def Zo7 (c : TC) (s : Int) (g : List Int) (ln : QT0) : RT (Option TC) :=
 let x1 := Za c.1 (mAt (c, s == 5, g, []) 0)
 let x2 := x1.2
 let x3 := x2.2.2
 let x4 := x3.1
 let x5 := x4 == 6
 let x6 := rDo c.1 x3.2.2.1 c.2.1.1 (bif x5 then mAt (c, s == 5, g, []) 1 else rGet c.2.1 x4) c.2.1.2.2.2.2.2.2.2.1
 .br (Zb s) (.leaf (some ((c.1, (rgx c.2.1 c.2.1.2.2.2.2.2.2.2.1 (u16.wrap ((spOf c) - 2)) (Zh s)), c.2.2)))) (.br (!mAtC (c, s == 5, g, []) 0 || x1.1 == 12) (.br (mAtC (c, s == 5, g, []) 0) (.br (!x5 || mAtC (c, s == 5, g, []) 1) (.leaf (some ((c.1, (x6.1, c.2.1.2.1, c.2.1.2.2.1, c.2.1.2.2.2.1, c.2.1.2.2.2.2.1, c.2.1.2.2.2.2.2.1, c.2.1.2.2.2.2.2.2.1, x6.2, spOf c, Zy (c, s == 5, g, []) x2.1), c.2.2.1, false, false, c.2.2.2.2.2)))) (.leaf none)) (.leaf none)) (.leaf none))
theorem ZAy (a : HL Zm) : Zg (envX Tryz.prog (Zau 12) [] 79250227772808467515411824639 8) Tryz.f98 Zm ZV a = Zo7 a.1 a.2.1 a.2.2.1 a.2.2.2 := by kernel_rfl
def Zo3 (c : TC) (s : Int) (g : List Int) (ln : QT0) : RT (Option TC) :=
 let x1 := Za c.1 (mAt (c, s == 5, g, []) 0)
 let x2 := x1.2
 let x3 := x2.2.2.2.1
 let x4 := rInx c.1 (Z7 c.2.1 x3) c.2.1.2.2.2.2.2.2.2.1
 let x5 := Zp c.2.1 x3 x4.1
 let x6 := x5.2
 let x7 := x6.2
 let x8 := x7.2
 let x9 := x8.2
 let x10 := x9.2
 let x11 := x10.2
 .br (Zb s) (.leaf (some ((c.1, (rgx c.2.1 c.2.1.2.2.2.2.2.2.2.1 (u16.wrap ((spOf c) - 2)) (Zh s)), c.2.2)))) (.br (!mAtC (c, s == 5, g, []) 0 || x1.1 == 16) (.br (mAtC (c, s == 5, g, []) 0) (.leaf (some ((c.1, (x5.1, x6.1, x7.1, x8.1, x9.1, x10.1, x11.1, x4.2, x11.2.2.1, Zy (c, s == 5, g, []) x2.1), c.2.2.1, false, false, c.2.2.2.2.2)))) (.leaf none)) (.leaf none))
theorem ZAu (a : HL Zm) : Zg (envX Tryz.prog (Zau 16) [] 79250227772808467515411824639 8) Tryz.f98 Zm ZV a = Zo3 a.1 a.2.1 a.2.2.1 a.2.2.2 := by kernel_rfl
def ZoZ (c : TC) (s : Int) (g : List Int) (ln : QT0) : RT (Option TC) :=
 let x1 := Za c.1 (mAt (c, s == 5, g, []) 0)
 .br (Zb s) (.leaf (some ((c.1, (rgx c.2.1 c.2.1.2.2.2.2.2.2.2.1 (u16.wrap ((spOf c) - 2)) (Zh s)), c.2.2)))) (.br (!mAtC (c, s == 5, g, []) 0 || x1.1 == 20) (.br (mAtC (c, s == 5, g, []) 0) (.leaf (some ((c.1, (u8.wrap (255 - c.2.1.1), c.2.1.2.1, c.2.1.2.2.1, c.2.1.2.2.2.1, c.2.1.2.2.2.2.1, c.2.1.2.2.2.2.2.1, c.2.1.2.2.2.2.2.2.1, c.2.1.2.2.2.2.2.2.2.1, spOf c, Zy (c, s == 5, g, []) x1.2.1), c.2.2.1, false, false, c.2.2.2.2.2)))) (.leaf none)) (.leaf none))
theorem ZAq (a : HL Zm) : Zg (envX Tryz.prog (Zau 20) [] 79250227772808467515411824639 8) Tryz.f98 Zm ZV a = ZoZ a.1 a.2.1 a.2.2.1 a.2.2.2 := by kernel_rfl
def ZoV (c : TC) (s : Int) (g : List Int) (ln : QT0) : RT (Option TC) :=
 let x1 := Za c.1 (mAt (c, s == 5, g, []) 0)
 let x2 := x1.2
 let x3 := !Zdx (c, s == 5, g, []) (24, x2)
 let x4 := c.2.1.2.2.2.2.2.2.2.1.2.2.1
 let x5 := c.2.1.2.2.2.2.2.2.2.1.2.2.2
 let x6 := x5.1
 let x7 := x5.2
 let x8 := x7.1
 let x9 := x7.2
 let x10 := x9.1
 let x11 := x9.2
 .br (Zb s) (.leaf (some ((c.1, (rgx c.2.1 c.2.1.2.2.2.2.2.2.2.1 (u16.wrap ((spOf c) - 2)) (Zh s)), c.2.2)))) (.br (!mAtC (c, s == 5, g, []) 0 || x1.1 == 24) (.br (mAtC (c, s == 5, g, []) 0) (.br (x3 || ZbD (c, s == 5, g, []) 1) (.leaf (some ((bif x3 then c.1 else c.1, (bif x3 then c.2.1.1 else c.2.1.1, bif x3 then c.2.1.2.1 else c.2.1.2.1, bif x3 then c.2.1.2.2.1 else c.2.1.2.2.1, bif x3 then c.2.1.2.2.2.1 else c.2.1.2.2.2.1, bif x3 then c.2.1.2.2.2.2.1 else c.2.1.2.2.2.2.1, bif x3 then c.2.1.2.2.2.2.2.1 else c.2.1.2.2.2.2.2.1, bif x3 then c.2.1.2.2.2.2.2.2.1 else c.2.1.2.2.2.2.2.2.1, (bif x3 then c.2.1.2.2.2.2.2.2.2.1.1 else c.2.1.2.2.2.2.2.2.2.1.1, bif x3 then c.2.1.2.2.2.2.2.2.2.1.2.1 else c.2.1.2.2.2.2.2.2.2.1.2.1, bif x3 then x4 else x4, bif x3 then x6 else x6, bif x3 then x8 else x8, bif x3 then x10 else x10, bif x3 then x11 else x11), bif x3 then (spOf c) else (spOf c), bif x3 then Zy (c, s == 5, g, []) x2.1 else ZdD (c, s == 5, g, []) 1), bif x3 then c.2.2.1 else c.2.2.1, false, false, bif x3 then c.2.2.2.2.2.1 else c.2.2.2.2.2.1, bif x3 then c.2.2.2.2.2.2.1 else c.2.2.2.2.2.2.1, bif x3 then c.2.2.2.2.2.2.2.1 else c.2.2.2.2.2.2.2.1, bif x3 then c.2.2.2.2.2.2.2.2.1 else c.2.2.2.2.2.2.2.2.1, bif x3 then c.2.2.2.2.2.2.2.2.2.1 else c.2.2.2.2.2.2.2.2.2.1, bif x3 then c.2.2.2.2.2.2.2.2.2.2.1 else c.2.2.2.2.2.2.2.2.2.2.1, bif x3 then c.2.2.2.2.2.2.2.2.2.2.2.1 else c.2.2.2.2.2.2.2.2.2.2.2.1, bif x3 then c.2.2.2.2.2.2.2.2.2.2.2.2 else c.2.2.2.2.2.2.2.2.2.2.2.2)))) (.leaf none)) (.leaf none)) (.leaf none))
theorem ZAm (a : HL Zm) : Zg (envX Tryz.prog (Zau 24) [] 79250227772808467515411824639 8) Tryz.f98 Zm ZV a = ZoV a.1 a.2.1 a.2.2.1 a.2.2.2 := by kernel_rfl
def ZoR (c : TC) (s : Int) (g : List Int) (ln : QT0) : RT (Option TC) :=
 let x1 := Za c.1 (mAt (c, s == 5, g, []) 0)
 .br (Zb s) (.leaf (some ((c.1, (rgx c.2.1 c.2.1.2.2.2.2.2.2.2.1 (u16.wrap ((spOf c) - 2)) (Zh s)), c.2.2)))) (.br (!mAtC (c, s == 5, g, []) 0 || x1.1 == 28) (.br (mAtC (c, s == 5, g, []) 0) (.leaf (some ((c.1, (rgx c.2.1 c.2.1.2.2.2.2.2.2.2.1 (spOf c) (Z7 (rgx c.2.1 c.2.1.2.2.2.2.2.2.2.1 (spOf c) (Zy (c, s == 5, g, []) x1.2.1)) 2)), c.2.2.1, false, false, c.2.2.2.2.2)))) (.leaf none)) (.leaf none))
theorem ZAi (a : HL Zm) : Zg (envX Tryz.prog (Zau 28) [] 79250227772808467515411824639 8) Tryz.f98 Zm ZV a = ZoR a.1 a.2.1 a.2.2.1 a.2.2.2 := by kernel_rfl
def ZoN (c : TC) (s : Int) (g : List Int) (ln : QT0) : RT (Option TC) :=
 let x1 := Za c.1 (mAt (c, s == 5, g, []) 0)
 let x2 := !mAtC (c, s == 5, g, []) 1 || mAtC (c, s == 5, g, []) 2
 let x3 := !x2 || mAtC (c, s == 5, g, []) 1
 let x4 := !x3 || x2
 .br (Zb s) (.leaf (some ((c.1, (rgx c.2.1 c.2.1.2.2.2.2.2.2.2.1 (u16.wrap ((spOf c) - 2)) (Zh s)), c.2.2)))) (.br (!mAtC (c, s == 5, g, []) 0 || x1.1 == 32) (.br (mAtC (c, s == 5, g, []) 0) (.br (!x4 || x3) (.br (x4) (.leaf (some ((c.1, (c.2.1.1, c.2.1.2.1, c.2.1.2.2.1, c.2.1.2.2.2.1, c.2.1.2.2.2.2.1, mAt (c, s == 5, g, []) 2, mAt (c, s == 5, g, []) 1, c.2.1.2.2.2.2.2.2.2.1, spOf c, Zy (c, s == 5, g, []) x1.2.1), c.2.2.1, false, false, c.2.2.2.2.2)))) (.leaf none)) (.leaf none)) (.leaf none)) (.leaf none))
theorem ZAe (a : HL Zm) : Zg (envX Tryz.prog (Zau 32) [] 79250227772808467515411824639 8) Tryz.f98 Zm ZV a = ZoN a.1 a.2.1 a.2.2.1 a.2.2.2 := by kernel_rfl
def ZoJ (c : TC) (s : Int) (g : List Int) (ln : QT0) : RT (Option TC) :=
 let x1 := Za c.1 (mAt (c, s == 5, g, []) 0)
 .br (Zb s) (.leaf (some ((c.1, (rgx c.2.1 c.2.1.2.2.2.2.2.2.2.1 (u16.wrap ((spOf c) - 2)) (Zh s)), c.2.2)))) (.br (!mAtC (c, s == 5, g, []) 0 || x1.1 == 36) (.br (mAtC (c, s == 5, g, []) 0) (.leaf (some ((c.1, (rgx c.2.1 c.2.1.2.2.2.2.2.2.2.1 (spOf c) (Zy (c, s == 5, g, []) x1.2.1)), false, false, false, c.2.2.2.2.2)))) (.leaf none)) (.leaf none))
theorem ZAa (a : HL Zm) : Zg (envX Tryz.prog (Zau 36) [] 79250227772808467515411824639 8) Tryz.f98 Zm ZV a = ZoJ a.1 a.2.1 a.2.2.1 a.2.2.2 := by kernel_rfl
def ZoF (c : TC) (s : Int) (g : List Int) (ln : QT0) : RT (Option TC) :=
 let x1 := Za c.1 (mAt (c, s == 5, g, []) 0)
 let x2 := Zp c.2.1 2 (Zr7 (Z7 c.2.1 2) (Z7 c.2.1 0)).1
 let x3 := x2.2
 let x4 := x3.2
 let x5 := x4.2
 let x6 := x5.2
 let x7 := x6.2
 let x8 := x7.2
 .br (Zb s) (.leaf (some ((c.1, (rgx c.2.1 c.2.1.2.2.2.2.2.2.2.1 (u16.wrap ((spOf c) - 2)) (Zh s)), c.2.2)))) (.br (!mAtC (c, s == 5, g, []) 0 || x1.1 == 40) (.br (mAtC (c, s == 5, g, []) 0) (.leaf (some ((c.1, (x2.1, x3.1, x4.1, x5.1, x6.1, x7.1, x8.1, (Zr7 (Z7 c.2.1 2) (Z7 c.2.1 0)).2, x8.2.2.1, Zy (c, s == 5, g, []) x1.2.1), c.2.2.1, false, false, c.2.2.2.2.2)))) (.leaf none)) (.leaf none))
theorem Zz6 (a : HL Zm) : Zg (envX Tryz.prog (Zau 40) [] 79250227772808467515411824639 8) Tryz.f98 Zm ZV a = ZoF a.1 a.2.1 a.2.2.1 a.2.2.2 := by kernel_rfl
def ZoB (c : TC) (s : Int) (g : List Int) (ln : QT0) : RT (Option TC) :=
 let x1 := Za c.1 (mAt (c, s == 5, g, []) 0)
 let x2 := Zp c.2.1 1 (u16.wrap ((spOf c) + u16.wrap (mAt (c, s == 5, g, []) 1)))
 let x3 := x2.2
 let x4 := x3.2
 let x5 := x4.2
 let x6 := x5.2
 let x7 := x6.2
 let x8 := x7.2
 let x9 := x8.2
 .br (Zb s) (.leaf (some ((c.1, (rgx c.2.1 c.2.1.2.2.2.2.2.2.2.1 (u16.wrap ((spOf c) - 2)) (Zh s)), c.2.2)))) (.br (!mAtC (c, s == 5, g, []) 0 || x1.1 == 44) (.br (mAtC (c, s == 5, g, []) 0) (.br (mAtC (c, s == 5, g, []) 1) (.leaf (some ((c.1, (x2.1, x3.1, x4.1, x5.1, x6.1, x7.1, x8.1, x9.1, x9.2.1, Zy (c, s == 5, g, []) x1.2.1), c.2.2.1, false, false, c.2.2.2.2.2)))) (.leaf none)) (.leaf none)) (.leaf none))
theorem Zz2 (a : HL Zm) : Zg (envX Tryz.prog (Zau 44) [] 79250227772808467515411824639 8) Tryz.f98 Zm ZV a = ZoB a.1 a.2.1 a.2.2.1 a.2.2.2 := by kernel_rfl
def Zwi (c : TC) (s : Int) (g : List Int) (ln : QT0) : RT (Option TC) :=
 let x1 : QT1 := (c, s == 5, g, (0, 0, 0, 0, 0, 0, 0, 0), [])
 let x2 := qAtC x1 0
 let x3 := Za c.1 (qAt x1 0)
 let x4 := !x2 || x3.1 == 4
 let x5 := x3.2
 let x6 : QT1 := (c, s == 5, g, (4, x5), [])
 .br (Zd s) (.leaf (some ((c.1, (rgx c.2.1 c.2.1.2.2.2.2.2.2.2.1 (u16.wrap ((spOf c) - 2)) (Zh s)), c.2.2)))) (.br (!x4 || x2) (.br (x4) (.br (Zb4 x6 1) (.leaf (some ((c.1, Zp (rgx c.2.1 c.2.1.2.2.2.2.2.2.2.1 (spOf c) (ZC x6)) x5.2.2.2.1 (ZeW x6 1), c.2.2.1, false, false, c.2.2.2.2.2)))) (.leaf none)) (.leaf none)) (.leaf none))
theorem ZFr (a : HL Zn) : Zg (envX Tryz.prog (Zav 4) [] 1023 8) Tryz.f111 Zn ZX a = Zwi a.1 a.2.1 a.2.2.1 a.2.2.2 := by kernel_rfl
def Zwe (c : TC) (s : Int) (g : List Int) (ln : QT0) : RT (Option TC) :=
 let x1 : QT1 := (c, s == 5, g, (0, 0, 0, 0, 0, 0, 0, 0), [])
 let x2 := qAtC x1 0
 let x3 := Za c.1 (qAt x1 0)
 let x4 := !x2 || x3.1 == 8
 .br (Zd s) (.leaf (some ((c.1, (rgx c.2.1 c.2.1.2.2.2.2.2.2.2.1 (u16.wrap ((spOf c) - 2)) (Zh s)), c.2.2)))) (.br (!x4 || x2) (.br (x4) (.leaf (some ((c.1, (rgx c.2.1 c.2.1.2.2.2.2.2.2.2.1 (spOf c) (ZC (c, s == 5, g, (8, x3.2), []))), c.2.2.1, false, false, c.2.2.2.2.2)))) (.leaf none)) (.leaf none))
theorem ZFn (a : HL Zn) : Zg (envX Tryz.prog (Zav 8) [] 1023 8) Tryz.f111 Zn ZX a = Zwe a.1 a.2.1 a.2.2.1 a.2.2.2 := by kernel_rfl
def Zqq (c : TC) (s : Int) (g : List Int) (ln : QT0) : RT (Option TC) :=
 let x1 : QT1 := (c, s == 5, g, (0, 0, 0, 0, 0, 0, 0, 0), [])
 let x2 := qAtC x1 0
 let x3 := Za c.1 (qAt x1 0)
 let x4 := !x2 || x3.1 == 12
 let x5 := x3.2
 let x6 : QT1 := (c, s == 5, g, (12, x5), [])
 let x7 := rDo c.1 x5.2.2.2.2.1 c.2.1.1 (ZgB x6) c.2.1.2.2.2.2.2.2.2.1
 .br (Zd s) (.leaf (some ((c.1, (rgx c.2.1 c.2.1.2.2.2.2.2.2.2.1 (u16.wrap ((spOf c) - 2)) (Zh s)), c.2.2)))) (.br (!x4 || x2) (.br (x4) (.br (ZeV x6) (.leaf (some ((c.1, (x7.1, c.2.1.2.1, c.2.1.2.2.1, c.2.1.2.2.2.1, c.2.1.2.2.2.2.1, c.2.1.2.2.2.2.2.1, c.2.1.2.2.2.2.2.2.1, x7.2, spOf c, ZC x6), c.2.2.1, false, false, c.2.2.2.2.2)))) (.leaf none)) (.leaf none)) (.leaf none))
theorem ZBD (a : HL Zn) : Zg (envX Tryz.prog (Zav 12) [] 1023 8) Tryz.f111 Zn ZX a = Zqq a.1 a.2.1 a.2.2.1 a.2.2.2 := by kernel_rfl
def Zqm (c : TC) (s : Int) (g : List Int) (ln : QT0) : RT (Option TC) :=
 let x1 : QT1 := (c, s == 5, g, (0, 0, 0, 0, 0, 0, 0, 0), [])
 let x2 := qAtC x1 0
 let x3 := Za c.1 (qAt x1 0)
 let x4 := !x2 || x3.1 == 16
 let x5 := x3.2
 let x6 : QT1 := (c, s == 5, g, (16, x5), [])
 let x7 := x5.2.2.2.1
 let x8 := rInx c.1 (Zdb x6 x7) c.2.1.2.2.2.2.2.2.2.1
 .br (Zd s) (.leaf (some ((c.1, (rgx c.2.1 c.2.1.2.2.2.2.2.2.2.1 (u16.wrap ((spOf c) - 2)) (Zh s)), c.2.2)))) (.br (!x4 || x2) (.br (x4) (.leaf (some ((c.1, Zp (rgx c.2.1 x8.2 (spOf c) (ZC x6)) x7 x8.1, c.2.2.1, false, false, c.2.2.2.2.2)))) (.leaf none)) (.leaf none))
theorem ZBz (a : HL Zn) : Zg (envX Tryz.prog (Zav 16) [] 1023 8) Tryz.f111 Zn ZX a = Zqm a.1 a.2.1 a.2.2.1 a.2.2.2 := by kernel_rfl
def Zqi (c : TC) (s : Int) (g : List Int) (ln : QT0) : RT (Option TC) :=
 let x1 : QT1 := (c, s == 5, g, (0, 0, 0, 0, 0, 0, 0, 0), [])
 let x2 := qAtC x1 0
 let x3 := Za c.1 (qAt x1 0)
 let x4 := !x2 || x3.1 == 20
 .br (Zd s) (.leaf (some ((c.1, (rgx c.2.1 c.2.1.2.2.2.2.2.2.2.1 (u16.wrap ((spOf c) - 2)) (Zh s)), c.2.2)))) (.br (!x4 || x2) (.br (x4) (.leaf (some ((c.1, (notI u8 c.2.1.1, c.2.1.2.1, c.2.1.2.2.1, c.2.1.2.2.2.1, c.2.1.2.2.2.2.1, c.2.1.2.2.2.2.2.1, c.2.1.2.2.2.2.2.2.1, c.2.1.2.2.2.2.2.2.2.1, spOf c, ZC (c, s == 5, g, (20, x3.2), [])), c.2.2.1, false, false, c.2.2.2.2.2)))) (.leaf none)) (.leaf none))
theorem ZBv (a : HL Zn) : Zg (envX Tryz.prog (Zav 20) [] 1023 8) Tryz.f111 Zn ZX a = Zqi a.1 a.2.1 a.2.2.1 a.2.2.2 := by kernel_rfl
def Zqe (c : TC) (s : Int) (g : List Int) (ln : QT0) : RT (Option TC) :=
 let x1 : QT1 := (c, s == 5, g, (0, 0, 0, 0, 0, 0, 0, 0), [])
 let x2 := qAtC x1 0
 let x3 := Za c.1 (qAt x1 0)
 let x4 := !x2 || x3.1 == 24
 let x5 : QT1 := (c, s == 5, g, (24, x3.2), [])
 let x6 := ZfI x5
 .br (Zd s) (.leaf (some ((c.1, (rgx c.2.1 c.2.1.2.2.2.2.2.2.2.1 (u16.wrap ((spOf c) - 2)) (Zh s)), c.2.2)))) (.br (!x4 || x2) (.br (x4) (.br (!x6 || Zb4 x5 1) (.leaf (some ((c.1, (rgx c.2.1 c.2.1.2.2.2.2.2.2.2.1 (spOf c) (bif x6 then ZeW x5 1 else ZC x5)), c.2.2.1, false, false, c.2.2.2.2.2)))) (.leaf none)) (.leaf none)) (.leaf none))
theorem ZBr (a : HL Zn) : Zg (envX Tryz.prog (Zav 24) [] 1023 8) Tryz.f111 Zn ZX a = Zqe a.1 a.2.1 a.2.2.1 a.2.2.2 := by kernel_rfl
def Zqa (c : TC) (s : Int) (g : List Int) (ln : QT0) : RT (Option TC) :=
 let x1 : QT1 := (c, s == 5, g, (0, 0, 0, 0, 0, 0, 0, 0), [])
 let x2 := qAtC x1 0
 let x3 := Za c.1 (qAt x1 0)
 let x4 := !x2 || x3.1 == 28
 .br (Zd s) (.leaf (some ((c.1, (rgx c.2.1 c.2.1.2.2.2.2.2.2.2.1 (u16.wrap ((spOf c) - 2)) (Zh s)), c.2.2)))) (.br (!x4 || x2) (.br (x4) (.leaf (some ((c.1, (rgx c.2.1 c.2.1.2.2.2.2.2.2.2.1 (spOf c) (Zdb (c, s == 5, g, (28, x3.2), []) 2)), c.2.2.1, false, false, c.2.2.2.2.2)))) (.leaf none)) (.leaf none))
theorem ZBn (a : HL Zn) : Zg (envX Tryz.prog (Zav 28) [] 1023 8) Tryz.f111 Zn ZX a = Zqa a.1 a.2.1 a.2.2.1 a.2.2.2 := by kernel_rfl
def Zp6 (c : TC) (s : Int) (g : List Int) (ln : QT0) : RT (Option TC) :=
 let x1 : QT1 := (c, s == 5, g, (0, 0, 0, 0, 0, 0, 0, 0), [])
 let x2 := qAtC x1 0
 let x3 := Za c.1 (qAt x1 0)
 let x4 := !x2 || x3.1 == 32
 let x5 : QT1 := (c, s == 5, g, (32, x3.2), [])
 .br (Zd s) (.leaf (some ((c.1, (rgx c.2.1 c.2.1.2.2.2.2.2.2.2.1 (u16.wrap ((spOf c) - 2)) (Zh s)), c.2.2)))) (.br (!x4 || x2) (.br (x4) (.br (Zb4 x5 1) (.leaf (some ((c.1, Zp (rgx c.2.1 c.2.1.2.2.2.2.2.2.2.1 (spOf c) (ZC x5)) 2 (ZeW x5 1), c.2.2.1, false, false, c.2.2.2.2.2)))) (.leaf none)) (.leaf none)) (.leaf none))
theorem ZBj (a : HL Zn) : Zg (envX Tryz.prog (Zav 32) [] 1023 8) Tryz.f111 Zn ZX a = Zp6 a.1 a.2.1 a.2.2.1 a.2.2.2 := by kernel_rfl
def Zp2 (c : TC) (s : Int) (g : List Int) (ln : QT0) : RT (Option TC) :=
 let x1 : QT1 := (c, s == 5, g, (0, 0, 0, 0, 0, 0, 0, 0), [])
 let x2 := qAtC x1 0
 let x3 := Za c.1 (qAt x1 0)
 let x4 := !x2 || x3.1 == 36
 .br (Zd s) (.leaf (some ((c.1, (rgx c.2.1 c.2.1.2.2.2.2.2.2.2.1 (u16.wrap ((spOf c) - 2)) (Zh s)), c.2.2)))) (.br (!x4 || x2) (.br (x4) (.leaf (some ((c.1, (rgx c.2.1 c.2.1.2.2.2.2.2.2.2.1 (spOf c) (ZC (c, s == 5, g, (36, x3.2), []))), false, false, false, c.2.2.2.2.2)))) (.leaf none)) (.leaf none))
theorem ZBf (a : HL Zn) : Zg (envX Tryz.prog (Zav 36) [] 1023 8) Tryz.f111 Zn ZX a = Zp2 a.1 a.2.1 a.2.2.1 a.2.2.2 := by kernel_rfl
def ZpY (c : TC) (s : Int) (g : List Int) (ln : QT0) : RT (Option TC) :=
 let x1 : QT1 := (c, s == 5, g, (0, 0, 0, 0, 0, 0, 0, 0), [])
 let x2 := qAtC x1 0
 let x3 := Za c.1 (qAt x1 0)
 let x4 := !x2 || x3.1 == 40
 let x5 : QT1 := (c, s == 5, g, (40, x3.2), [])
 let x6 := Zr7 (Zdb x5 2) (Zdb x5 0)
 .br (Zd s) (.leaf (some ((c.1, (rgx c.2.1 c.2.1.2.2.2.2.2.2.2.1 (u16.wrap ((spOf c) - 2)) (Zh s)), c.2.2)))) (.br (!x4 || x2) (.br (x4) (.leaf (some ((c.1, Zp (rgx c.2.1 x6.2 (spOf c) (ZC x5)) 2 x6.1, c.2.2.1, false, false, c.2.2.2.2.2)))) (.leaf none)) (.leaf none))
theorem ZBb (a : HL Zn) : Zg (envX Tryz.prog (Zav 40) [] 1023 8) Tryz.f111 Zn ZX a = ZpY a.1 a.2.1 a.2.2.1 a.2.2.2 := by kernel_rfl
def ZpU (c : TC) (s : Int) (g : List Int) (ln : QT0) : RT (Option TC) :=
 let x1 : QT1 := (c, s == 5, g, (0, 0, 0, 0, 0, 0, 0, 0), [])
 let x2 := qAtC x1 0
 let x3 := Za c.1 (qAt x1 0)
 let x4 := !x2 || x3.1 == 44
 let x5 : QT1 := (c, s == 5, g, (44, x3.2), [])
 .br (Zd s) (.leaf (some ((c.1, (rgx c.2.1 c.2.1.2.2.2.2.2.2.2.1 (u16.wrap ((spOf c) - 2)) (Zh s)), c.2.2)))) (.br (!x4 || x2) (.br (x4) (.br (qAtC x5 1) (.leaf (some ((c.1, Zp (rgx c.2.1 c.2.1.2.2.2.2.2.2.2.1 (spOf c) (ZC x5)) 1 (u16.wrap ((spOf c) + u16.wrap (qAt x5 1))), c.2.2.1, false, false, c.2.2.2.2.2)))) (.leaf none)) (.leaf none)) (.leaf none))
theorem ZA7 (a : HL Zn) : Zg (envX Tryz.prog (Zav 44) [] 1023 8) Tryz.f111 Zn ZX a = ZpU a.1 a.2.1 a.2.2.1 a.2.2.2 := by kernel_rfl
def Zu2 (c : TC) (s : Int) (g : List Int) (ln : QT0) : RT (Option TC) :=
 let x1 := Za c.1 (mAt (c, s == 5, g, []) 0)
 .br (Zb s) (.leaf (some ((c.1, (rgx c.2.1 c.2.1.2.2.2.2.2.2.2.1 (u16.wrap ((spOf c) - 2)) (Zh s)), c.2.2)))) (.br (!mAtC (c, s == 5, g, []) 0 || x1.1 == 1) (.br (mAtC (c, s == 5, g, []) 0) (.leaf (some ((c.1, (rgx c.2.1 c.2.1.2.2.2.2.2.2.2.1 (spOf c) (Zy (c, s == 5, g, []) x1.2.1)), c.2.2.1, false, false, c.2.2.2.2.2)))) (.leaf none)) (.leaf none))
theorem ZDW (a : HL Zm) : Zg (envX Tryz.prog (Zau 1) [] 79250227772808467515411824639 8) Tryz.f98 Zm ZV a = Zu2 a.1 a.2.1 a.2.2.1 a.2.2.2 := by kernel_rfl
def ZuY (c : TC) (s : Int) (g : List Int) (ln : QT0) : RT (Option TC) :=
 let x1 := Za c.1 (mAt (c, s == 5, g, []) 0)
 .br (Zb s) (.leaf (some ((c.1, (rgx c.2.1 c.2.1.2.2.2.2.2.2.2.1 (u16.wrap ((spOf c) - 2)) (Zh s)), c.2.2)))) (.br (!mAtC (c, s == 5, g, []) 0 || x1.1 == 5) (.br (mAtC (c, s == 5, g, []) 0) (.br (mAtC (c, s == 5, g, []) 3) (.leaf (some ((c.1, (mAt (c, s == 5, g, []) 3, c.2.1.2.1, c.2.1.2.2.1, c.2.1.2.2.2.1, c.2.1.2.2.2.2.1, c.2.1.2.2.2.2.2.1, c.2.1.2.2.2.2.2.2.1, c.2.1.2.2.2.2.2.2.2.1, spOf c, Zy (c, s == 5, g, []) x1.2.1), c.2.2.1, false, false, c.2.2.2.2.2)))) (.leaf none)) (.leaf none)) (.leaf none))
theorem ZDS (a : HL Zm) : Zg (envX Tryz.prog (Zau 5) [] 79250227772808467515411824639 8) Tryz.f98 Zm ZV a = ZuY a.1 a.2.1 a.2.2.1 a.2.2.2 := by kernel_rfl
def ZuU (c : TC) (s : Int) (g : List Int) (ln : QT0) : RT (Option TC) :=
 let x1 := Za c.1 (mAt (c, s == 5, g, []) 0)
 .br (Zb s) (.leaf (some ((c.1, (rgx c.2.1 c.2.1.2.2.2.2.2.2.2.1 (u16.wrap ((spOf c) - 2)) (Zh s)), c.2.2)))) (.br (!mAtC (c, s == 5, g, []) 0 || x1.1 == 9) (.br (mAtC (c, s == 5, g, []) 0) (.br (mAtC (c, s == 5, g, []) 1) (.leaf (some ((c.1, (mAt (c, s == 5, g, []) 1, c.2.1.2.1, c.2.1.2.2.1, c.2.1.2.2.2.1, c.2.1.2.2.2.2.1, c.2.1.2.2.2.2.2.1, c.2.1.2.2.2.2.2.2.1, c.2.1.2.2.2.2.2.2.2.1, spOf c, Zy (c, s == 5, g, []) x1.2.1), c.2.2.1, false, false, c.2.2.2.2.2)))) (.leaf none)) (.leaf none)) (.leaf none))
theorem ZDO (a : HL Zm) : Zg (envX Tryz.prog (Zau 9) [] 79250227772808467515411824639 8) Tryz.f98 Zm ZV a = ZuU a.1 a.2.1 a.2.2.1 a.2.2.2 := by kernel_rfl
def Zo6 (c : TC) (s : Int) (g : List Int) (ln : QT0) : RT (Option TC) :=
 let x1 := Za c.1 (mAt (c, s == 5, g, []) 0)
 let x2 := x1.2
 let x3 := rDo c.1 x2.2.2.2.2.1 c.2.1.1 (mAt (c, s == 5, g, []) 1) c.2.1.2.2.2.2.2.2.2.1
 .br (Zb s) (.leaf (some ((c.1, (rgx c.2.1 c.2.1.2.2.2.2.2.2.2.1 (u16.wrap ((spOf c) - 2)) (Zh s)), c.2.2)))) (.br (!mAtC (c, s == 5, g, []) 0 || x1.1 == 13) (.br (mAtC (c, s == 5, g, []) 0) (.br (mAtC (c, s == 5, g, []) 1) (.leaf (some ((c.1, (x3.1, c.2.1.2.1, c.2.1.2.2.1, c.2.1.2.2.2.1, c.2.1.2.2.2.2.1, c.2.1.2.2.2.2.2.1, c.2.1.2.2.2.2.2.2.1, x3.2, spOf c, Zy (c, s == 5, g, []) x2.1), c.2.2.1, false, false, c.2.2.2.2.2)))) (.leaf none)) (.leaf none)) (.leaf none))
theorem ZAx (a : HL Zm) : Zg (envX Tryz.prog (Zau 13) [] 79250227772808467515411824639 8) Tryz.f98 Zm ZV a = Zo6 a.1 a.2.1 a.2.2.1 a.2.2.2 := by kernel_rfl
def Zo2 (c : TC) (s : Int) (g : List Int) (ln : QT0) : RT (Option TC) :=
 let x1 := Za c.1 (mAt (c, s == 5, g, []) 0)
 let x2 := x1.2
 let x3 := x2.2.2.2.1
 let x4 := rDcx c.1 (Z7 c.2.1 x3) c.2.1.2.2.2.2.2.2.2.1
 let x5 := Zp c.2.1 x3 x4.1
 let x6 := x5.2
 let x7 := x6.2
 let x8 := x7.2
 let x9 := x8.2
 let x10 := x9.2
 let x11 := x10.2
 .br (Zb s) (.leaf (some ((c.1, (rgx c.2.1 c.2.1.2.2.2.2.2.2.2.1 (u16.wrap ((spOf c) - 2)) (Zh s)), c.2.2)))) (.br (!mAtC (c, s == 5, g, []) 0 || x1.1 == 17) (.br (mAtC (c, s == 5, g, []) 0) (.leaf (some ((c.1, (x5.1, x6.1, x7.1, x8.1, x9.1, x10.1, x11.1, x4.2, x11.2.2.1, Zy (c, s == 5, g, []) x2.1), c.2.2.1, false, false, c.2.2.2.2.2)))) (.leaf none)) (.leaf none))
theorem ZAt (a : HL Zm) : Zg (envX Tryz.prog (Zau 17) [] 79250227772808467515411824639 8) Tryz.f98 Zm ZV a = Zo2 a.1 a.2.1 a.2.2.1 a.2.2.2 := by kernel_rfl
def ZoY (c : TC) (s : Int) (g : List Int) (ln : QT0) : RT (Option TC) :=
 let x1 := Za c.1 (mAt (c, s == 5, g, []) 0)
 let x2 := c.2.1.2.2.2.2.2.2.2.1.2.2.2
 let x3 := x2.2
 .br (Zb s) (.leaf (some ((c.1, (rgx c.2.1 c.2.1.2.2.2.2.2.2.2.1 (u16.wrap ((spOf c) - 2)) (Zh s)), c.2.2)))) (.br (!mAtC (c, s == 5, g, []) 0 || x1.1 == 21) (.br (mAtC (c, s == 5, g, []) 0) (.leaf (some ((c.1, (rgx c.2.1 ((c.2.1.2.2.2.2.2.2.2.1.1, c.2.1.2.2.2.2.2.2.2.1.2.1, c.2.1.2.2.2.2.2.2.2.1.2.2.1, x2.1, x3.1, x3.2.1, true)) (spOf c) (Zy (c, s == 5, g, []) x1.2.1)), c.2.2.1, false, false, c.2.2.2.2.2)))) (.leaf none)) (.leaf none))
theorem ZAp (a : HL Zm) : Zg (envX Tryz.prog (Zau 21) [] 79250227772808467515411824639 8) Tryz.f98 Zm ZV a = ZoY a.1 a.2.1 a.2.2.1 a.2.2.2 := by kernel_rfl
def ZoU (c : TC) (s : Int) (g : List Int) (ln : QT0) : RT (Option TC) :=
 let x1 := u16.wrap ((spOf c) - 2)
 let x2 := Za c.1 (mAt (c, s == 5, g, []) 0)
 let x3 := x2.2
 let x4 := !Zdx (c, s == 5, g, []) (25, x3)
 let x5 := c.2.1.2.2.2.2.2.2.2.1.2.2.1
 let x6 := c.2.1.2.2.2.2.2.2.2.1.2.2.2
 let x7 := x6.1
 let x8 := x6.2
 let x9 := x8.1
 let x10 := x8.2
 let x11 := x10.1
 let x12 := x10.2
 .br (Zb s) (.leaf (some ((c.1, (rgx c.2.1 c.2.1.2.2.2.2.2.2.2.1 x1 (Zh s)), c.2.2)))) (.br (!mAtC (c, s == 5, g, []) 0 || x2.1 == 25) (.br (mAtC (c, s == 5, g, []) 0) (.br (x4 || ZbD (c, s == 5, g, []) 1) (.leaf (some ((bif x4 then c.1 else c.1, (bif x4 then c.2.1.1 else c.2.1.1, bif x4 then c.2.1.2.1 else c.2.1.2.1, bif x4 then c.2.1.2.2.1 else c.2.1.2.2.1, bif x4 then c.2.1.2.2.2.1 else c.2.1.2.2.2.1, bif x4 then c.2.1.2.2.2.2.1 else c.2.1.2.2.2.2.1, bif x4 then c.2.1.2.2.2.2.2.1 else c.2.1.2.2.2.2.2.1, bif x4 then c.2.1.2.2.2.2.2.2.1 else c.2.1.2.2.2.2.2.2.1, (bif x4 then c.2.1.2.2.2.2.2.2.2.1.1 else c.2.1.2.2.2.2.2.2.2.1.1, bif x4 then c.2.1.2.2.2.2.2.2.2.1.2.1 else c.2.1.2.2.2.2.2.2.2.1.2.1, bif x4 then x5 else x5, bif x4 then x7 else x7, bif x4 then x9 else x9, bif x4 then x11 else x11, bif x4 then x12 else x12), bif x4 then (spOf c) else x1, bif x4 then Zy (c, s == 5, g, []) x3.1 else ZdD (c, s == 5, g, []) 1), bif x4 then c.2.2.1 else c.2.2.1, false, false, bif x4 then c.2.2.2.2.2.1 else c.2.2.2.2.2.1, bif x4 then c.2.2.2.2.2.2.1 else c.2.2.2.2.2.2.1, bif x4 then c.2.2.2.2.2.2.2.1 else c.2.2.2.2.2.2.2.1, bif x4 then c.2.2.2.2.2.2.2.2.1 else c.2.2.2.2.2.2.2.2.1, bif x4 then c.2.2.2.2.2.2.2.2.2.1 else c.2.2.2.2.2.2.2.2.2.1, bif x4 then c.2.2.2.2.2.2.2.2.2.2.1 else c.2.2.2.2.2.2.2.2.2.2.1, bif x4 then c.2.2.2.2.2.2.2.2.2.2.2.1 else c.2.2.2.2.2.2.2.2.2.2.2.1, bif x4 then c.2.2.2.2.2.2.2.2.2.2.2.2 else c.2.2.2.2.2.2.2.2.2.2.2.2)))) (.leaf none)) (.leaf none)) (.leaf none))
theorem ZAl (a : HL Zm) : Zg (envX Tryz.prog (Zau 25) [] 79250227772808467515411824639 8) Tryz.f98 Zm ZV a = ZoU a.1 a.2.1 a.2.2.1 a.2.2.2 := by kernel_rfl
def ZoQ (c : TC) (s : Int) (g : List Int) (ln : QT0) : RT (Option TC) :=
 let x1 := Za c.1 (mAt (c, s == 5, g, []) 0)
 .br (Zb s) (.leaf (some ((c.1, (rgx c.2.1 c.2.1.2.2.2.2.2.2.2.1 (u16.wrap ((spOf c) - 2)) (Zh s)), c.2.2)))) (.br (!mAtC (c, s == 5, g, []) 0 || x1.1 == 29) (.br (mAtC (c, s == 5, g, []) 0) (.leaf (some ((c.1, (rgx c.2.1 c.2.1.2.2.2.2.2.2.2.1 (Z7 c.2.1 2) (Zy (c, s == 5, g, []) x1.2.1)), c.2.2.1, false, false, c.2.2.2.2.2)))) (.leaf none)) (.leaf none))
theorem ZAh (a : HL Zm) : Zg (envX Tryz.prog (Zau 29) [] 79250227772808467515411824639 8) Tryz.f98 Zm ZV a = ZoQ a.1 a.2.1 a.2.2.1 a.2.2.2 := by kernel_rfl
def ZoM (c : TC) (s : Int) (g : List Int) (ln : QT0) : RT (Option TC) :=
 let x1 := Za c.1 (mAt (c, s == 5, g, []) 0)
 .br (Zb s) (.leaf (some ((c.1, (rgx c.2.1 c.2.1.2.2.2.2.2.2.2.1 (u16.wrap ((spOf c) - 2)) (Zh s)), c.2.2)))) (.br (!mAtC (c, s == 5, g, []) 0 || x1.1 == 33) (.br (mAtC (c, s == 5, g, []) 0) (.br (mAtC (c, s == 5, g, []) 2) (.leaf (some ((c.1, (mAt (c, s == 5, g, []) 2, c.2.1.2.1, c.2.1.2.2.1, c.2.1.2.2.2.1, c.2.1.2.2.2.2.1, c.2.1.2.2.2.2.2.1, c.2.1.2.2.2.2.2.2.1, c.2.1.2.2.2.2.2.2.2.1, spOf c, Zy (c, s == 5, g, []) x1.2.1), c.2.2.1, false, false, c.2.2.2.2.2)))) (.leaf none)) (.leaf none)) (.leaf none))
theorem ZAd (a : HL Zm) : Zg (envX Tryz.prog (Zau 33) [] 79250227772808467515411824639 8) Tryz.f98 Zm ZV a = ZoM a.1 a.2.1 a.2.2.1 a.2.2.2 := by kernel_rfl
def ZoI (c : TC) (s : Int) (g : List Int) (ln : QT0) : RT (Option TC) :=
 let x1 := Za c.1 (mAt (c, s == 5, g, []) 0)
 .br (Zb s) (.leaf (some ((c.1, (rgx c.2.1 c.2.1.2.2.2.2.2.2.2.1 (u16.wrap ((spOf c) - 2)) (Zh s)), c.2.2)))) (.br (!mAtC (c, s == 5, g, []) 0 || x1.1 == 37) (.br (mAtC (c, s == 5, g, []) 0) (.leaf (some ((c.1, (rgx c.2.1 c.2.1.2.2.2.2.2.2.2.1 (spOf c) (Zy (c, s == 5, g, []) x1.2.1)), c.2.2.1, false, true, c.2.2.2.2.2)))) (.leaf none)) (.leaf none))
theorem Zz9 (a : HL Zm) : Zg (envX Tryz.prog (Zau 37) [] 79250227772808467515411824639 8) Tryz.f98 Zm ZV a = ZoI a.1 a.2.1 a.2.2.1 a.2.2.2 := by kernel_rfl
def ZoE (c : TC) (s : Int) (g : List Int) (ln : QT0) : RT (Option TC) :=
 let x1 := Za c.1 (mAt (c, s == 5, g, []) 0)
 let x2 : Int × Int × Int × Int × Int × TF × Int × Int := (Zp c.2.1 2 (Zpc (Z7 c.2.1 2)).1).2.2
 let x3 := x2.2
 let x4 := x3.2
 let x5 := x4.2
 let x6 := x5.2
 let x7 := x6.2
 let x8 := x7.1
 let x9 := x8.2
 let x10 := x9.2
 let x11 := x10.2
 let x12 := x11.2
 .br (Zb s) (.leaf (some ((c.1, (rgx c.2.1 c.2.1.2.2.2.2.2.2.2.1 (u16.wrap ((spOf c) - 2)) (Zh s)), c.2.2)))) (.br (!mAtC (c, s == 5, g, []) 0 || x1.1 == 41) (.br (mAtC (c, s == 5, g, []) 0) (.leaf (some ((c.1, ((Zp c.2.1 2 (Zpc (Z7 c.2.1 2)).1).1, (Zp c.2.1 2 (Zpc (Z7 c.2.1 2)).1).2.1, x2.1, x3.1, x4.1, x5.1, x6.1, (x8.1, x9.1, x10.1, x11.1, x12.1, x12.2.1, (Zpc (Z7 c.2.1 2)).2), x7.2.1, Zy (c, s == 5, g, []) x1.2.1), c.2.2.1, false, false, c.2.2.2.2.2)))) (.leaf none)) (.leaf none))
theorem Zz5 (a : HL Zm) : Zg (envX Tryz.prog (Zau 41) [] 79250227772808467515411824639 8) Tryz.f98 Zm ZV a = ZoE a.1 a.2.1 a.2.2.1 a.2.2.2 := by kernel_rfl
def ZoA (c : TC) (s : Int) (g : List Int) (ln : QT0) : RT (Option TC) :=
 let x1 := u16.wrap ((spOf c) - 2)
 let x2 := Za c.1 (mAt (c, s == 5, g, []) 0)
 let x3 := x2.2
 let x4 := !Zdx (c, s == 5, g, []) (45, x3)
 let x5 := c.2.1.2.2.2.2.2.2.2.1.2.2.1
 let x6 := c.2.1.2.2.2.2.2.2.2.1.2.2.2
 let x7 := x6.1
 let x8 := x6.2
 let x9 := x8.1
 let x10 := x8.2
 let x11 := x10.1
 let x12 := x10.2
 .br (Zb s) (.leaf (some ((c.1, (rgx c.2.1 c.2.1.2.2.2.2.2.2.2.1 x1 (Zh s)), c.2.2)))) (.br (!mAtC (c, s == 5, g, []) 0 || x2.1 == 45) (.br (mAtC (c, s == 5, g, []) 0) (.leaf (some ((bif x4 then c.1 else c.1, (bif x4 then c.2.1.1 else c.2.1.1, bif x4 then c.2.1.2.1 else c.2.1.2.1, bif x4 then c.2.1.2.2.1 else c.2.1.2.2.1, bif x4 then c.2.1.2.2.2.1 else c.2.1.2.2.2.1, bif x4 then c.2.1.2.2.2.2.1 else c.2.1.2.2.2.2.1, bif x4 then c.2.1.2.2.2.2.2.1 else c.2.1.2.2.2.2.2.1, bif x4 then c.2.1.2.2.2.2.2.2.1 else c.2.1.2.2.2.2.2.2.1, (bif x4 then c.2.1.2.2.2.2.2.2.2.1.1 else c.2.1.2.2.2.2.2.2.2.1.1, bif x4 then c.2.1.2.2.2.2.2.2.2.1.2.1 else c.2.1.2.2.2.2.2.2.2.1.2.1, bif x4 then x5 else x5, bif x4 then x7 else x7, bif x4 then x9 else x9, bif x4 then x11 else x11, bif x4 then x12 else x12), bif x4 then (spOf c) else x1, bif x4 then Zy (c, s == 5, g, []) x3.1 else 64), bif x4 then c.2.2.1 else c.2.2.1, false, false, bif x4 then c.2.2.2.2.2.1 else c.2.2.2.2.2.1, bif x4 then c.2.2.2.2.2.2.1 else c.2.2.2.2.2.2.1, bif x4 then c.2.2.2.2.2.2.2.1 else c.2.2.2.2.2.2.2.1, bif x4 then c.2.2.2.2.2.2.2.2.1 else c.2.2.2.2.2.2.2.2.1, bif x4 then c.2.2.2.2.2.2.2.2.2.1 else c.2.2.2.2.2.2.2.2.2.1, bif x4 then c.2.2.2.2.2.2.2.2.2.2.1 else c.2.2.2.2.2.2.2.2.2.2.1, bif x4 then c.2.2.2.2.2.2.2.2.2.2.2.1 else c.2.2.2.2.2.2.2.2.2.2.2.1, bif x4 then c.2.2.2.2.2.2.2.2.2.2.2.2 else c.2.2.2.2.2.2.2.2.2.2.2.2)))) (.leaf none)) (.leaf none))
theorem Zz1 (a : HL Zm) : Zg (envX Tryz.prog (Zau 45) [] 79250227772808467515411824639 8) Tryz.f98 Zm ZV a = ZoA a.1 a.2.1 a.2.2.1 a.2.2.2 := by kernel_rfl
end
end Go.Proofs.YtghoimllhpjkjaaGreat
