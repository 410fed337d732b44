/-
  What the makers of inputs make: in range, and never a panic. Conditions: none.
-/
import Derived.Test.YtghoimllhpjkjaaGreatS3D
import Derived.Test.YtghoimllhpjkjaaGreatProg
import Derived.Test.YtghoimllhpjkjaaGreatFin0
import Derived.Test.YtghoimllhpjkjaaGreatNext2
import Derived.Test.YtghoimllhpjkjaaGreatPinsEq
open Go.IntKind (u8 u16 i64)
set_option linter.unusedSimpArgs false
open Go Go.S3 Go.Proofs
set_option linter.unusedVariables false
set_option maxRecDepth 100000
namespace Go.Proofs.YtghoimllhpjkjaaGreat
noncomputable section
def ZuV (c : TC) (s : Int) (g : List Int) (ln : QT1) : RT (Option TC) :=
 let x1 : QT0 := (c, s == 5, g, (0, 0, 0, 0, 0, 0, 0, 0), [])
 let x2 := qAtC x1 0
 let x3 := Zc c.1 (qAt x1 0)
 let x4 := !x2 || x3.1 == 1
 .br (Ze s) (.leaf (some ((c.1, (rgx c.2.1 c.2.1.2.2.2.2.2.2.2.1 (u16.wrap ((spOf c) - 2)) (Zu s)), c.2.2)))) (.br (!x4 || x2) (.br (x4) (.leaf (some ((c.1, (rgx c.2.1 c.2.1.2.2.2.2.2.2.2.1 (spOf c) (Zv (c, s == 5, g, (1, x3.2), []))), c.2.2.1, false, false, c.2.2.2.2.2)))) (.leaf none)) (.leaf none))
theorem ZDu (a : HL Zl) : Zk (envX Tryz.prog (Zar 1) [] 1023 8) Tryz.f111 Zl ZV a = ZuV a.1 a.2.1 a.2.2.1 a.2.2.2 := by kernel_rfl
def ZuR (c : TC) (s : Int) (g : List Int) (ln : QT1) : RT (Option TC) :=
 let x1 : QT0 := (c, s == 5, g, (0, 0, 0, 0, 0, 0, 0, 0), [])
 let x2 := qAtC x1 0
 let x3 := Zc c.1 (qAt x1 0)
 let x4 := !x2 || x3.1 == 5
 let x5 : QT0 := (c, s == 5, g, (5, x3.2), [])
 .br (Ze s) (.leaf (some ((c.1, (rgx c.2.1 c.2.1.2.2.2.2.2.2.2.1 (u16.wrap ((spOf c) - 2)) (Zu s)), c.2.2)))) (.br (!x4 || x2) (.br (x4) (.br (qAtC x5 3) (.leaf (some ((c.1, (qAt x5 3, c.2.1.2.1, c.2.1.2.2.1, c.2.1.2.2.2.1, c.2.1.2.2.2.2.1, c.2.1.2.2.2.2.2.1, c.2.1.2.2.2.2.2.2.1, c.2.1.2.2.2.2.2.2.2.1, spOf c, Zv x5), c.2.2.1, false, false, c.2.2.2.2.2)))) (.leaf none)) (.leaf none)) (.leaf none))
theorem ZDq (a : HL Zl) : Zk (envX Tryz.prog (Zar 5) [] 1023 8) Tryz.f111 Zl ZV a = ZuR a.1 a.2.1 a.2.2.1 a.2.2.2 := by kernel_rfl
def ZuN (c : TC) (s : Int) (g : List Int) (ln : QT1) : RT (Option TC) :=
 let x1 : QT0 := (c, s == 5, g, (0, 0, 0, 0, 0, 0, 0, 0), [])
 let x2 := qAtC x1 0
 let x3 := Zc c.1 (qAt x1 0)
 let x4 := !x2 || x3.1 == 9
 let x5 : QT0 := (c, s == 5, g, (9, x3.2), [])
 .br (Ze s) (.leaf (some ((c.1, (rgx c.2.1 c.2.1.2.2.2.2.2.2.2.1 (u16.wrap ((spOf c) - 2)) (Zu s)), c.2.2)))) (.br (!x4 || x2) (.br (x4) (.br (qAtC x5 1) (.leaf (some ((c.1, (qAt x5 1, c.2.1.2.1, c.2.1.2.2.1, c.2.1.2.2.2.1, c.2.1.2.2.2.2.1, c.2.1.2.2.2.2.2.1, c.2.1.2.2.2.2.2.2.1, c.2.1.2.2.2.2.2.2.2.1, spOf c, Zv x5), c.2.2.1, false, false, c.2.2.2.2.2)))) (.leaf none)) (.leaf none)) (.leaf none))
theorem ZDm (a : HL Zl) : Zk (envX Tryz.prog (Zar 9) [] 1023 8) Tryz.f111 Zl ZV a = ZuN a.1 a.2.1 a.2.2.1 a.2.2.2 := by kernel_rfl
def Zpf (c : TC) (s : Int) (g : List Int) (ln : QT1) : RT (Option TC) :=
 let x1 : QT0 := (c, s == 5, g, (0, 0, 0, 0, 0, 0, 0, 0), [])
 let x2 := qAtC x1 0
 let x3 := Zc c.1 (qAt x1 0)
 let x4 := !x2 || x3.1 == 13
 let x5 := x3.2
 let x6 : QT0 := (c, s == 5, g, (13, x5), [])
 let x7 := rDo c.1 x5.2.2.2.2.1 c.2.1.1 (Zgg x6) c.2.1.2.2.2.2.2.2.2.1
 .br (Ze s) (.leaf (some ((c.1, (rgx c.2.1 c.2.1.2.2.2.2.2.2.2.1 (u16.wrap ((spOf c) - 2)) (Zu s)), c.2.2)))) (.br (!x4 || x2) (.br (x4) (.br (ZeB x6) (.leaf (some ((c.1, (x7.1, c.2.1.2.1, c.2.1.2.2.1, c.2.1.2.2.2.1, c.2.1.2.2.2.2.1, c.2.1.2.2.2.2.2.1, c.2.1.2.2.2.2.2.2.1, x7.2, spOf c, Zv x6), c.2.2.1, false, false, c.2.2.2.2.2)))) (.leaf none)) (.leaf none)) (.leaf none))
theorem ZzI (a : HL Zl) : Zk (envX Tryz.prog (Zar 13) [] 1023 8) Tryz.f111 Zl ZV a = Zpf a.1 a.2.1 a.2.2.1 a.2.2.2 := by kernel_rfl
def Zpb (c : TC) (s : Int) (g : List Int) (ln : QT1) : RT (Option TC) :=
 let x1 : QT0 := (c, s == 5, g, (0, 0, 0, 0, 0, 0, 0, 0), [])
 let x2 := qAtC x1 0
 let x3 := Zc c.1 (qAt x1 0)
 let x4 := !x2 || x3.1 == 17
 let x5 := x3.2
 let x6 : QT0 := (c, s == 5, g, (17, x5), [])
 let x7 := x5.2.2.2.1
 let x8 := rDcx c.1 (Zc3 x6 x7) c.2.1.2.2.2.2.2.2.2.1
 .br (Ze s) (.leaf (some ((c.1, (rgx c.2.1 c.2.1.2.2.2.2.2.2.2.1 (u16.wrap ((spOf c) - 2)) (Zu s)), c.2.2)))) (.br (!x4 || x2) (.br (x4) (.leaf (some ((c.1, ZS (rgx c.2.1 x8.2 (spOf c) (Zv x6)) x7 x8.1, c.2.2.1, false, false, c.2.2.2.2.2)))) (.leaf none)) (.leaf none))
theorem ZzE (a : HL Zl) : Zk (envX Tryz.prog (Zar 17) [] 1023 8) Tryz.f111 Zl ZV a = Zpb a.1 a.2.1 a.2.2.1 a.2.2.2 := by kernel_rfl
def Zo7 (c : TC) (s : Int) (g : List Int) (ln : QT1) : RT (Option TC) :=
 let x1 : QT0 := (c, s == 5, g, (0, 0, 0, 0, 0, 0, 0, 0), [])
 let x2 := qAtC x1 0
 let x3 := Zc c.1 (qAt x1 0)
 let x4 := !x2 || x3.1 == 21
 let x5 := c.2.1.2.2.2.2.2.2.2.1.2.2.2
 let x6 := x5.2
 .br (Ze s) (.leaf (some ((c.1, (rgx c.2.1 c.2.1.2.2.2.2.2.2.2.1 (u16.wrap ((spOf c) - 2)) (Zu s)), c.2.2)))) (.br (!x4 || x2) (.br (x4) (.leaf (some ((c.1, (rgx c.2.1 ((c.2.1.2.2.2.2.2.2.2.1.1, c.2.1.2.2.2.2.2.2.2.1.2.1, c.2.1.2.2.2.2.2.2.2.1.2.2.1, x5.1, x6.1, x6.2.1, true)) (spOf c) (Zv (c, s == 5, g, (21, x3.2), []))), c.2.2.1, false, false, c.2.2.2.2.2)))) (.leaf none)) (.leaf none))
theorem ZzA (a : HL Zl) : Zk (envX Tryz.prog (Zar 21) [] 1023 8) Tryz.f111 Zl ZV a = Zo7 a.1 a.2.1 a.2.2.1 a.2.2.2 := by kernel_rfl
def Zo3 (c : TC) (s : Int) (g : List Int) (ln : QT1) : RT (Option TC) :=
 let x1 := u16.wrap ((spOf c) - 2)
 let x2 : QT0 := (c, s == 5, g, (0, 0, 0, 0, 0, 0, 0, 0), [])
 let x3 := qAtC x2 0
 let x4 := Zc c.1 (qAt x2 0)
 let x5 := !x3 || x4.1 == 25
 let x6 : QT0 := (c, s == 5, g, (25, x4.2), [])
 let x7 := Zfr x6
 .br (Ze s) (.leaf (some ((c.1, (rgx c.2.1 c.2.1.2.2.2.2.2.2.2.1 x1 (Zu s)), c.2.2)))) (.br (!x5 || x3) (.br (x5) (.br (!x7 || ZbY x6 1) (.leaf (some ((c.1, (rgx c.2.1 c.2.1.2.2.2.2.2.2.2.1 (bif x7 then x1 else (spOf c)) (bif x7 then ZeC x6 1 else Zv x6)), c.2.2.1, false, false, c.2.2.2.2.2)))) (.leaf none)) (.leaf none)) (.leaf none))
theorem Zzw (a : HL Zl) : Zk (envX Tryz.prog (Zar 25) [] 1023 8) Tryz.f111 Zl ZV a = Zo3 a.1 a.2.1 a.2.2.1 a.2.2.2 := by kernel_rfl
def ZoZ (c : TC) (s : Int) (g : List Int) (ln : QT1) : RT (Option TC) :=
 let x1 : QT0 := (c, s == 5, g, (0, 0, 0, 0, 0, 0, 0, 0), [])
 let x2 := qAtC x1 0
 let x3 := Zc c.1 (qAt x1 0)
 let x4 := !x2 || x3.1 == 29
 let x5 : QT0 := (c, s == 5, g, (29, x3.2), [])
 .br (Ze s) (.leaf (some ((c.1, (rgx c.2.1 c.2.1.2.2.2.2.2.2.2.1 (u16.wrap ((spOf c) - 2)) (Zu s)), c.2.2)))) (.br (!x4 || x2) (.br (x4) (.leaf (some ((c.1, (rgx c.2.1 c.2.1.2.2.2.2.2.2.2.1 (Zc3 x5 2) (Zv x5)), c.2.2.1, false, false, c.2.2.2.2.2)))) (.leaf none)) (.leaf none))
theorem Zzs (a : HL Zl) : Zk (envX Tryz.prog (Zar 29) [] 1023 8) Tryz.f111 Zl ZV a = ZoZ a.1 a.2.1 a.2.2.1 a.2.2.2 := by kernel_rfl
def ZoV (c : TC) (s : Int) (g : List Int) (ln : QT1) : RT (Option TC) :=
 let x1 : QT0 := (c, s == 5, g, (0, 0, 0, 0, 0, 0, 0, 0), [])
 let x2 := qAtC x1 0
 let x3 := Zc c.1 (qAt x1 0)
 let x4 := !x2 || x3.1 == 33
 let x5 : QT0 := (c, s == 5, g, (33, x3.2), [])
 .br (Ze s) (.leaf (some ((c.1, (rgx c.2.1 c.2.1.2.2.2.2.2.2.2.1 (u16.wrap ((spOf c) - 2)) (Zu s)), c.2.2)))) (.br (!x4 || x2) (.br (x4) (.br (qAtC x5 2) (.leaf (some ((c.1, (qAt x5 2, c.2.1.2.1, c.2.1.2.2.1, c.2.1.2.2.2.1, c.2.1.2.2.2.2.1, c.2.1.2.2.2.2.2.1, c.2.1.2.2.2.2.2.2.1, c.2.1.2.2.2.2.2.2.2.1, spOf c, Zv x5), c.2.2.1, false, false, c.2.2.2.2.2)))) (.leaf none)) (.leaf none)) (.leaf none))
theorem Zzo (a : HL Zl) : Zk (envX Tryz.prog (Zar 33) [] 1023 8) Tryz.f111 Zl ZV a = ZoV a.1 a.2.1 a.2.2.1 a.2.2.2 := by kernel_rfl
def ZoR (c : TC) (s : Int) (g : List Int) (ln : QT1) : RT (Option TC) :=
 let x1 : QT0 := (c, s == 5, g, (0, 0, 0, 0, 0, 0, 0, 0), [])
 let x2 := qAtC x1 0
 let x3 := Zc c.1 (qAt x1 0)
 let x4 := !x2 || x3.1 == 37
 .br (Ze s) (.leaf (some ((c.1, (rgx c.2.1 c.2.1.2.2.2.2.2.2.2.1 (u16.wrap ((spOf c) - 2)) (Zu s)), c.2.2)))) (.br (!x4 || x2) (.br (x4) (.leaf (some ((c.1, (rgx c.2.1 c.2.1.2.2.2.2.2.2.2.1 (spOf c) (Zv (c, s == 5, g, (37, x3.2), []))), c.2.2.1, false, true, c.2.2.2.2.2)))) (.leaf none)) (.leaf none))
theorem Zzk (a : HL Zl) : Zk (envX Tryz.prog (Zar 37) [] 1023 8) Tryz.f111 Zl ZV a = ZoR a.1 a.2.1 a.2.2.1 a.2.2.2 := by kernel_rfl
def ZoN (c : TC) (s : Int) (g : List Int) (ln : QT1) : RT (Option TC) :=
 let x1 : QT0 := (c, s == 5, g, (0, 0, 0, 0, 0, 0, 0, 0), [])
 let x2 := qAtC x1 0
 let x3 := Zc c.1 (qAt x1 0)
 let x4 := !x2 || x3.1 == 41
 let x5 := c.2.1.2.2.2.2.2.2.2.1.2.2.2
 let x6 := x5.2
 let x7 : QT0 := (c, s == 5, g, (41, x3.2), [])
 let x8 := ZGi (Zc3 x7 2)
 .br (Ze s) (.leaf (some ((c.1, (rgx c.2.1 c.2.1.2.2.2.2.2.2.2.1 (u16.wrap ((spOf c) - 2)) (Zu s)), c.2.2)))) (.br (!x4 || x2) (.br (x4) (.leaf (some ((c.1, ZS (rgx c.2.1 ((c.2.1.2.2.2.2.2.2.2.1.1, c.2.1.2.2.2.2.2.2.2.1.2.1, c.2.1.2.2.2.2.2.2.2.1.2.2.1, x5.1, x6.1, x6.2.1, x8.2)) (spOf c) (Zv x7)) 2 x8.1, c.2.2.1, false, false, c.2.2.2.2.2)))) (.leaf none)) (.leaf none))
theorem Zzg (a : HL Zl) : Zk (envX Tryz.prog (Zar 41) [] 1023 8) Tryz.f111 Zl ZV a = ZoN a.1 a.2.1 a.2.2.1 a.2.2.2 := by kernel_rfl
def ZoJ (c : TC) (s : Int) (g : List Int) (ln : QT1) : RT (Option TC) :=
 let x1 := u16.wrap ((spOf c) - 2)
 let x2 : QT0 := (c, s == 5, g, (0, 0, 0, 0, 0, 0, 0, 0), [])
 let x3 := qAtC x2 0
 let x4 := Zc c.1 (qAt x2 0)
 let x5 := !x3 || x4.1 == 45
 let x6 : QT0 := (c, s == 5, g, (45, x4.2), [])
 let x7 := Zfr x6
 .br (Ze s) (.leaf (some ((c.1, (rgx c.2.1 c.2.1.2.2.2.2.2.2.2.1 x1 (Zu s)), c.2.2)))) (.br (!x5 || x3) (.br (x5) (.leaf (some ((c.1, (rgx c.2.1 c.2.1.2.2.2.2.2.2.2.1 (bif x7 then x1 else (spOf c)) (bif x7 then 64 else Zv x6)), c.2.2.1, false, false, c.2.2.2.2.2)))) (.leaf none)) (.leaf none))
theorem Zzc (a : HL Zl) : Zk (envX Tryz.prog (Zar 45) [] 1023 8) Tryz.f111 Zl ZV a = ZoJ a.1 a.2.1 a.2.2.1 a.2.2.2 := by kernel_rfl
def ZuU (c : TC) (s : Int) (g : List Int) (ln : QT1) : RT (Option TC) :=
 let x1 : QT0 := (c, s == 5, g, (0, 0, 0, 0, 0, 0, 0, 0), [])
 let x2 := qAtC x1 0
 let x3 := Zc c.1 (qAt x1 0)
 let x4 := !x2 || x3.1 == 2
 let x5 := x3.2
 let x6 := x5.2
 let x7 := x6.2.1
 let x8 := x7 == 6
 let x9 : QT0 := (c, s == 5, g, (2, x5), [])
 .br (Ze s) (.leaf (some ((c.1, (rgx c.2.1 c.2.1.2.2.2.2.2.2.2.1 (u16.wrap ((spOf c) - 2)) (Zu s)), c.2.2)))) (.br (!x4 || x2) (.br (x4) (.br (!x8 || qAtC x9 1) (.leaf (some ((c.1, rSet (rgx c.2.1 c.2.1.2.2.2.2.2.2.2.1 (spOf c) (Zv x9)) x6.1 (bif x8 then qAt x9 1 else qReg x9 x7), c.2.2.1, false, false, c.2.2.2.2.2)))) (.leaf none)) (.leaf none)) (.leaf none))
theorem ZDt (a : HL Zl) : Zk (envX Tryz.prog (Zar 2) [] 1023 8) Tryz.f111 Zl ZV a = ZuU a.1 a.2.1 a.2.2.1 a.2.2.2 := by kernel_rfl
def ZuQ (c : TC) (s : Int) (g : List Int) (ln : QT1) : RT (Option TC) :=
 let x1 : QT0 := (c, s == 5, g, (0, 0, 0, 0, 0, 0, 0, 0), [])
 let x2 := qAtC x1 0
 let x3 := Zc c.1 (qAt x1 0)
 let x4 := !x2 || x3.1 == 6
 .br (Ze s) (.leaf (some ((c.1, (rgx c.2.1 c.2.1.2.2.2.2.2.2.2.1 (u16.wrap ((spOf c) - 2)) (Zu s)), c.2.2)))) (.br (!x4 || x2) (.br (x4) (.leaf (some ((c.1, (rgx c.2.1 c.2.1.2.2.2.2.2.2.2.1 (spOf c) (Zv (c, s == 5, g, (6, x3.2), []))), c.2.2.1, false, false, c.2.2.2.2.2)))) (.leaf none)) (.leaf none))
theorem ZDp (a : HL Zl) : Zk (envX Tryz.prog (Zar 6) [] 1023 8) Tryz.f111 Zl ZV a = ZuQ a.1 a.2.1 a.2.2.1 a.2.2.2 := by kernel_rfl
def Zpi (c : TC) (s : Int) (g : List Int) (ln : QT1) : RT (Option TC) :=
 let x1 : QT0 := (c, s == 5, g, (0, 0, 0, 0, 0, 0, 0, 0), [])
 let x2 := qAtC x1 0
 let x3 := Zc c.1 (qAt x1 0)
 let x4 := !x2 || x3.1 == 10
 .br (Ze s) (.leaf (some ((c.1, (rgx c.2.1 c.2.1.2.2.2.2.2.2.2.1 (u16.wrap ((spOf c) - 2)) (Zu s)), c.2.2)))) (.br (!x4 || x2) (.br (x4) (.leaf (some ((c.1, (rgx c.2.1 c.2.1.2.2.2.2.2.2.2.1 (spOf c) (Zv (c, s == 5, g, (10, x3.2), []))), c.2.2.1, false, false, c.2.2.2.2.2)))) (.leaf none)) (.leaf none))
theorem ZzL (a : HL Zl) : Zk (envX Tryz.prog (Zar 10) [] 1023 8) Tryz.f111 Zl ZV a = Zpi a.1 a.2.1 a.2.2.1 a.2.2.2 := by kernel_rfl
def Zpe (c : TC) (s : Int) (g : List Int) (ln : QT1) : RT (Option TC) :=
 let x1 : QT0 := (c, s == 5, g, (0, 0, 0, 0, 0, 0, 0, 0), [])
 let x2 := qAtC x1 0
 let x3 := Zc c.1 (qAt x1 0)
 let x4 := !x2 || x3.1 == 14
 let x5 := x3.2
 let x6 := x5.2.1
 let x7 := x6 == 6
 let x8 : QT0 := (c, s == 5, g, (14, x5), [])
 let x9 := rInr c.1 (bif x7 then qAt x8 1 else qReg x8 x6) c.2.1.2.2.2.2.2.2.2.1
 .br (Ze s) (.leaf (some ((c.1, (rgx c.2.1 c.2.1.2.2.2.2.2.2.2.1 (u16.wrap ((spOf c) - 2)) (Zu s)), c.2.2)))) (.br (!x4 || x2) (.br (x4) (.br (!x7 || qAtC x8 1) (.leaf (some ((c.1, rSet (rgx c.2.1 x9.2 (spOf c) (Zv x8)) x6 x9.1, c.2.2.1, false, false, c.2.2.2.2.2)))) (.leaf none)) (.leaf none)) (.leaf none))
theorem ZzH (a : HL Zl) : Zk (envX Tryz.prog (Zar 14) [] 1023 8) Tryz.f111 Zl ZV a = Zpe a.1 a.2.1 a.2.2.1 a.2.2.2 := by kernel_rfl
def Zpa (c : TC) (s : Int) (g : List Int) (ln : QT1) : RT (Option TC) :=
 let x1 : QT0 := (c, s == 5, g, (0, 0, 0, 0, 0, 0, 0, 0), [])
 let x2 := qAtC x1 0
 let x3 := Zc c.1 (qAt x1 0)
 let x4 := !x2 || x3.1 == 18
 let x5 := x3.2
 let x6 : QT0 := (c, s == 5, g, (18, x5), [])
 let x7 := rDad c.1 (Zc3 x6 2) (Zc3 x6 x5.2.2.2.1) c.2.1.2.2.2.2.2.2.2.1
 .br (Ze s) (.leaf (some ((c.1, (rgx c.2.1 c.2.1.2.2.2.2.2.2.2.1 (u16.wrap ((spOf c) - 2)) (Zu s)), c.2.2)))) (.br (!x4 || x2) (.br (x4) (.leaf (some ((c.1, ZS (rgx c.2.1 x7.2 (spOf c) (Zv x6)) 2 x7.1, c.2.2.1, false, false, c.2.2.2.2.2)))) (.leaf none)) (.leaf none))
theorem ZzD (a : HL Zl) : Zk (envX Tryz.prog (Zar 18) [] 1023 8) Tryz.f111 Zl ZV a = Zpa a.1 a.2.1 a.2.2.1 a.2.2.2 := by kernel_rfl
def Zo6 (c : TC) (s : Int) (g : List Int) (ln : QT1) : RT (Option TC) :=
 let x1 : QT0 := (c, s == 5, g, (0, 0, 0, 0, 0, 0, 0, 0), [])
 let x2 := qAtC x1 0
 let x3 := Zc c.1 (qAt x1 0)
 let x4 := !x2 || x3.1 == 22
 let x5 := c.2.1.2.2.2.2.2.2.2.1.2.2.2
 let x6 := x5.2
 let x7 := x6.2
 .br (Ze s) (.leaf (some ((c.1, (rgx c.2.1 c.2.1.2.2.2.2.2.2.2.1 (u16.wrap ((spOf c) - 2)) (Zu s)), c.2.2)))) (.br (!x4 || x2) (.br (x4) (.leaf (some ((c.1, (rgx c.2.1 ((c.2.1.2.2.2.2.2.2.2.1.1, c.2.1.2.2.2.2.2.2.2.1.2.1, c.2.1.2.2.2.2.2.2.2.1.2.2.1, x5.1, x6.1, x7.1, !x7.2)) (spOf c) (Zv (c, s == 5, g, (22, x3.2), []))), c.2.2.1, false, false, c.2.2.2.2.2)))) (.leaf none)) (.leaf none))
theorem Zzz (a : HL Zl) : Zk (envX Tryz.prog (Zar 22) [] 1023 8) Tryz.f111 Zl ZV a = Zo6 a.1 a.2.1 a.2.2.1 a.2.2.2 := by kernel_rfl
def Zo2 (c : TC) (s : Int) (g : List Int) (ln : QT1) : RT (Option TC) :=
 let x1 : QT0 := (c, s == 5, g, (0, 0, 0, 0, 0, 0, 0, 0), [])
 let x2 := qAtC x1 0
 let x3 := Zc c.1 (qAt x1 0)
 let x4 := !x2 || x3.1 == 26
 let x5 : QT0 := (c, s == 5, g, (26, x3.2), [])
 let x6 := Zfr x5
 .br (Ze s) (.leaf (some ((c.1, (rgx c.2.1 c.2.1.2.2.2.2.2.2.2.1 (u16.wrap ((spOf c) - 2)) (Zu s)), c.2.2)))) (.br (!x4 || x2) (.br (x4) (.br (!x6 || ZbY x5 1) (.leaf (some ((c.1, (rgx c.2.1 c.2.1.2.2.2.2.2.2.2.1 (bif x6 then u16.wrap ((spOf c) + 2) else (spOf c)) (bif x6 then ZeC x5 1 else Zv x5)), c.2.2.1, false, false, c.2.2.2.2.2)))) (.leaf none)) (.leaf none)) (.leaf none))
theorem Zzv (a : HL Zl) : Zk (envX Tryz.prog (Zar 26) [] 1023 8) Tryz.f111 Zl ZV a = Zo2 a.1 a.2.1 a.2.2.1 a.2.2.2 := by kernel_rfl
def ZoY (c : TC) (s : Int) (g : List Int) (ln : QT1) : RT (Option TC) :=
 let x1 := u16.wrap ((spOf c) - 2)
 let x2 : QT0 := (c, s == 5, g, (0, 0, 0, 0, 0, 0, 0, 0), [])
 let x3 := qAtC x2 0
 let x4 := Zc c.1 (qAt x2 0)
 let x5 := !x3 || x4.1 == 30
 .br (Ze s) (.leaf (some ((c.1, (rgx c.2.1 c.2.1.2.2.2.2.2.2.2.1 x1 (Zu s)), c.2.2)))) (.br (!x5 || x3) (.br (x5) (.leaf (some ((c.1, (rgx c.2.1 c.2.1.2.2.2.2.2.2.2.1 x1 (Zv (c, s == 5, g, (30, x4.2), []))), c.2.2.1, false, false, c.2.2.2.2.2)))) (.leaf none)) (.leaf none))
theorem Zzr (a : HL Zl) : Zk (envX Tryz.prog (Zar 30) [] 1023 8) Tryz.f111 Zl ZV a = ZoY a.1 a.2.1 a.2.2.1 a.2.2.2 := by kernel_rfl
def ZoU (c : TC) (s : Int) (g : List Int) (ln : QT1) : RT (Option TC) :=
 let x1 : QT0 := (c, s == 5, g, (0, 0, 0, 0, 0, 0, 0, 0), [])
 let x2 := qAtC x1 0
 let x3 := Zc c.1 (qAt x1 0)
 let x4 := !x2 || x3.1 == 34
 .br (Ze s) (.leaf (some ((c.1, (rgx c.2.1 c.2.1.2.2.2.2.2.2.2.1 (u16.wrap ((spOf c) - 2)) (Zu s)), c.2.2)))) (.br (!x4 || x2) (.br (x4) (.leaf (some ((c.1, (rgx c.2.1 c.2.1.2.2.2.2.2.2.2.1 (spOf c) (Zv (c, s == 5, g, (34, x3.2), []))), c.2.2.1, false, false, c.2.2.2.2.2)))) (.leaf none)) (.leaf none))
theorem Zzn (a : HL Zl) : Zk (envX Tryz.prog (Zar 34) [] 1023 8) Tryz.f111 Zl ZV a = ZoU a.1 a.2.1 a.2.2.1 a.2.2.2 := by kernel_rfl
def ZoQ (c : TC) (s : Int) (g : List Int) (ln : QT1) : RT (Option TC) :=
 let x1 : QT0 := (c, s == 5, g, (0, 0, 0, 0, 0, 0, 0, 0), [])
 let x2 := qAtC x1 0
 let x3 := Zc c.1 (qAt x1 0)
 let x4 := !x2 || x3.1 == 38
 let x5 := rRim (c.1, (rgx c.2.1 c.2.1.2.2.2.2.2.2.2.1 (spOf c) (Zv (c, s == 5, g, (38, x3.2), []))), c.2.2.1, 38 == 35, 38 == 37, c.2.2.2.2.2) ln
 let x6 := x5.2
 let x7 := x6.2
 let x8 := x7.2
 let x9 := x8.2.2.2
 let x10 := x9.2
 let x11 := x10.2
 let x12 := x11.2
 let x13 := x12.2
 .br (Ze s) (.leaf (some ((c.1, (rgx c.2.1 c.2.1.2.2.2.2.2.2.2.1 (u16.wrap ((spOf c) - 2)) (Zu s)), c.2.2)))) (.br (!x4 || x2) (.br (x4) (.leaf (some ((x6.1, (x5.1, x7.1.2), x8.1, false, false, x9.1, x10.1, x11.1, x12.1, x13.1, false, false, x13.2.2.2)))) (.leaf none)) (.leaf none))
theorem Zzj (a : HL Zl) : Zk (envX Tryz.prog (Zar 38) [] 1023 8) Tryz.f111 Zl ZV a = ZoQ a.1 a.2.1 a.2.2.1 a.2.2.2 := by kernel_rfl
def ZoM (c : TC) (s : Int) (g : List Int) (ln : QT1) : RT (Option TC) :=
 let x1 : QT0 := (c, s == 5, g, (0, 0, 0, 0, 0, 0, 0, 0), [])
 let x2 := qAtC x1 0
 let x3 := Zc c.1 (qAt x1 0)
 let x4 := !x2 || x3.1 == 42
 let x5 := c.2.1.2.2.2.2.2.2.2.1.2.2.2
 let x6 := x5.2
 let x7 : QT0 := (c, s == 5, g, (42, x3.2), [])
 let x8 := ZBq (Zc3 x7 1) x6.2.2
 let x9 := x8.2
 .br (Ze s) (.leaf (some ((c.1, (rgx c.2.1 c.2.1.2.2.2.2.2.2.2.1 (u16.wrap ((spOf c) - 2)) (Zu s)), c.2.2)))) (.br (!x4 || x2) (.br (x4) (.leaf (some ((c.1, ZS (rgx c.2.1 ((c.2.1.2.2.2.2.2.2.2.1.1, c.2.1.2.2.2.2.2.2.2.1.2.1, c.2.1.2.2.2.2.2.2.2.1.2.2.1, x5.1, x6.1, x9.2, x9.1)) (spOf c) (Zv x7)) 1 x8.1, c.2.2.1, false, false, c.2.2.2.2.2)))) (.leaf none)) (.leaf none))
theorem Zzf (a : HL Zl) : Zk (envX Tryz.prog (Zar 42) [] 1023 8) Tryz.f111 Zl ZV a = ZoM a.1 a.2.1 a.2.2.1 a.2.2.2 := by kernel_rfl
def ZoI (c : TC) (s : Int) (g : List Int) (ln : QT1) : RT (Option TC) :=
 let x1 : QT0 := (c, s == 5, g, (0, 0, 0, 0, 0, 0, 0, 0), [])
 let x2 := qAtC x1 0
 let x3 := Zc c.1 (qAt x1 0)
 let x4 := !x2 || x3.1 == 46
 .br (Ze s) (.leaf (some ((c.1, (rgx c.2.1 c.2.1.2.2.2.2.2.2.2.1 (u16.wrap ((spOf c) - 2)) (Zu s)), c.2.2)))) (.br (!x4 || x2) (.br (x4) (.leaf (some ((c.1, (rgx c.2.1 c.2.1.2.2.2.2.2.2.2.1 (spOf c) (Zv (c, s == 5, g, (46, x3.2), []))), c.2.2.1, false, false, c.2.2.2.2.2)))) (.leaf none)) (.leaf none))
theorem Zzb (a : HL Zl) : Zk (envX Tryz.prog (Zar 46) [] 1023 8) Tryz.f111 Zl ZV a = ZoI a.1 a.2.1 a.2.2.1 a.2.2.2 := by kernel_rfl
def ZuT (c : TC) (s : Int) (g : List Int) (ln : QT1) : RT (Option TC) :=
 let x1 : QT0 := (c, s == 5, g, (0, 0, 0, 0, 0, 0, 0, 0), [])
 let x2 := qAtC x1 0
 let x3 := Zc c.1 (qAt x1 0)
 let x4 := !x2 || x3.1 == 3
 let x5 := x3.2
 let x6 : QT0 := (c, s == 5, g, (3, x5), [])
 .br (Ze s) (.leaf (some ((c.1, (rgx c.2.1 c.2.1.2.2.2.2.2.2.2.1 (u16.wrap ((spOf c) - 2)) (Zu s)), c.2.2)))) (.br (!x4 || x2) (.br (x4) (.br (qAtC x6 1) (.leaf (some ((c.1, rSet (rgx c.2.1 c.2.1.2.2.2.2.2.2.2.1 (spOf c) (Zv x6)) x5.2.1 (qAt x6 1), c.2.2.1, false, false, c.2.2.2.2.2)))) (.leaf none)) (.leaf none)) (.leaf none))
theorem ZDs (a : HL Zl) : Zk (envX Tryz.prog (Zar 3) [] 1023 8) Tryz.f111 Zl ZV a = ZuT a.1 a.2.1 a.2.2.1 a.2.2.2 := by kernel_rfl
def ZuP (c : TC) (s : Int) (g : List Int) (ln : QT1) : RT (Option TC) :=
 let x1 : QT0 := (c, s == 5, g, (0, 0, 0, 0, 0, 0, 0, 0), [])
 let x2 := qAtC x1 0
 let x3 := Zc c.1 (qAt x1 0)
 let x4 := !x2 || x3.1 == 7
 let x5 : QT0 := (c, s == 5, g, (7, x3.2), [])
 .br (Ze s) (.leaf (some ((c.1, (rgx c.2.1 c.2.1.2.2.2.2.2.2.2.1 (u16.wrap ((spOf c) - 2)) (Zu s)), c.2.2)))) (.br (!x4 || x2) (.br (x4) (.br (ZbY x5 3) (.leaf (some ((c.1, ZS (rgx c.2.1 c.2.1.2.2.2.2.2.2.2.1 (spOf c) (Zv x5)) 2 (ZeC x5 3), c.2.2.1, false, false, c.2.2.2.2.2)))) (.leaf none)) (.leaf none)) (.leaf none))
theorem ZDo (a : HL Zl) : Zk (envX Tryz.prog (Zar 7) [] 1023 8) Tryz.f111 Zl ZV a = ZuP a.1 a.2.1 a.2.2.1 a.2.2.2 := by kernel_rfl
def Zph (c : TC) (s : Int) (g : List Int) (ln : QT1) : RT (Option TC) :=
 let x1 : QT0 := (c, s == 5, g, (0, 0, 0, 0, 0, 0, 0, 0), [])
 let x2 := qAtC x1 0
 let x3 := Zc c.1 (qAt x1 0)
 let x4 := !x2 || x3.1 == 11
 .br (Ze s) (.leaf (some ((c.1, (rgx c.2.1 c.2.1.2.2.2.2.2.2.2.1 (u16.wrap ((spOf c) - 2)) (Zu s)), c.2.2)))) (.br (!x4 || x2) (.br (x4) (.leaf (some ((c.1, (c.2.1.1, c.2.1.2.1, c.2.1.2.2.1, c.2.1.2.2.2.2.2.1, c.2.1.2.2.2.2.2.2.1, c.2.1.2.2.2.1, c.2.1.2.2.2.2.1, c.2.1.2.2.2.2.2.2.2.1, spOf c, Zv (c, s == 5, g, (11, x3.2), [])), c.2.2.1, false, false, c.2.2.2.2.2)))) (.leaf none)) (.leaf none))
theorem ZzK (a : HL Zl) : Zk (envX Tryz.prog (Zar 11) [] 1023 8) Tryz.f111 Zl ZV a = Zph a.1 a.2.1 a.2.2.1 a.2.2.2 := by kernel_rfl
def Zpd (c : TC) (s : Int) (g : List Int) (ln : QT1) : RT (Option TC) :=
 let x1 : QT0 := (c, s == 5, g, (0, 0, 0, 0, 0, 0, 0, 0), [])
 let x2 := qAtC x1 0
 let x3 := Zc c.1 (qAt x1 0)
 let x4 := !x2 || x3.1 == 15
 let x5 := x3.2
 let x6 := x5.2.1
 let x7 := x6 == 6
 let x8 : QT0 := (c, s == 5, g, (15, x5), [])
 let x9 := rDcr c.1 (bif x7 then qAt x8 1 else qReg x8 x6) c.2.1.2.2.2.2.2.2.2.1
 .br (Ze s) (.leaf (some ((c.1, (rgx c.2.1 c.2.1.2.2.2.2.2.2.2.1 (u16.wrap ((spOf c) - 2)) (Zu s)), c.2.2)))) (.br (!x4 || x2) (.br (x4) (.br (!x7 || qAtC x8 1) (.leaf (some ((c.1, rSet (rgx c.2.1 x9.2 (spOf c) (Zv x8)) x6 x9.1, c.2.2.1, false, false, c.2.2.2.2.2)))) (.leaf none)) (.leaf none)) (.leaf none))
theorem ZzG (a : HL Zl) : Zk (envX Tryz.prog (Zar 15) [] 1023 8) Tryz.f111 Zl ZV a = Zpd a.1 a.2.1 a.2.2.1 a.2.2.2 := by kernel_rfl
def Zo9 (c : TC) (s : Int) (g : List Int) (ln : QT1) : RT (Option TC) :=
 let x1 : QT0 := (c, s == 5, g, (0, 0, 0, 0, 0, 0, 0, 0), [])
 let x2 := qAtC x1 0
 let x3 := Zc c.1 (qAt x1 0)
 let x4 := !x2 || x3.1 == 19
 let x5 := rDaa c.1 c.2.1.1 c.2.1.2.2.2.2.2.2.2.1
 .br (Ze s) (.leaf (some ((c.1, (rgx c.2.1 c.2.1.2.2.2.2.2.2.2.1 (u16.wrap ((spOf c) - 2)) (Zu s)), c.2.2)))) (.br (!x4 || x2) (.br (x4) (.leaf (some ((c.1, (x5.1, c.2.1.2.1, c.2.1.2.2.1, c.2.1.2.2.2.1, c.2.1.2.2.2.2.1, c.2.1.2.2.2.2.2.1, c.2.1.2.2.2.2.2.2.1, x5.2, spOf c, Zv (c, s == 5, g, (19, x3.2), [])), c.2.2.1, false, false, c.2.2.2.2.2)))) (.leaf none)) (.leaf none))
theorem ZzC (a : HL Zl) : Zk (envX Tryz.prog (Zar 19) [] 1023 8) Tryz.f111 Zl ZV a = Zo9 a.1 a.2.1 a.2.2.1 a.2.2.2 := by kernel_rfl
def Zo5 (c : TC) (s : Int) (g : List Int) (ln : QT1) : RT (Option TC) :=
 let x1 : QT0 := (c, s == 5, g, (0, 0, 0, 0, 0, 0, 0, 0), [])
 let x2 := qAtC x1 0
 let x3 := Zc c.1 (qAt x1 0)
 let x4 := !x2 || x3.1 == 23
 let x5 := x3.2
 let x6 := c.2.1.2.2.2.2.2.2.2.1.2.2.2
 let x7 := x6.2
 let x8 := x7.2
 let x9 := rRot x5.2.2.2.2.1 c.2.1.1 x8.2
 .br (Ze s) (.leaf (some ((c.1, (rgx c.2.1 c.2.1.2.2.2.2.2.2.2.1 (u16.wrap ((spOf c) - 2)) (Zu s)), c.2.2)))) (.br (!x4 || x2) (.br (x4) (.leaf (some ((c.1, (x9.1, c.2.1.2.1, c.2.1.2.2.1, c.2.1.2.2.2.1, c.2.1.2.2.2.2.1, c.2.1.2.2.2.2.2.1, c.2.1.2.2.2.2.2.2.1, (c.2.1.2.2.2.2.2.2.2.1.1, c.2.1.2.2.2.2.2.2.2.1.2.1, c.2.1.2.2.2.2.2.2.2.1.2.2.1, x6.1, x7.1, x8.1, x9.2), spOf c, Zv (c, s == 5, g, (23, x5), [])), c.2.2.1, false, false, c.2.2.2.2.2)))) (.leaf none)) (.leaf none))
theorem Zzy (a : HL Zl) : Zk (envX Tryz.prog (Zar 23) [] 1023 8) Tryz.f111 Zl ZV a = Zo5 a.1 a.2.1 a.2.2.1 a.2.2.2 := by kernel_rfl
def Zo1 (c : TC) (s : Int) (g : List Int) (ln : QT1) : RT (Option TC) :=
 let x1 := u16.wrap ((spOf c) - 2)
 let x2 : QT0 := (c, s == 5, g, (0, 0, 0, 0, 0, 0, 0, 0), [])
 let x3 := qAtC x2 0
 let x4 := Zc c.1 (qAt x2 0)
 let x5 := !x3 || x4.1 == 27
 .br (Ze s) (.leaf (some ((c.1, (rgx c.2.1 c.2.1.2.2.2.2.2.2.2.1 x1 (Zu s)), c.2.2)))) (.br (!x5 || x3) (.br (x5) (.leaf (some ((c.1, (rgx c.2.1 c.2.1.2.2.2.2.2.2.2.1 x1 (u16.wrap (i64.wrap (8 * x4.2.2.2.2.2.2.2)))), c.2.2.1, false, false, c.2.2.2.2.2)))) (.leaf none)) (.leaf none))
theorem Zzu (a : HL Zl) : Zk (envX Tryz.prog (Zar 27) [] 1023 8) Tryz.f111 Zl ZV a = Zo1 a.1 a.2.1 a.2.2.1 a.2.2.2 := by kernel_rfl
def ZoX (c : TC) (s : Int) (g : List Int) (ln : QT1) : RT (Option TC) :=
 let x1 : QT0 := (c, s == 5, g, (0, 0, 0, 0, 0, 0, 0, 0), [])
 let x2 := qAtC x1 0
 let x3 := Zc c.1 (qAt x1 0)
 let x4 := !x2 || x3.1 == 31
 let x5 := x3.2
 let x6 := x5.2.2.2.1
 let x7 := x6 == 3
 let x8 : QT0 := (c, s == 5, g, (31, x5), [])
 let x9 := ZbY x8 1
 let x10 := !x7 || x9
 let x11 := !x10 || (x7 || x9)
 let x12 := !x11 || x10
 let x13 := !x12 || x11
 let x14 : TR := (rgx c.2.1 c.2.1.2.2.2.2.2.2.2.1 (spOf c) (Zv x8))
 let x15 := ZeC x8 1
 let x16 := Zjd c.1 x14 x15
 let x17 := ZS x14 x6 x15
 let x18 := x16.2
 let x19 := x17.2
 let x20 := x18.2
 let x21 := x19.2
 let x22 := x20.2
 let x23 := x21.2
 let x24 := x22.2
 let x25 := x23.2
 let x26 := x24.2
 let x27 := x25.2
 let x28 := x26.2
 let x29 := x27.2
 let x30 := x28.2
 let x31 := x30.1
 let x32 := x29.2
 let x33 := x32.1
 let x34 := x31.2
 let x35 := x33.2
 let x36 := x34.2
 let x37 := x35.2
 let x38 := x36.2
 let x39 := x37.2
 let x40 := x38.2
 let x41 := x39.2
 let x42 := x40.2
 let x43 := x41.2
 let x44 := x30.2
 let x45 := x32.2
 .br (Ze s) (.leaf (some ((c.1, (rgx c.2.1 c.2.1.2.2.2.2.2.2.2.1 (u16.wrap ((spOf c) - 2)) (Zu s)), c.2.2)))) (.br (!x4 || x2) (.br (x4) (.br (!x13 || x12) (.br (x13) (.leaf (some ((c.1, (bif x7 then x16.1 else x17.1, bif x7 then x18.1 else x19.1, bif x7 then x20.1 else x21.1, bif x7 then x22.1 else x23.1, bif x7 then x24.1 else x25.1, bif x7 then x26.1 else x27.1, bif x7 then x28.1 else x29.1, (bif x7 then x31.1 else x33.1, bif x7 then x34.1 else x35.1, bif x7 then x36.1 else x37.1, bif x7 then x38.1 else x39.1, bif x7 then x40.1 else x41.1, bif x7 then x42.1 else x43.1, bif x7 then x42.2 else x43.2), u16.wrap ((bif x7 then x44.1 else x45.1) + 2), bif x7 then x44.2 else x45.2), c.2.2.1, false, false, c.2.2.2.2.2)))) (.leaf none)) (.leaf none)) (.leaf none)) (.leaf none))
theorem Zzq (a : HL Zl) : Zk (envX Tryz.prog (Zar 31) [] 1023 8) Tryz.f111 Zl ZV a = ZoX a.1 a.2.1 a.2.2.1 a.2.2.2 := by kernel_rfl
def ZoT (c : TC) (s : Int) (g : List Int) (ln : QT1) : RT (Option TC) :=
 let x1 : QT0 := (c, s == 5, g, (0, 0, 0, 0, 0, 0, 0, 0), [])
 let x2 := qAtC x1 0
 let x3 := Zc c.1 (qAt x1 0)
 let x4 := !x2 || x3.1 == 35
 .br (Ze s) (.leaf (some ((c.1, (rgx c.2.1 c.2.1.2.2.2.2.2.2.2.1 (u16.wrap ((spOf c) - 2)) (Zu s)), c.2.2)))) (.br (!x4 || x2) (.br (x4) (.leaf (some ((c.1, (rgx c.2.1 c.2.1.2.2.2.2.2.2.2.1 (spOf c) (Zv (c, s == 5, g, (35, x3.2), []))), true, true, false, c.2.2.2.2.2)))) (.leaf none)) (.leaf none))
theorem Zzm (a : HL Zl) : Zk (envX Tryz.prog (Zar 35) [] 1023 8) Tryz.f111 Zl ZV a = ZoT a.1 a.2.1 a.2.2.1 a.2.2.2 := by kernel_rfl
def ZoP (c : TC) (s : Int) (g : List Int) (ln : QT1) : RT (Option TC) :=
 let x1 : QT0 := (c, s == 5, g, (0, 0, 0, 0, 0, 0, 0, 0), [])
 let x2 := qAtC x1 0
 let x3 := Zc c.1 (qAt x1 0)
 let x4 := !x2 || x3.1 == 39
 let x5 := rSim (c.1, (rgx c.2.1 c.2.1.2.2.2.2.2.2.2.1 (spOf c) (Zv (c, s == 5, g, (39, x3.2), []))), c.2.2.1, 39 == 35, 39 == 37, c.2.2.2.2.2) c.2.1.1
 let x6 := x5.2
 let x7 := x6.2
 .br (Ze s) (.leaf (some ((c.1, (rgx c.2.1 c.2.1.2.2.2.2.2.2.2.1 (u16.wrap ((spOf c) - 2)) (Zu s)), c.2.2)))) (.br (!x4 || x2) (.br (x4) (.leaf (some ((x5.1, x6.1, x7.1, false, false, x7.2.2.2)))) (.leaf none)) (.leaf none))
theorem Zzi (a : HL Zl) : Zk (envX Tryz.prog (Zar 39) [] 1023 8) Tryz.f111 Zl ZV a = ZoP a.1 a.2.1 a.2.2.1 a.2.2.2 := by kernel_rfl
def ZoL (c : TC) (s : Int) (g : List Int) (ln : QT1) : RT (Option TC) :=
 let x1 : QT0 := (c, s == 5, g, (0, 0, 0, 0, 0, 0, 0, 0), [])
 let x2 := qAtC x1 0
 let x3 := Zc c.1 (qAt x1 0)
 let x4 := !x2 || x3.1 == 43
 let x5 : QT0 := (c, s == 5, g, (43, x3.2), [])
 .br (Ze s) (.leaf (some ((c.1, (rgx c.2.1 c.2.1.2.2.2.2.2.2.2.1 (u16.wrap ((spOf c) - 2)) (Zu s)), c.2.2)))) (.br (!x4 || x2) (.br (x4) (.br (qAtC x5 1) (.leaf (some ((c.1, ZS (rgx c.2.1 c.2.1.2.2.2.2.2.2.2.1 (spOf c) (Zv x5)) 1 (u16.wrap (Zc3 x5 2 + u16.wrap (qAt x5 1))), c.2.2.1, false, false, c.2.2.2.2.2)))) (.leaf none)) (.leaf none)) (.leaf none))
theorem Zze (a : HL Zl) : Zk (envX Tryz.prog (Zar 43) [] 1023 8) Tryz.f111 Zl ZV a = ZoL a.1 a.2.1 a.2.2.1 a.2.2.2 := by kernel_rfl
def ZoH (c : TC) (s : Int) (g : List Int) (ln : QT1) : RT (Option TC) :=
 let x1 : QT0 := (c, s == 5, g, (0, 0, 0, 0, 0, 0, 0, 0), [])
 let x2 := qAtC x1 0
 let x3 := Zc c.1 (qAt x1 0)
 let x4 := !x2 || x3.1 == 47
 let x5 : QT0 := (c, s == 5, g, (47, x3.2), [])
 .br (Ze s) (.leaf (some ((c.1, (rgx c.2.1 c.2.1.2.2.2.2.2.2.2.1 (u16.wrap ((spOf c) - 2)) (Zu s)), c.2.2)))) (.br (!x4 || x2) (.br (x4) (.br (ZbY x5 1) (.leaf (some ((c.1, ZS (rgx c.2.1 c.2.1.2.2.2.2.2.2.2.1 (spOf c) (Zv x5)) 2 (ZeC x5 1), c.2.2.1, false, false, c.2.2.2.2.2)))) (.leaf none)) (.leaf none)) (.leaf none))
theorem Zza (a : HL Zl) : Zk (envX Tryz.prog (Zar 47) [] 1023 8) Tryz.f111 Zl ZV a = ZoH a.1 a.2.1 a.2.2.1 a.2.2.2 := by kernel_rfl
def ZuS (c : TC) (s : Int) (g : List Int) (ln : QT1) : RT (Option TC) :=
 let x1 : QT0 := (c, s == 5, g, (0, 0, 0, 0, 0, 0, 0, 0), [])
 let x2 := qAtC x1 0
 let x3 := Zc c.1 (qAt x1 0)
 let x4 := !x2 || x3.1 == 4
 let x5 := x3.2
 let x6 : QT0 := (c, s == 5, g, (4, x5), [])
 .br (Ze s) (.leaf (some ((c.1, (rgx c.2.1 c.2.1.2.2.2.2.2.2.2.1 (u16.wrap ((spOf c) - 2)) (Zu s)), c.2.2)))) (.br (!x4 || x2) (.br (x4) (.br (ZbY x6 1) (.leaf (some ((c.1, ZS (rgx c.2.1 c.2.1.2.2.2.2.2.2.2.1 (spOf c) (Zv x6)) x5.2.2.2.1 (ZeC x6 1), c.2.2.1, false, false, c.2.2.2.2.2)))) (.leaf none)) (.leaf none)) (.leaf none))
theorem ZDr (a : HL Zl) : Zk (envX Tryz.prog (Zar 4) [] 1023 8) Tryz.f111 Zl ZV a = ZuS a.1 a.2.1 a.2.2.1 a.2.2.2 := by kernel_rfl
def ZuO (c : TC) (s : Int) (g : List Int) (ln : QT1) : RT (Option TC) :=
 let x1 : QT0 := (c, s == 5, g, (0, 0, 0, 0, 0, 0, 0, 0), [])
 let x2 := qAtC x1 0
 let x3 := Zc c.1 (qAt x1 0)
 let x4 := !x2 || x3.1 == 8
 .br (Ze s) (.leaf (some ((c.1, (rgx c.2.1 c.2.1.2.2.2.2.2.2.2.1 (u16.wrap ((spOf c) - 2)) (Zu s)), c.2.2)))) (.br (!x4 || x2) (.br (x4) (.leaf (some ((c.1, (rgx c.2.1 c.2.1.2.2.2.2.2.2.2.1 (spOf c) (Zv (c, s == 5, g, (8, x3.2), []))), c.2.2.1, false, false, c.2.2.2.2.2)))) (.leaf none)) (.leaf none))
theorem ZDn (a : HL Zl) : Zk (envX Tryz.prog (Zar 8) [] 1023 8) Tryz.f111 Zl ZV a = ZuO a.1 a.2.1 a.2.2.1 a.2.2.2 := by kernel_rfl
def Zpg (c : TC) (s : Int) (g : List Int) (ln : QT1) : RT (Option TC) :=
 let x1 : QT0 := (c, s == 5, g, (0, 0, 0, 0, 0, 0, 0, 0), [])
 let x2 := qAtC x1 0
 let x3 := Zc c.1 (qAt x1 0)
 let x4 := !x2 || x3.1 == 12
 let x5 := x3.2
 let x6 : QT0 := (c, s == 5, g, (12, x5), [])
 let x7 := rDo c.1 x5.2.2.2.2.1 c.2.1.1 (Zgg x6) c.2.1.2.2.2.2.2.2.2.1
 .br (Ze s) (.leaf (some ((c.1, (rgx c.2.1 c.2.1.2.2.2.2.2.2.2.1 (u16.wrap ((spOf c) - 2)) (Zu s)), c.2.2)))) (.br (!x4 || x2) (.br (x4) (.br (ZeB x6) (.leaf (some ((c.1, (x7.1, c.2.1.2.1, c.2.1.2.2.1, c.2.1.2.2.2.1, c.2.1.2.2.2.2.1, c.2.1.2.2.2.2.2.1, c.2.1.2.2.2.2.2.2.1, x7.2, spOf c, Zv x6), c.2.2.1, false, false, c.2.2.2.2.2)))) (.leaf none)) (.leaf none)) (.leaf none))
theorem ZzJ (a : HL Zl) : Zk (envX Tryz.prog (Zar 12) [] 1023 8) Tryz.f111 Zl ZV a = Zpg a.1 a.2.1 a.2.2.1 a.2.2.2 := by kernel_rfl
def Zpc (c : TC) (s : Int) (g : List Int) (ln : QT1) : RT (Option TC) :=
 let x1 : QT0 := (c, s == 5, g, (0, 0, 0, 0, 0, 0, 0, 0), [])
 let x2 := qAtC x1 0
 let x3 := Zc c.1 (qAt x1 0)
 let x4 := !x2 || x3.1 == 16
 let x5 := x3.2
 let x6 : QT0 := (c, s == 5, g, (16, x5), [])
 let x7 := x5.2.2.2.1
 let x8 := rInx c.1 (Zc3 x6 x7) c.2.1.2.2.2.2.2.2.2.1
 .br (Ze s) (.leaf (some ((c.1, (rgx c.2.1 c.2.1.2.2.2.2.2.2.2.1 (u16.wrap ((spOf c) - 2)) (Zu s)), c.2.2)))) (.br (!x4 || x2) (.br (x4) (.leaf (some ((c.1, ZS (rgx c.2.1 x8.2 (spOf c) (Zv x6)) x7 x8.1, c.2.2.1, false, false, c.2.2.2.2.2)))) (.leaf none)) (.leaf none))
theorem ZzF (a : HL Zl) : Zk (envX Tryz.prog (Zar 16) [] 1023 8) Tryz.f111 Zl ZV a = Zpc a.1 a.2.1 a.2.2.1 a.2.2.2 := by kernel_rfl
def Zo8 (c : TC) (s : Int) (g : List Int) (ln : QT1) : RT (Option TC) :=
 let x1 : QT0 := (c, s == 5, g, (0, 0, 0, 0, 0, 0, 0, 0), [])
 let x2 := qAtC x1 0
 let x3 := Zc c.1 (qAt x1 0)
 let x4 := !x2 || x3.1 == 20
 .br (Ze s) (.leaf (some ((c.1, (rgx c.2.1 c.2.1.2.2.2.2.2.2.2.1 (u16.wrap ((spOf c) - 2)) (Zu s)), c.2.2)))) (.br (!x4 || x2) (.br (x4) (.leaf (some ((c.1, (notI u8 c.2.1.1, c.2.1.2.1, c.2.1.2.2.1, c.2.1.2.2.2.1, c.2.1.2.2.2.2.1, c.2.1.2.2.2.2.2.1, c.2.1.2.2.2.2.2.2.1, c.2.1.2.2.2.2.2.2.2.1, spOf c, Zv (c, s == 5, g, (20, x3.2), [])), c.2.2.1, false, false, c.2.2.2.2.2)))) (.leaf none)) (.leaf none))
theorem ZzB (a : HL Zl) : Zk (envX Tryz.prog (Zar 20) [] 1023 8) Tryz.f111 Zl ZV a = Zo8 a.1 a.2.1 a.2.2.1 a.2.2.2 := by kernel_rfl
def Zo4 (c : TC) (s : Int) (g : List Int) (ln : QT1) : RT (Option TC) :=
 let x1 : QT0 := (c, s == 5, g, (0, 0, 0, 0, 0, 0, 0, 0), [])
 let x2 := qAtC x1 0
 let x3 := Zc c.1 (qAt x1 0)
 let x4 := !x2 || x3.1 == 24
 let x5 : QT0 := (c, s == 5, g, (24, x3.2), [])
 let x6 := Zfr x5
 .br (Ze s) (.leaf (some ((c.1, (rgx c.2.1 c.2.1.2.2.2.2.2.2.2.1 (u16.wrap ((spOf c) - 2)) (Zu s)), c.2.2)))) (.br (!x4 || x2) (.br (x4) (.br (!x6 || ZbY x5 1) (.leaf (some ((c.1, (rgx c.2.1 c.2.1.2.2.2.2.2.2.2.1 (spOf c) (bif x6 then ZeC x5 1 else Zv x5)), c.2.2.1, false, false, c.2.2.2.2.2)))) (.leaf none)) (.leaf none)) (.leaf none))
theorem Zzx (a : HL Zl) : Zk (envX Tryz.prog (Zar 24) [] 1023 8) Tryz.f111 Zl ZV a = Zo4 a.1 a.2.1 a.2.2.1 a.2.2.2 := by kernel_rfl
def Zo0 (c : TC) (s : Int) (g : List Int) (ln : QT1) : RT (Option TC) :=
 let x1 : QT0 := (c, s == 5, g, (0, 0, 0, 0, 0, 0, 0, 0), [])
 let x2 := qAtC x1 0
 let x3 := Zc c.1 (qAt x1 0)
 let x4 := !x2 || x3.1 == 28
 .br (Ze s) (.leaf (some ((c.1, (rgx c.2.1 c.2.1.2.2.2.2.2.2.2.1 (u16.wrap ((spOf c) - 2)) (Zu s)), c.2.2)))) (.br (!x4 || x2) (.br (x4) (.leaf (some ((c.1, (rgx c.2.1 c.2.1.2.2.2.2.2.2.2.1 (spOf c) (Zc3 (c, s == 5, g, (28, x3.2), []) 2)), c.2.2.1, false, false, c.2.2.2.2.2)))) (.leaf none)) (.leaf none))
theorem Zzt (a : HL Zl) : Zk (envX Tryz.prog (Zar 28) [] 1023 8) Tryz.f111 Zl ZV a = Zo0 a.1 a.2.1 a.2.2.1 a.2.2.2 := by kernel_rfl
def ZoW (c : TC) (s : Int) (g : List Int) (ln : QT1) : RT (Option TC) :=
 let x1 : QT0 := (c, s == 5, g, (0, 0, 0, 0, 0, 0, 0, 0), [])
 let x2 := qAtC x1 0
 let x3 := Zc c.1 (qAt x1 0)
 let x4 := !x2 || x3.1 == 32
 let x5 : QT0 := (c, s == 5, g, (32, x3.2), [])
 .br (Ze s) (.leaf (some ((c.1, (rgx c.2.1 c.2.1.2.2.2.2.2.2.2.1 (u16.wrap ((spOf c) - 2)) (Zu s)), c.2.2)))) (.br (!x4 || x2) (.br (x4) (.br (ZbY x5 1) (.leaf (some ((c.1, ZS (rgx c.2.1 c.2.1.2.2.2.2.2.2.2.1 (spOf c) (Zv x5)) 2 (ZeC x5 1), c.2.2.1, false, false, c.2.2.2.2.2)))) (.leaf none)) (.leaf none)) (.leaf none))
theorem Zzp (a : HL Zl) : Zk (envX Tryz.prog (Zar 32) [] 1023 8) Tryz.f111 Zl ZV a = ZoW a.1 a.2.1 a.2.2.1 a.2.2.2 := by kernel_rfl
def ZoS (c : TC) (s : Int) (g : List Int) (ln : QT1) : RT (Option TC) :=
 let x1 : QT0 := (c, s == 5, g, (0, 0, 0, 0, 0, 0, 0, 0), [])
 let x2 := qAtC x1 0
 let x3 := Zc c.1 (qAt x1 0)
 let x4 := !x2 || x3.1 == 36
 .br (Ze s) (.leaf (some ((c.1, (rgx c.2.1 c.2.1.2.2.2.2.2.2.2.1 (u16.wrap ((spOf c) - 2)) (Zu s)), c.2.2)))) (.br (!x4 || x2) (.br (x4) (.leaf (some ((c.1, (rgx c.2.1 c.2.1.2.2.2.2.2.2.2.1 (spOf c) (Zv (c, s == 5, g, (36, x3.2), []))), false, false, false, c.2.2.2.2.2)))) (.leaf none)) (.leaf none))
theorem Zzl (a : HL Zl) : Zk (envX Tryz.prog (Zar 36) [] 1023 8) Tryz.f111 Zl ZV a = ZoS a.1 a.2.1 a.2.2.1 a.2.2.2 := by kernel_rfl
def ZoO (c : TC) (s : Int) (g : List Int) (ln : QT1) : RT (Option TC) :=
 let x1 : QT0 := (c, s == 5, g, (0, 0, 0, 0, 0, 0, 0, 0), [])
 let x2 := qAtC x1 0
 let x3 := Zc c.1 (qAt x1 0)
 let x4 := !x2 || x3.1 == 40
 let x5 : QT0 := (c, s == 5, g, (40, x3.2), [])
 let x6 := ZB1 (Zc3 x5 2) (Zc3 x5 0)
 .br (Ze s) (.leaf (some ((c.1, (rgx c.2.1 c.2.1.2.2.2.2.2.2.2.1 (u16.wrap ((spOf c) - 2)) (Zu s)), c.2.2)))) (.br (!x4 || x2) (.br (x4) (.leaf (some ((c.1, ZS (rgx c.2.1 x6.2 (spOf c) (Zv x5)) 2 x6.1, c.2.2.1, false, false, c.2.2.2.2.2)))) (.leaf none)) (.leaf none))
theorem Zzh (a : HL Zl) : Zk (envX Tryz.prog (Zar 40) [] 1023 8) Tryz.f111 Zl ZV a = ZoO a.1 a.2.1 a.2.2.1 a.2.2.2 := by kernel_rfl
def ZoK (c : TC) (s : Int) (g : List Int) (ln : QT1) : RT (Option TC) :=
 let x1 : QT0 := (c, s == 5, g, (0, 0, 0, 0, 0, 0, 0, 0), [])
 let x2 := qAtC x1 0
 let x3 := Zc c.1 (qAt x1 0)
 let x4 := !x2 || x3.1 == 44
 let x5 : QT0 := (c, s == 5, g, (44, x3.2), [])
 .br (Ze s) (.leaf (some ((c.1, (rgx c.2.1 c.2.1.2.2.2.2.2.2.2.1 (u16.wrap ((spOf c) - 2)) (Zu s)), c.2.2)))) (.br (!x4 || x2) (.br (x4) (.br (qAtC x5 1) (.leaf (some ((c.1, ZS (rgx c.2.1 c.2.1.2.2.2.2.2.2.2.1 (spOf c) (Zv x5)) 1 (u16.wrap ((spOf c) + u16.wrap (qAt x5 1))), c.2.2.1, false, false, c.2.2.2.2.2)))) (.leaf none)) (.leaf none)) (.leaf none))
theorem Zzd (a : HL Zl) : Zk (envX Tryz.prog (Zar 44) [] 1023 8) Tryz.f111 Zl ZV a = ZoK a.1 a.2.1 a.2.2.1 a.2.2.2 := by kernel_rfl
theorem fp_1 (c) (s : Int) (g : List Int) (l) (n : Int) (hk : (Zc c.1 (g.getD 0 0)).1 = n) : (n = 1 → (ZuV c s g l).val = some (finX c s g l)) ∧ (n = 6 → (ZuQ c s g l).val = some (finX c s g l)) ∧ (n = 10 → (Zpi c s g l).val = some (finX c s g l)) ∧ (n = 17 → (Zpb c s g l).val = some (finX c s g l)) ∧ (n = 21 → (Zo7 c s g l).val = some (finX c s g l)) ∧ (n = 28 → (Zo0 c s g l).val = some (finX c s g l)) ∧ (n = 33 → (ZoV c s g l).val = some (finX c s g l)) ∧ (n = 37 → (ZoR c s g l).val = some (finX c s g l)) ∧ (n = 43 → (ZoL c s g l).val = some (finX c s g l)) := by
 refine ⟨?_, ?_, ?_, ?_, ?_, ?_, ?_, ?_, ?_⟩
 all_goals intro e; subst e
 all_goals simp only [ZuV, ZuQ, Zpi, Zpb, Zo7, Zo0, ZoV, ZoR, ZoL, RT.val, rgx]
 all_goals simp only [qat0, mat0, qat1, mat1, rg0, hk, ZG, Zac, ZaF, Z0, Z1, ZP, ZQ, Zbx, Zbz, Zft, Zfs, ZE, Zby, finX, spOf]
 all_goals generalize Za s = bi
 all_goals cases bi with
 | true => simp [wPC, wSP]
 | false =>
  generalize (s == 5) = bs
  simp only [finI, hk, finR, wPC, wSP, wA, wF, fCY, fVCY, Zeu, flOf, ZR, pcOf, Zbr]
  generalize Zc c.1 (g.getD 0 0) = i at hk ⊢
  simp (config := { implicitDefEqProofs := false }) [ZcH, ZcB, Zdo, hk]
theorem fp_2 (c) (s : Int) (g : List Int) (l) (n : Int) (hk : (Zc c.1 (g.getD 0 0)).1 = n) : (n = 3 → (ZuT c s g l).val = some (finX c s g l)) ∧ (n = 7 → (ZuP c s g l).val = some (finX c s g l)) ∧ (n = 11 → (Zph c s g l).val = some (finX c s g l)) ∧ (n = 18 → (Zpa c s g l).val = some (finX c s g l)) ∧ (n = 22 → (Zo6 c s g l).val = some (finX c s g l)) ∧ (n = 29 → (ZoZ c s g l).val = some (finX c s g l)) ∧ (n = 34 → (ZoU c s g l).val = some (finX c s g l)) ∧ (n = 40 → (ZoO c s g l).val = some (finX c s g l)) ∧ (n = 44 → (ZoK c s g l).val = some (finX c s g l)) := by
 refine ⟨?_, ?_, ?_, ?_, ?_, ?_, ?_, ?_, ?_⟩
 all_goals intro e; subst e
 all_goals simp only [ZuT, ZuP, Zph, Zpa, Zo6, ZoZ, ZoU, ZoO, ZoK, RT.val, rgx]
 all_goals simp only [qat0, mat0, qat1, mat1, rg0, hk, ZG, Zac, ZaF, Z0, Z1, ZP, ZQ, Zbx, Zbz, Zft, Zfs, ZE, Zby, finX, spOf]
 all_goals generalize Za s = bi
 all_goals cases bi with
 | true => simp [wPC, wSP]
 | false =>
  generalize (s == 5) = bs
  simp only [finI, hk, finR, wPC, wSP, wA, wF, fCY, fVCY, Zeu, flOf, ZR, pcOf, Zbr]
  generalize Zc c.1 (g.getD 0 0) = i at hk ⊢
  simp (config := { implicitDefEqProofs := false }) [ZcH, ZcB, Zdo, hk]
theorem fp_3 (c) (s : Int) (g : List Int) (l) (n : Int) (hk : (Zc c.1 (g.getD 0 0)).1 = n) : (n = 4 → (ZuS c s g l).val = some (finX c s g l)) ∧ (n = 8 → (ZuO c s g l).val = some (finX c s g l)) ∧ (n = 13 → (Zpf c s g l).val = some (finX c s g l)) ∧ (n = 19 → (Zo9 c s g l).val = some (finX c s g l)) ∧ (n = 23 → (Zo5 c s g l).val = some (finX c s g l)) ∧ (n = 30 → (ZoY c s g l).val = some (finX c s g l)) ∧ (n = 35 → (ZoT c s g l).val = some (finX c s g l)) ∧ (n = 41 → (ZoN c s g l).val = some (finX c s g l)) ∧ (n = 46 → (ZoI c s g l).val = some (finX c s g l)) := by
 refine ⟨?_, ?_, ?_, ?_, ?_, ?_, ?_, ?_, ?_⟩
 all_goals intro e; subst e
 all_goals simp only [ZuS, ZuO, Zpf, Zo9, Zo5, ZoY, ZoT, ZoN, ZoI, RT.val, rgx]
 all_goals simp only [qat0, mat0, qat1, mat1, rg0, hk, ZG, Zac, ZaF, Z0, Z1, ZP, ZQ, Zbx, Zbz, Zft, Zfs, ZE, Zby, finX, spOf]
 all_goals generalize Za s = bi
 all_goals cases bi with
 | true => simp [wPC, wSP]
 | false =>
  generalize (s == 5) = bs
  simp only [finI, hk, finR, wPC, wSP, wA, wF, fCY, fVCY, Zeu, flOf, ZR, pcOf, Zbr]
  generalize Zc c.1 (g.getD 0 0) = i at hk ⊢
  simp (config := { implicitDefEqProofs := false }) [ZcH, ZcB, Zdo, hk]
theorem fp_4 (c) (s : Int) (g : List Int) (l) (n : Int) (hk : (Zc c.1 (g.getD 0 0)).1 = n) : (n = 5 → (ZuR c s g l).val = some (finX c s g l)) ∧ (n = 9 → (ZuN c s g l).val = some (finX c s g l)) ∧ (n = 16 → (Zpc c s g l).val = some (finX c s g l)) ∧ (n = 20 → (Zo8 c s g l).val = some (finX c s g l)) ∧ (n = 27 → (Zo1 c s g l).val = some (finX c s g l)) ∧ (n = 32 → (ZoW c s g l).val = some (finX c s g l)) ∧ (n = 36 → (ZoS c s g l).val = some (finX c s g l)) ∧ (n = 42 → (ZoM c s g l).val = some (finX c s g l)) ∧ (n = 47 → (ZoH c s g l).val = some (finX c s g l)) := by
 refine ⟨?_, ?_, ?_, ?_, ?_, ?_, ?_, ?_, ?_⟩
 all_goals intro e; subst e
 all_goals simp only [ZuR, ZuN, Zpc, Zo8, Zo1, ZoW, ZoS, ZoM, ZoH, RT.val, rgx]
 all_goals simp only [qat0, mat0, qat1, mat1, rg0, hk, ZG, Zac, ZaF, Z0, Z1, ZP, ZQ, Zbx, Zbz, Zft, Zfs, ZE, Zby, finX, spOf]
 all_goals generalize Za s = bi
 all_goals cases bi with
 | true => simp [wPC, wSP]
 | false =>
  generalize (s == 5) = bs
  simp only [finI, hk, finR, wPC, wSP, wA, wF, fCY, fVCY, Zeu, flOf, ZR, pcOf, Zbr]
  generalize Zc c.1 (g.getD 0 0) = i at hk ⊢
  simp (config := { implicitDefEqProofs := false }) [ZcH, ZcB, Zdo, hk]
theorem fp_5 (c) (s : Int) (g : List Int) (l) (n : Int) (hk : (Zc c.1 (g.getD 0 0)).1 = n) : (n = 2 → (ZuU c s g l).val = some (finX c s g l)) ∧ (n = 12 → (Zpg c s g l).val = some (finX c s g l)) := by
 refine ⟨?_, ?_⟩
 all_goals intro e; subst e
 all_goals simp only [ZuU, Zpg, RT.val, rgx]
 all_goals simp only [qat0, mat0, qat1, mat1, rg0, hk, ZG, Zac, ZaF, Z0, Z1, ZP, ZQ, Zbx, Zbz, Zft, Zfs, ZE, Zby, finX, spOf]
 all_goals generalize Za s = bi
 all_goals cases bi with
 | true => simp [wPC, wSP]
 | false =>
  generalize (s == 5) = bs
  simp only [finI, hk, finR, wPC, wSP, wA, wF, fCY, fVCY, Zeu, flOf, ZR, pcOf, Zbr]
  generalize Zc c.1 (g.getD 0 0) = i at hk ⊢
  generalize (i.2.2.2.1 == 6) = b0
  cases b0 <;> simp (config := { implicitDefEqProofs := false }) [ZcH, ZcB, Zdo, hk]
theorem fp_6 (c) (s : Int) (g : List Int) (l) (n : Int) (hk : (Zc c.1 (g.getD 0 0)).1 = n) : (n = 14 → (Zpe c s g l).val = some (finX c s g l)) ∧ (n = 15 → (Zpd c s g l).val = some (finX c s g l)) := by
 refine ⟨?_, ?_⟩
 all_goals intro e; subst e
 all_goals simp only [Zpe, Zpd, RT.val, rgx]
 all_goals simp only [qat0, mat0, qat1, mat1, rg0, hk, ZG, Zac, ZaF, Z0, Z1, ZP, ZQ, Zbx, Zbz, Zft, Zfs, ZE, Zby, finX, spOf]
 all_goals generalize Za s = bi
 all_goals cases bi with
 | true => simp [wPC, wSP]
 | false =>
  generalize (s == 5) = bs
  simp only [finI, hk, finR, wPC, wSP, wA, wF, fCY, fVCY, Zeu, flOf, ZR, pcOf, Zbr]
  generalize Zc c.1 (g.getD 0 0) = i at hk ⊢
  generalize (i.2.2.1 == 6) = b0
  cases b0 <;> simp (config := { implicitDefEqProofs := false }) [ZcH, ZcB, Zdo, hk]
theorem fp_7 (c) (s : Int) (g : List Int) (l) (n : Int) (hk : (Zc c.1 (g.getD 0 0)).1 = n) : (n = 24 → (Zo4 c s g l).val = some (finX c s g l)) ∧ (n = 25 → (Zo3 c s g l).val = some (finX c s g l)) ∧ (n = 26 → (Zo2 c s g l).val = some (finX c s g l)) ∧ (n = 45 → (ZoJ c s g l).val = some (finX c s g l)) := by
 refine ⟨?_, ?_, ?_, ?_⟩
 all_goals intro e; subst e
 all_goals simp only [Zo4, Zo3, Zo2, ZoJ, RT.val, rgx]
 all_goals simp only [qat0, mat0, qat1, mat1, rg0, hk, ZG, Zac, ZaF, Z0, Z1, ZP, ZQ, Zbx, Zbz, Zft, Zfs, ZE, Zby, finX, spOf]
 all_goals generalize Za s = bi
 all_goals cases bi with
 | true => simp [wPC, wSP]
 | false =>
  generalize (s == 5) = bs
  simp only [finI, hk, finR, wPC, wSP, wA, wF, fCY, fVCY, Zeu, flOf, ZR, pcOf, Zbr]
  generalize Zc c.1 (g.getD 0 0) = i at hk ⊢
  generalize ZdD _ _ = b0
  cases b0 <;> simp (config := { implicitDefEqProofs := false }) [ZcH, ZcB, Zdo, hk]
theorem fp_8 (c) (s : Int) (g : List Int) (l) (n : Int) (hk : (Zc c.1 (g.getD 0 0)).1 = n) : (n = 31 → (ZoX c s g l).val = some (finX c s g l)) := by
 skip
 all_goals intro e; subst e
 all_goals simp only [ZoX, RT.val, rgx]
 all_goals simp only [qat0, mat0, qat1, mat1, rg0, hk, ZG, Zac, ZaF, Z0, Z1, ZP, ZQ, Zbx, Zbz, Zft, Zfs, ZE, Zby, finX, spOf]
 all_goals generalize Za s = bi
 all_goals cases bi with
 | true => simp [wPC, wSP]
 | false =>
  generalize (s == 5) = bs
  simp only [finI, hk, finR, wPC, wSP, wA, wF, fCY, fVCY, Zeu, flOf, ZR, pcOf, Zbr]
  generalize Zc c.1 (g.getD 0 0) = i at hk ⊢
  generalize (i.2.2.2.2.1 == 3) = b0
  cases b0 <;> simp (config := { implicitDefEqProofs := false }) [ZcH, ZcB, Zdo, hk]
theorem fp_9 (c) (s : Int) (g : List Int) (l) (n : Int) (hk : (Zc c.1 (g.getD 0 0)).1 = n) : (n = 38 → (ZoQ c s g l).val = some (finX c s g l)) := by
 skip
 all_goals intro e; subst e
 all_goals simp only [ZoQ, RT.val, rgx]
 all_goals simp only [qat0, mat0, qat1, mat1, rg0, hk, ZG, Zac, ZaF, Z0, Z1, ZP, ZQ, Zbx, Zbz, Zft, Zfs, ZE, Zby, finX, spOf]
 all_goals generalize Za s = bi
 all_goals cases bi with
 | true => simp [wPC, wSP]
 | false =>
  generalize (s == 5) = bs
  simp only [finI, hk, finR, wPC, wSP, wA, wF, fCY, fVCY, Zeu, flOf, ZR, pcOf, Zbr]
  generalize Zc c.1 (g.getD 0 0) = i at hk ⊢
  simp [ZcH, ZcB, Zdo, hk, ZLw]
theorem fp_10 (c) (s : Int) (g : List Int) (l) (n : Int) (hk : (Zc c.1 (g.getD 0 0)).1 = n) : (n = 39 → (ZoP c s g l).val = some (finX c s g l)) := by
 skip
 all_goals intro e; subst e
 all_goals simp only [ZoP, RT.val, rgx]
 all_goals simp only [qat0, mat0, qat1, mat1, rg0, hk, ZG, Zac, ZaF, Z0, Z1, ZP, ZQ, Zbx, Zbz, Zft, Zfs, ZE, Zby, finX, spOf]
 all_goals generalize Za s = bi
 all_goals cases bi with
 | true => simp [wPC, wSP]
 | false =>
  generalize (s == 5) = bs
  simp only [finI, hk, finR, wPC, wSP, wA, wF, fCY, fVCY, Zeu, flOf, ZR, pcOf, Zbr]
  generalize Zc c.1 (g.getD 0 0) = i at hk ⊢
  simp [ZcH, ZcB, Zdo, hk, rSim, ZJy, RT.val]
theorem ZKd (a : HL Zl) (h : okHL Zl a) : ∃ l, ZcS Tryz.prog l ∧ (Zk (envX Tryz.prog l [] 1023 8) Tryz.f111 Zl ZV a).val = some (finX a.1 a.2.1 a.2.2.1 a.2.2.2) := by
 have hk := ZvB a.1.1 _ (ZvJ h.2.2.1)
 refine ⟨Zar (Zc a.1.1 (a.2.2.1.getD 0 0)).1, ZGM _, ?_⟩
 rcases ZvA hk.1 hk.2 with e | e | e | e | e | e | e | e | e | e | e | e | e | e | e | e | e | e | e | e | e | e | e | e | e | e | e | e | e | e | e | e | e | e | e | e | e | e | e | e | e | e | e | e | e | e | e
 ·rw [e, ZDu a, ((fp_1 a.1 a.2.1 a.2.2.1 a.2.2.2 _ e).1 rfl)]
 ·rw [e, ZDt a, ((fp_5 a.1 a.2.1 a.2.2.1 a.2.2.2 _ e).1 rfl)]
 ·rw [e, ZDs a, ((fp_2 a.1 a.2.1 a.2.2.1 a.2.2.2 _ e).1 rfl)]
 ·rw [e, ZDr a, ((fp_3 a.1 a.2.1 a.2.2.1 a.2.2.2 _ e).1 rfl)]
 ·rw [e, ZDq a, ((fp_4 a.1 a.2.1 a.2.2.1 a.2.2.2 _ e).1 rfl)]
 ·rw [e, ZDp a, ((fp_1 a.1 a.2.1 a.2.2.1 a.2.2.2 _ e).2.1 rfl)]
 ·rw [e, ZDo a, ((fp_2 a.1 a.2.1 a.2.2.1 a.2.2.2 _ e).2.1 rfl)]
 ·rw [e, ZDn a, ((fp_3 a.1 a.2.1 a.2.2.1 a.2.2.2 _ e).2.1 rfl)]
 ·rw [e, ZDm a, ((fp_4 a.1 a.2.1 a.2.2.1 a.2.2.2 _ e).2.1 rfl)]
 ·rw [e, ZzL a, ((fp_1 a.1 a.2.1 a.2.2.1 a.2.2.2 _ e).2.2.1 rfl)]
 ·rw [e, ZzK a, ((fp_2 a.1 a.2.1 a.2.2.1 a.2.2.2 _ e).2.2.1 rfl)]
 ·rw [e, ZzJ a, ((fp_5 a.1 a.2.1 a.2.2.1 a.2.2.2 _ e).2 rfl)]
 ·rw [e, ZzI a, ((fp_3 a.1 a.2.1 a.2.2.1 a.2.2.2 _ e).2.2.1 rfl)]
 ·rw [e, ZzH a, ((fp_6 a.1 a.2.1 a.2.2.1 a.2.2.2 _ e).1 rfl)]
 ·rw [e, ZzG a, ((fp_6 a.1 a.2.1 a.2.2.1 a.2.2.2 _ e).2 rfl)]
 ·rw [e, ZzF a, ((fp_4 a.1 a.2.1 a.2.2.1 a.2.2.2 _ e).2.2.1 rfl)]
 ·rw [e, ZzE a, ((fp_1 a.1 a.2.1 a.2.2.1 a.2.2.2 _ e).2.2.2.1 rfl)]
 ·rw [e, ZzD a, ((fp_2 a.1 a.2.1 a.2.2.1 a.2.2.2 _ e).2.2.2.1 rfl)]
 ·rw [e, ZzC a, ((fp_3 a.1 a.2.1 a.2.2.1 a.2.2.2 _ e).2.2.2.1 rfl)]
 ·rw [e, ZzB a, ((fp_4 a.1 a.2.1 a.2.2.1 a.2.2.2 _ e).2.2.2.1 rfl)]
 ·rw [e, ZzA a, ((fp_1 a.1 a.2.1 a.2.2.1 a.2.2.2 _ e).2.2.2.2.1 rfl)]
 ·rw [e, Zzz a, ((fp_2 a.1 a.2.1 a.2.2.1 a.2.2.2 _ e).2.2.2.2.1 rfl)]
 ·rw [e, Zzy a, ((fp_3 a.1 a.2.1 a.2.2.1 a.2.2.2 _ e).2.2.2.2.1 rfl)]
 ·rw [e, Zzx a, ((fp_7 a.1 a.2.1 a.2.2.1 a.2.2.2 _ e).1 rfl)]
 ·rw [e, Zzw a, ((fp_7 a.1 a.2.1 a.2.2.1 a.2.2.2 _ e).2.1 rfl)]
 ·rw [e, Zzv a, ((fp_7 a.1 a.2.1 a.2.2.1 a.2.2.2 _ e).2.2.1 rfl)]
 ·rw [e, Zzu a, ((fp_4 a.1 a.2.1 a.2.2.1 a.2.2.2 _ e).2.2.2.2.1 rfl)]
 ·rw [e, Zzt a, ((fp_1 a.1 a.2.1 a.2.2.1 a.2.2.2 _ e).2.2.2.2.2.1 rfl)]
 ·rw [e, Zzs a, ((fp_2 a.1 a.2.1 a.2.2.1 a.2.2.2 _ e).2.2.2.2.2.1 rfl)]
 ·rw [e, Zzr a, ((fp_3 a.1 a.2.1 a.2.2.1 a.2.2.2 _ e).2.2.2.2.2.1 rfl)]
 ·rw [e, Zzq a, ((fp_8 a.1 a.2.1 a.2.2.1 a.2.2.2 _ e) rfl)]
 ·rw [e, Zzp a, ((fp_4 a.1 a.2.1 a.2.2.1 a.2.2.2 _ e).2.2.2.2.2.1 rfl)]
 ·rw [e, Zzo a, ((fp_1 a.1 a.2.1 a.2.2.1 a.2.2.2 _ e).2.2.2.2.2.2.1 rfl)]
 ·rw [e, Zzn a, ((fp_2 a.1 a.2.1 a.2.2.1 a.2.2.2 _ e).2.2.2.2.2.2.1 rfl)]
 ·rw [e, Zzm a, ((fp_3 a.1 a.2.1 a.2.2.1 a.2.2.2 _ e).2.2.2.2.2.2.1 rfl)]
 ·rw [e, Zzl a, ((fp_4 a.1 a.2.1 a.2.2.1 a.2.2.2 _ e).2.2.2.2.2.2.1 rfl)]
 ·rw [e, Zzk a, ((fp_1 a.1 a.2.1 a.2.2.1 a.2.2.2 _ e).2.2.2.2.2.2.2.1 rfl)]
 ·rw [e, Zzj a, ((fp_9 a.1 a.2.1 a.2.2.1 a.2.2.2 _ e) rfl)]
 ·rw [e, Zzi a, ((fp_10 a.1 a.2.1 a.2.2.1 a.2.2.2 _ e) rfl)]
 ·rw [e, Zzh a, ((fp_2 a.1 a.2.1 a.2.2.1 a.2.2.2 _ e).2.2.2.2.2.2.2.1 rfl)]
 ·rw [e, Zzg a, ((fp_3 a.1 a.2.1 a.2.2.1 a.2.2.2 _ e).2.2.2.2.2.2.2.1 rfl)]
 ·rw [e, Zzf a, ((fp_4 a.1 a.2.1 a.2.2.1 a.2.2.2 _ e).2.2.2.2.2.2.2.1 rfl)]
 ·rw [e, Zze a, ((fp_1 a.1 a.2.1 a.2.2.1 a.2.2.2 _ e).2.2.2.2.2.2.2.2 rfl)]
 ·rw [e, Zzd a, ((fp_2 a.1 a.2.1 a.2.2.1 a.2.2.2 _ e).2.2.2.2.2.2.2.2 rfl)]
 ·rw [e, Zzc a, ((fp_7 a.1 a.2.1 a.2.2.1 a.2.2.2 _ e).2.2.2 rfl)]
 ·rw [e, Zzb a, ((fp_3 a.1 a.2.1 a.2.2.1 a.2.2.2 _ e).2.2.2.2.2.2.2.2 rfl)]
 ·rw [e, Zza a, ((fp_4 a.1 a.2.1 a.2.2.1 a.2.2.2 _ e).2.2.2.2.2.2.2.2 rfl)]
def Zpj : Entry := Zm Zl ZV (fun _ => none) (fun a => finX a.1 a.2.1 a.2.2.1 a.2.2.2)
theorem ZoG : Zb Tryz.prog 111 Zpj := Zn9 Tryz.func111 rfl (by kernel_rfl) Tryz.call111 fun a h _ => ZKd a h
abbrev LnT := QT1
abbrev ZxI : List Sh := [Sh.one (R.int i64), Sh.one (R.int i64)]
abbrev ZpF : Rs := Rs.one (Sh.one (R.int i64))
def Zll (x : Int) (n : Int) : RT (Option (Int)) :=
 .br (IntKind.u64.wrap n != 0) (.leaf (some (i64.wrap (Int.tmod (IntKind.u64.wrap x) (IntKind.u64.wrap n))))) (.leaf none)
def ZxJ (x : Int) (n : Int) : Int := getO ZpF.dflt (Zll x n).val
def ZpG (x : Int) (n : Int) : Bool := okB (Zll x n).val
def ZEo : Entry := Zm ZxI ZpF (fun a => some (ZpG a.1 a.2)) (fun a => ZxJ a.1 a.2)
theorem ZEm : Zb Tryz.prog 24 ZEo :=
 pureP 31 [] [] ZxI ZpF trivial Tryz.func24 Tryz.call24 trivial (t := fun a => Zll a.1 a.2) (fun a => by kernel_rfl)
abbrev Zvj : R := R.pair (R.sl (R.int i64)) (R.int i64)
abbrev ZDV : List Sh := [Sh.one (R.int i64)]
abbrev Zvi : Rs := Rs.one (Sh.one (R.int i64))
def Zla (s : List Int × Int) (n : Int) : RT (Option (QT21)) :=
 let x1 := Zf (i64.wrap (i64.wrap (s.2 + 1) - 1)) (List.length s.1)
 let x2 : Int := R.get (R.int i64) s.1 (i64.wrap (i64.wrap (s.2 + 1) - 1))
 .br (decide (s.2 ≥ iN (List.length s.1))) (.leaf (some ((0, s.1, i64.wrap (s.2 + 1))))) (.br (!x1 || ZpG x2 n) (.br (x1) (.leaf (some ((ZxJ x2 n, s.1, i64.wrap (s.2 + 1))))) (.leaf none)) (.leaf none))
def Zd (s : List Int × Int) (n : Int) : QT21 := getO (Zvi.dflt, Zvj.dflt) (Zla s n).val
def Zr (s : List Int × Int) (n : Int) : Bool := okB (Zla s n).val
def ZbG : Entry := boxE Zvj ZDV Zvi (fun a => some (Zr a.1 a.2)) (fun a => Zd a.1 a.2)
theorem Za0 : Zb Tryz.prog 46 ZbG :=
 ZbC (P := Tryz.prog) (n := 31) (k := 8) (l := [(24, ZEo)]) (ol := []) ⟨ZEm, trivial⟩ Tryz.func46 rfl (by kernel_rfl) Tryz.call46 trivial (rb := Zvj) (ts := ZDV) (rs := Zvi) (t := fun a => Zla a.1 a.2) (fun a => by kernel_rfl)
abbrev Zvs : R := R.pair (R.sl (R.int i64)) (R.int i64)
abbrev ZEa : List Sh := []
abbrev Zvr : Rs := Rs.one (Sh.one (R.int u8))
def Zld (s : List Int × Int) : RT (Option (QT21)) :=
 let x1 : List Int := [0, 1, 127, 128, 255, 15, 16, 153, 154, 9, 102, 254, 129, 85, 170, 64]
 .br (Zr s 512) (.br (!decide ((Zd s 512).1 ≥ 256) || Zf (Int.tmod (Zd s 512).1 16) (List.length x1)) (.br (decide ((Zd s 512).1 ≥ 256)) (.leaf (some ((R.get (R.int u8) x1 (Int.tmod (Zd s 512).1 16), (Zd s 512).2)))) (.leaf (some ((u8.wrap (Zd s 512).1, (Zd s 512).2))))) (.leaf none)) (.leaf none)
def Zj (s : List Int × Int) : QT21 := getO (Zvr.dflt, Zvs.dflt) (Zld s).val
def Z3 (s : List Int × Int) : Bool := okB (Zld s).val
def Zh0 : Entry := boxE Zvs ZEa Zvr (fun a => some (Z3 a.1 )) (fun a => Zj a.1 )
theorem ZgA : Zb Tryz.prog 108 Zh0 :=
 ZbC (P := Tryz.prog) (n := 15) (k := 8) (l := [(46, ZbG)]) (ol := []) ⟨Za0, trivial⟩ Tryz.func108 rfl (by kernel_rfl) Tryz.call108 trivial (rb := Zvs) (ts := ZEa) (rs := Zvr) (t := fun a => Zld a.1 ) (fun a => by kernel_rfl)
abbrev Zu9 : R := R.pair (R.sl (R.int i64)) (R.int i64)
abbrev ZDT : List Sh := []
abbrev Zu8 : Rs := Rs.one (Sh.one (R.int u16))
def Zgy (s : List Int × Int) : RT (Option (QT21)) :=
 let x1 : List Int := [0, 1, 65535, 65534, 32767, 32768, 255, 256]
 let x2 := !(Zd s 5).1 == 0 || (!Zr (Zd s 5).2 8 || Zf (Zd (Zd s 5).2 8).1 (List.length x1))
 let x3 := !x2
 let x4 := !(Zd s 5).1 == 0 || Zr (Zd s 5).2 8
 .br (Zr s 5) (.br (x3 || (!x4 || ((Zd s 5).1 == 0 || (!(Zd s 5).1 == 1 || Zr (Zd s 5).2 65536)))) (.br (x3 || x4) (.br (x2) (.br ((Zd s 5).1 == 0) (.leaf (some ((R.get (R.int u16) x1 (Zd (Zd s 5).2 8).1, (Zd (Zd s 5).2 8).2)))) (.br ((Zd s 5).1 == 1) (.leaf (some ((u16.wrap (Zd (Zd s 5).2 65536).1, (Zd (Zd s 5).2 65536).2)))) (.br (Zr (Zd s 5).2 64) (.leaf (some ((u16.wrap (Zd (Zd s 5).2 64).1, (Zd (Zd s 5).2 64).2)))) (.leaf none)))) (.leaf none)) (.leaf none)) (.leaf none)) (.leaf none)
def Zai (s : List Int × Int) : QT21 := getO (Zu8.dflt, Zu9.dflt) (Zgy s).val
def Zb0 (s : List Int × Int) : Bool := okB (Zgy s).val
def ZhY : Entry := boxE Zu9 ZDT Zu8 (fun a => some (Zb0 a.1 )) (fun a => Zai a.1 )
theorem Zgx : Zb Tryz.prog 137 ZhY :=
 ZbC (P := Tryz.prog) (n := 4135) (k := 8) (l := [(46, ZbG)]) (ol := []) ⟨Za0, trivial⟩ Tryz.func137 rfl (by kernel_rfl) Tryz.call137 trivial (rb := Zu9) (ts := ZDT) (rs := Zu8) (t := fun a => Zgy a.1 ) (fun a => by kernel_rfl)
abbrev Zvo : R := R.pair (R.sl (R.int i64)) (R.int i64)
abbrev ZD3 : List Sh := []
abbrev Zvn : Rs := Rs.one (Sh.one (R.int i64))
def Zrv (s : List Int × Int) : RT (Option (QT21)) :=
 .br (Zr s 2) (.leaf (some ((i64.wrap (1 + (Zd s 2).1), (Zd s 2).2)))) (.leaf none)
def Zav (s : List Int × Int) : QT21 := getO (Zvn.dflt, Zvo.dflt) (Zrv s).val
def ZxA (s : List Int × Int) : Bool := okB (Zrv s).val
def ZIK : Entry := boxE Zvo ZD3 Zvn (fun a => some (ZxA a.1 )) (fun a => Zav a.1 )
theorem ZG5 : Zb Tryz.prog 72 ZIK :=
 ZbC (P := Tryz.prog) (n := 7) (k := 8) (l := [(46, ZbG)]) (ol := []) ⟨Za0, trivial⟩ Tryz.func72 rfl (by kernel_rfl) Tryz.call72 trivial (rb := Zvo) (ts := ZD3) (rs := Zvn) (t := fun a => Zrv a.1 ) (fun a => by kernel_rfl)
abbrev Zpv : R := R.pair (R.sl (R.int i64)) (R.int i64)
abbrev Zxy : List Sh := [Sh.one (R.int i64)]
abbrev Zpu : Rs := Rs.one (Sh.agg rcF7)
def Zpt (s : List Int × Int) (chip : Int) : RT (Option (TF × List Int × Int)) :=
 .br (Zr s 128) (.leaf (some (((andI i64 (Zd s 128).1 1 != 0, andI i64 (Zd s 128).1 2 != 0, chip == 2 && andI i64 (Zd s 128).1 32 != 0, andI i64 (Zd s 128).1 4 != 0, andI i64 (Zd s 128).1 8 != 0, chip == 2 && andI i64 (Zd s 128).1 64 != 0, andI i64 (Zd s 128).1 16 != 0), (Zd s 128).2)))) (.leaf none)
def ZhZ (s : List Int × Int) (chip : Int) : TF × List Int × Int := getO (Zpu.dflt, Zpv.dflt) (Zpt s chip).val
def Zpw (s : List Int × Int) (chip : Int) : Bool := okB (Zpt s chip).val
def ZD1 : Entry := boxE Zpv Zxy Zpu (fun a => some (Zpw a.1 a.2)) (fun a => ZhZ a.1 a.2)
theorem ZDZ : Zb Tryz.prog 136 ZD1 :=
 ZbC (P := Tryz.prog) (n := 127) (k := 8) (l := [(46, ZbG)]) (ol := []) ⟨Za0, trivial⟩ Tryz.func136 rfl (by kernel_rfl) Tryz.call136 trivial (rb := Zpv) (ts := Zxy) (rs := Zpu) (t := fun a => Zpt a.1 a.2) (fun a => by kernel_rfl)
abbrev Zvb : R := R.pair (R.sl (R.int i64)) (R.int i64)
abbrev ZDU : List Sh := [Sh.one (R.int i64)]
abbrev Zva : Rs := Rs.one (Sh.agg Zf6)
def Zrq (s : List Int × Int) (chip : Int) : RT (Option (TR × List Int × Int)) :=
 let x1 := Zj (Zj (Zj (Zj (Zj (Zj (Zj s).2).2).2).2).2).2
 let x2 := x1.2
 let x3 := Zpw x2 chip
 let x4 := !x3
 let x5 := ZhZ x2 chip
 let x6 := x5.2
 let x7 := Zb0 x6
 let x8 := Zai x6
 let x9 := x8.2
 let x10 := Zai x9
 .br (!Z3 s || (!Z3 (Zj s).2 || (!Z3 (Zj (Zj s).2).2 || (!Z3 (Zj (Zj (Zj s).2).2).2 || (!Z3 (Zj (Zj (Zj (Zj s).2).2).2).2 || (!Z3 (Zj (Zj (Zj (Zj (Zj s).2).2).2).2).2 || Z3 (Zj (Zj (Zj (Zj (Zj (Zj s).2).2).2).2).2).2)))))) (.br (!Z3 s || (!Z3 (Zj s).2 || (!Z3 (Zj (Zj s).2).2 || (!Z3 (Zj (Zj (Zj s).2).2).2 || (!Z3 (Zj (Zj (Zj (Zj s).2).2).2).2 || Z3 (Zj (Zj (Zj (Zj (Zj s).2).2).2).2).2))))) (.br (!Z3 s || (!Z3 (Zj s).2 || (!Z3 (Zj (Zj s).2).2 || (!Z3 (Zj (Zj (Zj s).2).2).2 || Z3 (Zj (Zj (Zj (Zj s).2).2).2).2)))) (.br (!Z3 s || (!Z3 (Zj s).2 || (!Z3 (Zj (Zj s).2).2 || Z3 (Zj (Zj (Zj s).2).2).2))) (.br (!Z3 s || (!Z3 (Zj s).2 || Z3 (Zj (Zj s).2).2)) (.br (!Z3 s || Z3 (Zj s).2) (.br (Z3 s) (.br (x4 || (!x7 || Zb0 x9)) (.br (x4 || x7) (.br (x3) (.leaf (some ((((Zj s).1, (Zj (Zj s).2).1, (Zj (Zj (Zj s).2).2).1, (Zj (Zj (Zj (Zj s).2).2).2).1, (Zj (Zj (Zj (Zj (Zj s).2).2).2).2).1, (Zj (Zj (Zj (Zj (Zj (Zj s).2).2).2).2).2).1, x1.1, x5.1, x8.1, x10.1), x10.2)))) (.leaf none)) (.leaf none)) (.leaf none)) (.leaf none)) (.leaf none)) (.leaf none)) (.leaf none)) (.leaf none)) (.leaf none)) (.leaf none)
def Zhn (s : List Int × Int) (chip : Int) : TR × List Int × Int := getO (Zva.dflt, Zvb.dflt) (Zrq s chip).val
def Zrr (s : List Int × Int) (chip : Int) : Bool := okB (Zrq s chip).val
def ZIH : Entry := boxE Zvb ZDU Zva (fun a => some (Zrr a.1 a.2)) (fun a => Zhn a.1 a.2)
theorem ZG2 : Zb Tryz.prog 73 ZIH :=
 ZbC (P := Tryz.prog) (n := 63) (k := 8) (l := [(108, Zh0), (136, ZD1), (137, ZhY)]) (ol := []) ⟨ZgA, ZDZ, Zgx, trivial⟩ Tryz.func73 rfl (by kernel_rfl) Tryz.call73 trivial (rb := Zvb) (ts := ZDU) (rs := Zva) (t := fun a => Zrq a.1 a.2) (fun a => by kernel_rfl)
abbrev Zk9 : R := R.pair (R.sl (R.int i64)) (R.int i64)
abbrev Zru : List Sh := []
abbrev Zk8 : Rs := Rs.one (Sh.one (R.int u8))
def Zd0 (s : List Int × Int) : RT (Option (QT21)) :=
 let x1 : List Int := [251, 243, 118, 205, 201, 197, 227, 211, 219, 54, 52, 32, 48, 194, 202, 255, 62, 49]
 .br (Zr s 3) (.br (!decide ((Zd s 3).1 > 0) || Zr (Zd s 3).2 256) (.br (decide ((Zd s 3).1 > 0)) (.leaf (some ((u8.wrap (Zd (Zd s 3).2 256).1, (Zd (Zd s 3).2 256).2)))) (.br (!Zr (Zd s 3).2 18 || Zf (Zd (Zd s 3).2 18).1 (List.length x1)) (.br (Zr (Zd s 3).2 18) (.leaf (some ((R.get (R.int u8) x1 (Zd (Zd s 3).2 18).1, (Zd (Zd s 3).2 18).2)))) (.leaf none)) (.leaf none))) (.leaf none)) (.leaf none)
def ZaZ (s : List Int × Int) : QT21 := getO (Zk8.dflt, Zk9.dflt) (Zd0 s).val
def ZcM (s : List Int × Int) : Bool := okB (Zd0 s).val
def ZiI : Entry := boxE Zk9 Zru Zk8 (fun a => some (ZcM a.1 )) (fun a => ZaZ a.1 )
theorem ZmS : Zb Tryz.prog 109 ZiI :=
 ZbC (P := Tryz.prog) (n := 7) (k := 8) (l := [(46, ZbG)]) (ol := []) ⟨Za0, trivial⟩ Tryz.func109 rfl (by kernel_rfl) Tryz.call109 trivial (rb := Zk9) (ts := Zru) (rs := Zk8) (t := fun a => Zd0 a.1 ) (fun a => by kernel_rfl)
def NB (s : List Int × Int) (k : Int) : Prop := 0 ≤ s.2 ∧ s.2 ≤ k
theorem ZEn (x n : Int) (h0 : 0 < n) (h1 : n ≤ 4611686018427387904) : ZpG x n = true ∧ ZxJ x n = (x % 18446744073709551616) % n := by
 have e : IntKind.wrap .u64 n = n := ZiP ⟨by simp [IntKind.min, IntKind.signed]; omega, by simp [IntKind.max, IntKind.signed, IntKind.bits]; omega⟩
 have e2 : IntKind.wrap .u64 x = x % 18446744073709551616 := by simp [IntKind.wrap, IntKind.signed, IntKind.bits]
 have hn : (n != 0) = true := by simp; omega
 have h2 : 0 ≤ x % 18446744073709551616 := Int.emod_nonneg _ (by decide)
 have h3 := Int.emod_nonneg (x % 18446744073709551616) (b := n) (by omega)
 have h4 := Int.emod_lt_of_pos (x % 18446744073709551616) (b := n) h0
 have hv : (Zll x n).val = some ((x % 18446744073709551616) % n) := by
  simp only [Zll, RT.val, e, e2, hn, cond_true, Int.tmod_eq_emod_of_nonneg h2]
  rw [wrap_i64 _ (by omega) (by omega)]
 exact ⟨by simp only [ZpG, hv]; rfl, by simp only [ZxJ, hv, getO]⟩
theorem ZO {s : List Int × Int} {k : Int} (h : NB s k) (hk : k ≤ 1000000) (n : Int) (h0 : 0 < n) (h1 : n ≤ 4611686018427387904) :
  Zr s n = true ∧ NB (Zd s n).2 (k + 1) ∧ 0 ≤ (Zd s n).1 ∧ (Zd s n).1 < n := by
 obtain ⟨ha, hb⟩ := h
 have e1 : IntKind.wrap .i64 (s.2 + 1) = s.2 + 1 := wrap_i64 _ (by omega) (by omega)
 have e2 : IntKind.wrap .i64 s.2 = s.2 := wrap_i64 _ (by omega) (by omega)
 by_cases hl : (s.1.length : Int) ≤ s.2
 ·have hv : (Zla s n).val = some (0, s.1, s.2 + 1) := by simp [Zla, RT.val, iN, hl, e1]
  simp only [Zr, Zd, hv, okB, getO, NB]
  exact ⟨trivial, ⟨by omega, by omega⟩, by omega, h0⟩
 ·have hr : Zf s.2 s.1.length = true := Zaz.2 ⟨ha, by omega⟩
  obtain ⟨p1, p2⟩ := ZEn (R.get (R.int i64) s.1 s.2) n h0 h1
  have h3 := Int.emod_nonneg (R.get (R.int i64) s.1 s.2 % 18446744073709551616) (b := n) (by omega)
  have h4 := Int.emod_lt_of_pos (R.get (R.int i64) s.1 s.2 % 18446744073709551616) (b := n) h0
  have hv : (Zla s n).val = some ((R.get (R.int i64) s.1 s.2 % 18446744073709551616) % n, s.1, s.2 + 1) := by simp [Zla, RT.val, iN, hl, e1, e2, hr, p1, p2]
  simp only [Zr, Zd, hv, okB, getO, NB]
  exact ⟨trivial, ⟨by omega, by omega⟩, h3, h4⟩
theorem Zck {s : List Int × Int} {k : Int} (h : NB s k) (hk : k ≤ 1000000) : Z3 s = true ∧ NB (Zj s).2 (k + 1) ∧ inR .u8 (Zj s).1 := by
 obtain ⟨c, b, d0, d1⟩ := ZO h hk 512 (by decide) (by decide)
 have m0 : 0 ≤ (Zd s 512).1 % 16 := Int.emod_nonneg _ (by decide)
 have m1 : (Zd s 512).1 % 16 < 16 := Int.emod_lt_of_pos _ (by decide)
 have ht : Int.tmod (Zd s 512).1 16 = (Zd s 512).1 % 16 := Int.tmod_eq_emod_of_nonneg d0
 by_cases hn : 256 ≤ (Zd s 512).1
 ·have hv : (Zld s).val = some (R.get (R.int u8) [0, 1, 127, 128, 255, 15, 16, 153, 154, 9, 102, 254, 129, 85, 170, 64] ((Zd s 512).1 % 16), (Zd s 512).2) := by
   simp [Zld, RT.val, c, hn, ht, Zf, m0, m1]
  simp only [Z3, Zj, hv, okB, getO]
  refine ⟨trivial, b, ?_⟩
  have hall : ∀ i : Nat, i < 16 → inR .u8 (([0, 1, 127, 128, 255, 15, 16, 153, 154, 9, 102, 254, 129, 85, 170, 64] : List Int).getD i 0) := by
   intro i hi
   have : ∀ i : Fin 16, decide (0 ≤ ([0, 1, 127, 128, 255, 15, 16, 153, 154, 9, 102, 254, 129, 85, 170, 64] : List Int).getD i 0) && decide (([0, 1, 127, 128, 255, 15, 16, 153, 154, 9, 102, 254, 129, 85, 170, 64] : List Int).getD i 0 ≤ 255) := by decide
   have := this ⟨i, hi⟩
   rw [ZmZ]; simpa using this
  exact hall ((Zd s 512).1 % 16).toNat (by omega)
 ·have hv : (Zld s).val = some (IntKind.wrap .u8 (Zd s 512).1, (Zd s 512).2) := by simp [Zld, RT.val, c, hn]
  simp only [Z3, Zj, hv, okB, getO]
  exact ⟨trivial, b, ZaL _ _⟩
theorem ZiH {s : List Int × Int} {k : Int} (h : NB s k) (hk : k ≤ 900000) : Zb0 s = true ∧ NB (Zai s).2 (k + 2) ∧ inR .u16 (Zai s).1 := by
 obtain ⟨c, b, d0, d1⟩ := ZO h (by omega) 5 (by decide) (by decide)
 obtain ⟨c8, b8, e0, e1⟩ := ZO b (by omega) 8 (by decide) (by decide)
 obtain ⟨c6, b6, _⟩ := ZO b (by omega) 65536 (by decide) (by decide)
 obtain ⟨c4, b4, _⟩ := ZO b (by omega) 64 (by decide) (by decide)
 have w : ∀ {t : List Int × Int}, NB t (k + 1 + 1) → NB t (k + 2) := fun h => ⟨h.1, by have := h.2; omega⟩
 have hr : Zf (Zd (Zd s 5).2 8).1 8 = true := Zaz.2 ⟨e0, by omega⟩
 by_cases h0 : (Zd s 5).1 = 0
 ·have hv : (Zgy s).val = some (R.get (R.int u16) [0, 1, 65535, 65534, 32767, 32768, 255, 256] (Zd (Zd s 5).2 8).1, (Zd (Zd s 5).2 8).2) := by
   simp [Zgy, RT.val, c, h0, c8, hr]
  simp only [Zb0, Zai, hv, okB, getO]
  refine ⟨trivial, w b8, ?_⟩
  have hall : ∀ i : Nat, i < 8 → inR .u16 (([0, 1, 65535, 65534, 32767, 32768, 255, 256] : List Int).getD i 0) := by
   intro i hi
   have : ∀ i : Fin 8, decide (0 ≤ ([0, 1, 65535, 65534, 32767, 32768, 255, 256] : List Int).getD i 0) && decide (([0, 1, 65535, 65534, 32767, 32768, 255, 256] : List Int).getD i 0 ≤ 65535) := by decide
   have := this ⟨i, hi⟩
   simp only [Bool.and_eq_true, decide_eq_true_eq] at this
   exact ⟨by simpa [IntKind.min, IntKind.signed] using this.1, by simpa [IntKind.max, IntKind.signed, IntKind.bits] using this.2⟩
  exact hall (Zd (Zd s 5).2 8).1.toNat (by omega)
 ·by_cases h1 : (Zd s 5).1 = 1
  ·have hv : (Zgy s).val = some (IntKind.wrap .u16 (Zd (Zd s 5).2 65536).1, (Zd (Zd s 5).2 65536).2) := by simp [Zgy, RT.val, c, h1, c6]
   simp only [Zb0, Zai, hv, okB, getO]
   exact ⟨trivial, w b6, ZaL _ _⟩
  ·have hv : (Zgy s).val = some (IntKind.wrap .u16 (Zd (Zd s 5).2 64).1, (Zd (Zd s 5).2 64).2) := by
    have g0 : ((Zd s 5).1 == 0) = false := by simpa using h0
    have g1 : ((Zd s 5).1 == 1) = false := by simpa using h1
    simp [Zgy, RT.val, c, g0, g1, c4]
   simp only [Zb0, Zai, hv, okB, getO]
   exact ⟨trivial, w b4, ZaL _ _⟩
theorem ZG6 {s : List Int × Int} {k : Int} (h : NB s k) (hk : k ≤ 1000000) : ZxA s = true ∧ NB (Zav s).2 (k + 1) ∧ ((Zav s).1 = 1 ∨ (Zav s).1 = 2) := by
 obtain ⟨c, b, d0, d1⟩ := ZO h hk 2 (by decide) (by decide)
 have hv : (Zrv s).val = some (1 + (Zd s 2).1, (Zd s 2).2) := by simp [Zrv, RT.val, c]; rw [wrap_i64 _ (by omega) (by omega)]
 simp only [ZxA, Zav, hv, okB, getO]
 exact ⟨trivial, b, by omega⟩
theorem ZD0 {s : List Int × Int} {k : Int} (h : NB s k) (hk : k ≤ 1000000) (c : Int) : Zpw s c = true ∧ NB (ZhZ s c).2 (k + 1) := by
 obtain ⟨c1, b, _⟩ := ZO h hk 128 (by decide) (by decide)
 simp only [Zpw, ZhZ, Zpt, RT.val, c1, cond_true, okB, getO]
 exact ⟨trivial, b⟩
def RegOk (r : Int × Int × Int × Int × Int × Int × Int × (Bool × Bool × Bool × Bool × Bool × Bool × Bool) × Int × Int) : Prop :=
 inR .u8 r.1 ∧ inR .u8 r.2.1 ∧ inR .u8 r.2.2.1 ∧ inR .u8 r.2.2.2.1 ∧ inR .u8 r.2.2.2.2.1 ∧ inR .u8 r.2.2.2.2.2.1 ∧ inR .u8 r.2.2.2.2.2.2.1 ∧ inR .u16 r.2.2.2.2.2.2.2.2.1 ∧ inR .u16 r.2.2.2.2.2.2.2.2.2
theorem ZG3 {s : List Int × Int} {k : Int} (h : NB s k) (hk : k ≤ 800000) (c : Int) : Zrr s c = true ∧ NB (Zhn s c).2 (k + 12) ∧ RegOk (Zhn s c).1 := by
 obtain ⟨c1, b1, r1⟩ := Zck h (by omega)
 obtain ⟨c2, b2, r2⟩ := Zck b1 (by omega)
 obtain ⟨c3, b3, r3⟩ := Zck b2 (by omega)
 obtain ⟨c4, b4, r4⟩ := Zck b3 (by omega)
 obtain ⟨c5, b5, r5⟩ := Zck b4 (by omega)
 obtain ⟨c6, b6, r6⟩ := Zck b5 (by omega)
 obtain ⟨c7, b7, r7⟩ := Zck b6 (by omega)
 obtain ⟨c8, b8⟩ := ZD0 b7 (by omega) c
 obtain ⟨c9, b9, r9⟩ := ZiH b8 (by omega)
 obtain ⟨c10, b10, r10⟩ := ZiH b9 (by omega)
 have hv : (Zrq s c).val = some (((Zj s).1, (Zj (Zj s).2).1, (Zj (Zj (Zj s).2).2).1, (Zj (Zj (Zj (Zj s).2).2).2).1, (Zj (Zj (Zj (Zj (Zj s).2).2).2).2).1, (Zj (Zj (Zj (Zj (Zj (Zj s).2).2).2).2).2).1, (Zj (Zj (Zj (Zj (Zj (Zj (Zj s).2).2).2).2).2).2).1, (ZhZ (Zj (Zj (Zj (Zj (Zj (Zj (Zj s).2).2).2).2).2).2).2 c).1, (Zai (ZhZ (Zj (Zj (Zj (Zj (Zj (Zj (Zj s).2).2).2).2).2).2).2 c).2).1, (Zai (Zai (ZhZ (Zj (Zj (Zj (Zj (Zj (Zj (Zj s).2).2).2).2).2).2).2 c).2).2).1), (Zai (Zai (ZhZ (Zj (Zj (Zj (Zj (Zj (Zj (Zj s).2).2).2).2).2).2).2 c).2).2).2) := by
  simp only [Zrq, RT.val, c1, c2, c3, c4, c5, c6, c7, c8, c9, c10, Bool.not_true, Bool.false_or, cond_true, Bool.or_true]
 simp only [Zrr, Zhn, hv, okB, getO]
 exact ⟨trivial, ⟨b10.1, by have := b10.2; omega⟩, r1, r2, r3, r4, r5, r6, r7, r9, r10⟩
theorem ZzU {s : List Int × Int} {k : Int} (h : NB s k) (hk : k ≤ 900000) : ZcM s = true ∧ NB (ZaZ s).2 (k + 2) ∧ inR .u8 (ZaZ s).1 := by
 obtain ⟨c, b, d0, d1⟩ := ZO h (by omega) 3 (by decide) (by decide)
 have w : ∀ {t : List Int × Int}, NB t (k + 1 + 1) → NB t (k + 2) := fun h => ⟨h.1, by have := h.2; omega⟩
 by_cases hn : 0 < (Zd s 3).1
 ·have hk' : k + 1 ≤ 1000001 := by omega
  obtain ⟨c2, b2, _⟩ := ZO b (by omega) 256 (by decide) (by decide)
  have hv : (Zd0 s).val = some (IntKind.wrap .u8 (Zd (Zd s 3).2 256).1, (Zd (Zd s 3).2 256).2) := by simp [Zd0, RT.val, c, hn, c2]
  simp only [ZcM, ZaZ, hv, okB, getO]
  exact ⟨trivial, w b2, ZaL _ _⟩
 ·obtain ⟨c2, b2, e0, e1⟩ := ZO b (by omega) 18 (by decide) (by decide)
  have hr : Zf (Zd (Zd s 3).2 18).1 18 = true := Zaz.2 ⟨e0, by omega⟩
  have hv : (Zd0 s).val = some (R.get (R.int u8) [251, 243, 118, 205, 201, 197, 227, 211, 219, 54, 52, 32, 48, 194, 202, 255, 62, 49] (Zd (Zd s 3).2 18).1, (Zd (Zd s 3).2 18).2) := by
   simp [Zd0, RT.val, c, hn, c2, hr]
  simp only [ZcM, ZaZ, hv, okB, getO]
  refine ⟨trivial, w b2, ?_⟩
  have hall : ∀ i : Nat, i < 18 → inR .u8 (([251, 243, 118, 205, 201, 197, 227, 211, 219, 54, 52, 32, 48, 194, 202, 255, 62, 49] : List Int).getD i 0) := by
   intro i hi
   have : ∀ i : Fin 18, decide (0 ≤ ([251, 243, 118, 205, 201, 197, 227, 211, 219, 54, 52, 32, 48, 194, 202, 255, 62, 49] : List Int).getD i 0) && decide (([251, 243, 118, 205, 201, 197, 227, 211, 219, 54, 52, 32, 48, 194, 202, 255, 62, 49] : List Int).getD i 0 ≤ 255) := by decide
   have := this ⟨i, hi⟩
   rw [ZmZ]; simpa using this
  exact hall (Zd (Zd s 3).2 18).1.toNat (by omega)
theorem ZK1 (l : List Int) : NB (l, 0) 0 := ⟨by simp, by simp⟩
end
end Go.Proofs.YtghoimllhpjkjaaGreat
