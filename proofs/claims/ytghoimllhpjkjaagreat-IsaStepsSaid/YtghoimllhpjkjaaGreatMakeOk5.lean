/-
  What the makers of inputs make: in range, and never a panic. Conditions: none.
-/
import Derived.Test.YtghoimllhpjkjaaGreatS3D
import Derived.Test.YtghoimllhpjkjaaGreatProg
import Derived.Test.YtghoimllhpjkjaaGreatFin2
import Derived.Test.YtghoimllhpjkjaaGreatPinsEq
open Go.IntKind (u8 u16 i64)
set_option linter.unusedSimpArgs false
open Go Go.S3 Go.Proofs
set_option linter.unusedVariables false
set_option maxRecDepth 100000
namespace Go.Proofs.YtghoimllhpjkjaaGreat
noncomputable section
def Zxp (c : TC) (s : Int) (g : List Int) (ln : QT0) : RT (Option TC) :=
 let x1 : QT1 := (c, s == 5, g, (0, 0, 0, 0, 0, 0, 0, 0), [])
 let x2 := qAtC x1 0
 let x3 := Zb c.1 (qAt x1 0)
 let x4 := !x2 || x3.1 == 3
 let x5 := x3.2
 let x6 : QT1 := (c, s == 5, g, (3, x5), [])
 .br (Ze s) (.leaf (some ((c.1, (rgx c.2.1 c.2.1.2.2.2.2.2.2.2.1 (u16.wrap ((spOf c) - 2)) (Zh s)), c.2.2)))) (.br (!x4 || x2) (.br (x4) (.br (qAtC x6 1) (.leaf (some ((c.1, rSet (rgx c.2.1 c.2.1.2.2.2.2.2.2.2.1 (spOf c) (ZD x6)) x5.2.1 (qAt x6 1), c.2.2.1, false, false, c.2.2.2.2.2)))) (.leaf none)) (.leaf none)) (.leaf none))
theorem ZHk (a : HL Zo) : Zg (envX Tryz.prog (Zay 3) [] 1023 8) Tryz.f111 Zo Z3 a = Zxp a.1 a.2.1 a.2.2.1 a.2.2.2 := by kernel_rfl
def Zxl (c : TC) (s : Int) (g : List Int) (ln : QT0) : RT (Option TC) :=
 let x1 : QT1 := (c, s == 5, g, (0, 0, 0, 0, 0, 0, 0, 0), [])
 let x2 := qAtC x1 0
 let x3 := Zb c.1 (qAt x1 0)
 let x4 := !x2 || x3.1 == 7
 let x5 : QT1 := (c, s == 5, g, (7, x3.2), [])
 .br (Ze s) (.leaf (some ((c.1, (rgx c.2.1 c.2.1.2.2.2.2.2.2.2.1 (u16.wrap ((spOf c) - 2)) (Zh s)), c.2.2)))) (.br (!x4 || x2) (.br (x4) (.br (Zch x5 3) (.leaf (some ((c.1, Zr (rgx c.2.1 c.2.1.2.2.2.2.2.2.2.1 (spOf c) (ZD x5)) 2 (Ze9 x5 3), c.2.2.1, false, false, c.2.2.2.2.2)))) (.leaf none)) (.leaf none)) (.leaf none))
theorem ZHg (a : HL Zo) : Zg (envX Tryz.prog (Zay 7) [] 1023 8) Tryz.f111 Zo Z3 a = Zxl a.1 a.2.1 a.2.2.1 a.2.2.2 := by kernel_rfl
def Zrb (c : TC) (s : Int) (g : List Int) (ln : QT0) : RT (Option TC) :=
 let x1 : QT1 := (c, s == 5, g, (0, 0, 0, 0, 0, 0, 0, 0), [])
 let x2 := qAtC x1 0
 let x3 := Zb c.1 (qAt x1 0)
 let x4 := !x2 || x3.1 == 11
 .br (Ze s) (.leaf (some ((c.1, (rgx c.2.1 c.2.1.2.2.2.2.2.2.2.1 (u16.wrap ((spOf c) - 2)) (Zh s)), c.2.2)))) (.br (!x4 || x2) (.br (x4) (.leaf (some ((c.1, (c.2.1.1, c.2.1.2.1, c.2.1.2.2.1, c.2.1.2.2.2.2.2.1, c.2.1.2.2.2.2.2.2.1, c.2.1.2.2.2.1, c.2.1.2.2.2.2.1, c.2.1.2.2.2.2.2.2.2.1, spOf c, ZD (c, s == 5, g, (11, x3.2), [])), c.2.2.1, false, false, c.2.2.2.2.2)))) (.leaf none)) (.leaf none))
theorem ZDc (a : HL Zo) : Zg (envX Tryz.prog (Zay 11) [] 1023 8) Tryz.f111 Zo Z3 a = Zrb a.1 a.2.1 a.2.2.1 a.2.2.2 := by kernel_rfl
def Zq7 (c : TC) (s : Int) (g : List Int) (ln : QT0) : RT (Option TC) :=
 let x1 : QT1 := (c, s == 5, g, (0, 0, 0, 0, 0, 0, 0, 0), [])
 let x2 := qAtC x1 0
 let x3 := Zb c.1 (qAt x1 0)
 let x4 := !x2 || x3.1 == 15
 let x5 := x3.2
 let x6 := x5.2.1
 let x7 := x6 == 6
 let x8 : QT1 := (c, s == 5, g, (15, x5), [])
 let x9 := rDcr c.1 (bif x7 then qAt x8 1 else qReg x8 x6) c.2.1.2.2.2.2.2.2.2.1
 .br (Ze s) (.leaf (some ((c.1, (rgx c.2.1 c.2.1.2.2.2.2.2.2.2.1 (u16.wrap ((spOf c) - 2)) (Zh s)), c.2.2)))) (.br (!x4 || x2) (.br (x4) (.br (!x7 || qAtC x8 1) (.leaf (some ((c.1, rSet (rgx c.2.1 x9.2 (spOf c) (ZD x8)) x6 x9.1, c.2.2.1, false, false, c.2.2.2.2.2)))) (.leaf none)) (.leaf none)) (.leaf none))
theorem ZC8 (a : HL Zo) : Zg (envX Tryz.prog (Zay 15) [] 1023 8) Tryz.f111 Zo Z3 a = Zq7 a.1 a.2.1 a.2.2.1 a.2.2.2 := by kernel_rfl
def Zq3 (c : TC) (s : Int) (g : List Int) (ln : QT0) : RT (Option TC) :=
 let x1 : QT1 := (c, s == 5, g, (0, 0, 0, 0, 0, 0, 0, 0), [])
 let x2 := qAtC x1 0
 let x3 := Zb c.1 (qAt x1 0)
 let x4 := !x2 || x3.1 == 19
 let x5 := rDaa c.1 c.2.1.1 c.2.1.2.2.2.2.2.2.2.1
 .br (Ze s) (.leaf (some ((c.1, (rgx c.2.1 c.2.1.2.2.2.2.2.2.2.1 (u16.wrap ((spOf c) - 2)) (Zh s)), c.2.2)))) (.br (!x4 || x2) (.br (x4) (.leaf (some ((c.1, (x5.1, c.2.1.2.1, c.2.1.2.2.1, c.2.1.2.2.2.1, c.2.1.2.2.2.2.1, c.2.1.2.2.2.2.2.1, c.2.1.2.2.2.2.2.2.1, x5.2, spOf c, ZD (c, s == 5, g, (19, x3.2), [])), c.2.2.1, false, false, c.2.2.2.2.2)))) (.leaf none)) (.leaf none))
theorem ZC4 (a : HL Zo) : Zg (envX Tryz.prog (Zay 19) [] 1023 8) Tryz.f111 Zo Z3 a = Zq3 a.1 a.2.1 a.2.2.1 a.2.2.2 := by kernel_rfl
def ZqZ (c : TC) (s : Int) (g : List Int) (ln : QT0) : RT (Option TC) :=
 let x1 : QT1 := (c, s == 5, g, (0, 0, 0, 0, 0, 0, 0, 0), [])
 let x2 := qAtC x1 0
 let x3 := Zb c.1 (qAt x1 0)
 let x4 := !x2 || x3.1 == 23
 let x5 := x3.2
 let x6 := c.2.1.2.2.2.2.2.2.2.1.2.2.2
 let x7 := x6.2
 let x8 := x7.2
 let x9 := rRot x5.2.2.2.2.1 c.2.1.1 x8.2
 .br (Ze s) (.leaf (some ((c.1, (rgx c.2.1 c.2.1.2.2.2.2.2.2.2.1 (u16.wrap ((spOf c) - 2)) (Zh s)), c.2.2)))) (.br (!x4 || x2) (.br (x4) (.leaf (some ((c.1, (x9.1, c.2.1.2.1, c.2.1.2.2.1, c.2.1.2.2.2.1, c.2.1.2.2.2.2.1, c.2.1.2.2.2.2.2.1, c.2.1.2.2.2.2.2.2.1, (c.2.1.2.2.2.2.2.2.2.1.1, c.2.1.2.2.2.2.2.2.2.1.2.1, c.2.1.2.2.2.2.2.2.2.1.2.2.1, x6.1, x7.1, x8.1, x9.2), spOf c, ZD (c, s == 5, g, (23, x5), [])), c.2.2.1, false, false, c.2.2.2.2.2)))) (.leaf none)) (.leaf none))
theorem ZC0 (a : HL Zo) : Zg (envX Tryz.prog (Zay 23) [] 1023 8) Tryz.f111 Zo Z3 a = ZqZ a.1 a.2.1 a.2.2.1 a.2.2.2 := by kernel_rfl
def ZqV (c : TC) (s : Int) (g : List Int) (ln : QT0) : RT (Option TC) :=
 let x1 := u16.wrap ((spOf c) - 2)
 let x2 : QT1 := (c, s == 5, g, (0, 0, 0, 0, 0, 0, 0, 0), [])
 let x3 := qAtC x2 0
 let x4 := Zb c.1 (qAt x2 0)
 let x5 := !x3 || x4.1 == 27
 .br (Ze s) (.leaf (some ((c.1, (rgx c.2.1 c.2.1.2.2.2.2.2.2.2.1 x1 (Zh s)), c.2.2)))) (.br (!x5 || x3) (.br (x5) (.leaf (some ((c.1, (rgx c.2.1 c.2.1.2.2.2.2.2.2.2.1 x1 (u16.wrap (i64.wrap (8 * x4.2.2.2.2.2.2.2)))), c.2.2.1, false, false, c.2.2.2.2.2)))) (.leaf none)) (.leaf none))
theorem ZCW (a : HL Zo) : Zg (envX Tryz.prog (Zay 27) [] 1023 8) Tryz.f111 Zo Z3 a = ZqV a.1 a.2.1 a.2.2.1 a.2.2.2 := by kernel_rfl
def ZqR (c : TC) (s : Int) (g : List Int) (ln : QT0) : RT (Option TC) :=
 let x1 : QT1 := (c, s == 5, g, (0, 0, 0, 0, 0, 0, 0, 0), [])
 let x2 := qAtC x1 0
 let x3 := Zb c.1 (qAt x1 0)
 let x4 := !x2 || x3.1 == 31
 let x5 := x3.2
 let x6 := x5.2.2.2.1
 let x7 := x6 == 3
 let x8 : QT1 := (c, s == 5, g, (31, x5), [])
 let x9 := Zch x8 1
 let x10 := !x7 || x9
 let x11 := !x10 || (x7 || x9)
 let x12 := !x11 || x10
 let x13 := !x12 || x11
 let x14 : TR := (rgx c.2.1 c.2.1.2.2.2.2.2.2.2.1 (spOf c) (ZD x8))
 let x15 := Ze9 x8 1
 let x16 := Ze2 c.1 x14 x15
 let x17 := Zr x14 x6 x15
 let x18 := x16.2
 let x19 := x17.2
 let x20 := x18.2
 let x21 := x19.2
 let x22 := x20.2
 let x23 := x21.2
 let x24 := x22.2
 let x25 := x23.2
 let x26 := x24.2
 let x27 := x25.2
 let x28 := x26.2
 let x29 := x27.2
 let x30 := x28.2
 let x31 := x30.1
 let x32 := x29.2
 let x33 := x32.1
 let x34 := x31.2
 let x35 := x33.2
 let x36 := x34.2
 let x37 := x35.2
 let x38 := x36.2
 let x39 := x37.2
 let x40 := x38.2
 let x41 := x39.2
 let x42 := x40.2
 let x43 := x41.2
 let x44 := x30.2
 let x45 := x32.2
 .br (Ze s) (.leaf (some ((c.1, (rgx c.2.1 c.2.1.2.2.2.2.2.2.2.1 (u16.wrap ((spOf c) - 2)) (Zh s)), c.2.2)))) (.br (!x4 || x2) (.br (x4) (.br (!x13 || x12) (.br (x13) (.leaf (some ((c.1, (bif x7 then x16.1 else x17.1, bif x7 then x18.1 else x19.1, bif x7 then x20.1 else x21.1, bif x7 then x22.1 else x23.1, bif x7 then x24.1 else x25.1, bif x7 then x26.1 else x27.1, bif x7 then x28.1 else x29.1, (bif x7 then x31.1 else x33.1, bif x7 then x34.1 else x35.1, bif x7 then x36.1 else x37.1, bif x7 then x38.1 else x39.1, bif x7 then x40.1 else x41.1, bif x7 then x42.1 else x43.1, bif x7 then x42.2 else x43.2), u16.wrap ((bif x7 then x44.1 else x45.1) + 2), bif x7 then x44.2 else x45.2), c.2.2.1, false, false, c.2.2.2.2.2)))) (.leaf none)) (.leaf none)) (.leaf none)) (.leaf none))
theorem ZCS (a : HL Zo) : Zg (envX Tryz.prog (Zay 31) [] 1023 8) Tryz.f111 Zo Z3 a = ZqR a.1 a.2.1 a.2.2.1 a.2.2.2 := by kernel_rfl
def ZqN (c : TC) (s : Int) (g : List Int) (ln : QT0) : RT (Option TC) :=
 let x1 : QT1 := (c, s == 5, g, (0, 0, 0, 0, 0, 0, 0, 0), [])
 let x2 := qAtC x1 0
 let x3 := Zb c.1 (qAt x1 0)
 let x4 := !x2 || x3.1 == 35
 .br (Ze s) (.leaf (some ((c.1, (rgx c.2.1 c.2.1.2.2.2.2.2.2.2.1 (u16.wrap ((spOf c) - 2)) (Zh s)), c.2.2)))) (.br (!x4 || x2) (.br (x4) (.leaf (some ((c.1, (rgx c.2.1 c.2.1.2.2.2.2.2.2.2.1 (spOf c) (ZD (c, s == 5, g, (35, x3.2), []))), true, true, false, c.2.2.2.2.2)))) (.leaf none)) (.leaf none))
theorem ZCO (a : HL Zo) : Zg (envX Tryz.prog (Zay 35) [] 1023 8) Tryz.f111 Zo Z3 a = ZqN a.1 a.2.1 a.2.2.1 a.2.2.2 := by kernel_rfl
def ZqJ (c : TC) (s : Int) (g : List Int) (ln : QT0) : RT (Option TC) :=
 let x1 : QT1 := (c, s == 5, g, (0, 0, 0, 0, 0, 0, 0, 0), [])
 let x2 := qAtC x1 0
 let x3 := Zb c.1 (qAt x1 0)
 let x4 := !x2 || x3.1 == 39
 let x5 := rSim (c.1, (rgx c.2.1 c.2.1.2.2.2.2.2.2.2.1 (spOf c) (ZD (c, s == 5, g, (39, x3.2), []))), c.2.2.1, 39 == 35, 39 == 37, c.2.2.2.2.2) c.2.1.1
 let x6 := x5.2
 let x7 := x6.2
 .br (Ze s) (.leaf (some ((c.1, (rgx c.2.1 c.2.1.2.2.2.2.2.2.2.1 (u16.wrap ((spOf c) - 2)) (Zh s)), c.2.2)))) (.br (!x4 || x2) (.br (x4) (.leaf (some ((x5.1, x6.1, x7.1, false, false, x7.2.2.2)))) (.leaf none)) (.leaf none))
theorem ZCK (a : HL Zo) : Zg (envX Tryz.prog (Zay 39) [] 1023 8) Tryz.f111 Zo Z3 a = ZqJ a.1 a.2.1 a.2.2.1 a.2.2.2 := by kernel_rfl
def ZqF (c : TC) (s : Int) (g : List Int) (ln : QT0) : RT (Option TC) :=
 let x1 : QT1 := (c, s == 5, g, (0, 0, 0, 0, 0, 0, 0, 0), [])
 let x2 := qAtC x1 0
 let x3 := Zb c.1 (qAt x1 0)
 let x4 := !x2 || x3.1 == 43
 let x5 : QT1 := (c, s == 5, g, (43, x3.2), [])
 .br (Ze s) (.leaf (some ((c.1, (rgx c.2.1 c.2.1.2.2.2.2.2.2.2.1 (u16.wrap ((spOf c) - 2)) (Zh s)), c.2.2)))) (.br (!x4 || x2) (.br (x4) (.br (qAtC x5 1) (.leaf (some ((c.1, Zr (rgx c.2.1 c.2.1.2.2.2.2.2.2.2.1 (spOf c) (ZD x5)) 1 (u16.wrap (Zdn x5 2 + u16.wrap (qAt x5 1))), c.2.2.1, false, false, c.2.2.2.2.2)))) (.leaf none)) (.leaf none)) (.leaf none))
theorem ZCG (a : HL Zo) : Zg (envX Tryz.prog (Zay 43) [] 1023 8) Tryz.f111 Zo Z3 a = ZqF a.1 a.2.1 a.2.2.1 a.2.2.2 := by kernel_rfl
def ZqB (c : TC) (s : Int) (g : List Int) (ln : QT0) : RT (Option TC) :=
 let x1 : QT1 := (c, s == 5, g, (0, 0, 0, 0, 0, 0, 0, 0), [])
 let x2 := qAtC x1 0
 let x3 := Zb c.1 (qAt x1 0)
 let x4 := !x2 || x3.1 == 47
 let x5 : QT1 := (c, s == 5, g, (47, x3.2), [])
 .br (Ze s) (.leaf (some ((c.1, (rgx c.2.1 c.2.1.2.2.2.2.2.2.2.1 (u16.wrap ((spOf c) - 2)) (Zh s)), c.2.2)))) (.br (!x4 || x2) (.br (x4) (.br (Zch x5 1) (.leaf (some ((c.1, Zr (rgx c.2.1 c.2.1.2.2.2.2.2.2.2.1 (spOf c) (ZD x5)) 2 (Ze9 x5 1), c.2.2.1, false, false, c.2.2.2.2.2)))) (.leaf none)) (.leaf none)) (.leaf none))
theorem ZCC (a : HL Zo) : Zg (envX Tryz.prog (Zay 47) [] 1023 8) Tryz.f111 Zo Z3 a = ZqB a.1 a.2.1 a.2.2.1 a.2.2.2 := by kernel_rfl
def Zv2 (c : TC) (s : Int) (g : List Int) (ln : QT0) : RT (Option TC) :=
 let x1 := Zb c.1 (mAt (c, s == 5, g, []) 0)
 let x2 := x1.2
 let x3 := Zr c.2.1 x2.2.2.2.1 (ZdP (c, s == 5, g, []) 1)
 let x4 := x3.2
 let x5 := x4.2
 let x6 := x5.2
 let x7 := x6.2
 let x8 := x7.2
 let x9 := x8.2
 let x10 := x9.2
 .br (Za s) (.leaf (some ((c.1, (rgx c.2.1 c.2.1.2.2.2.2.2.2.2.1 (u16.wrap ((spOf c) - 2)) (Zh s)), c.2.2)))) (.br (!mAtC (c, s == 5, g, []) 0 || x1.1 == 4) (.br (mAtC (c, s == 5, g, []) 0) (.br (ZbO (c, s == 5, g, []) 1) (.leaf (some ((c.1, (x3.1, x4.1, x5.1, x6.1, x7.1, x8.1, x9.1, x10.1, x10.2.1, ZA (c, s == 5, g, []) x2.1), c.2.2.1, false, false, c.2.2.2.2.2)))) (.leaf none)) (.leaf none)) (.leaf none))
theorem ZFH (a : HL Zn) : Zg (envX Tryz.prog (Zax 4) [] 79250227772808467515411824639 8) Tryz.f98 Zn Z1 a = Zv2 a.1 a.2.1 a.2.2.1 a.2.2.2 := by kernel_rfl
def ZvY (c : TC) (s : Int) (g : List Int) (ln : QT0) : RT (Option TC) :=
 let x1 := Zb c.1 (mAt (c, s == 5, g, []) 0)
 .br (Za s) (.leaf (some ((c.1, (rgx c.2.1 c.2.1.2.2.2.2.2.2.2.1 (u16.wrap ((spOf c) - 2)) (Zh s)), c.2.2)))) (.br (!mAtC (c, s == 5, g, []) 0 || x1.1 == 8) (.br (mAtC (c, s == 5, g, []) 0) (.leaf (some ((c.1, (rgx c.2.1 c.2.1.2.2.2.2.2.2.2.1 (spOf c) (ZA (c, s == 5, g, []) x1.2.1)), c.2.2.1, false, false, c.2.2.2.2.2)))) (.leaf none)) (.leaf none))
theorem ZFD (a : HL Zn) : Zg (envX Tryz.prog (Zax 8) [] 79250227772808467515411824639 8) Tryz.f98 Zn Z1 a = ZvY a.1 a.2.1 a.2.2.1 a.2.2.2 := by kernel_rfl
def ZpR (c : TC) (s : Int) (g : List Int) (ln : QT0) : RT (Option TC) :=
 let x1 := Zb c.1 (mAt (c, s == 5, g, []) 0)
 let x2 := x1.2
 let x3 := x2.2.2
 let x4 := x3.1
 let x5 := x4 == 6
 let x6 := rDo c.1 x3.2.2.1 c.2.1.1 (bif x5 then mAt (c, s == 5, g, []) 1 else rGet c.2.1 x4) c.2.1.2.2.2.2.2.2.2.1
 .br (Za s) (.leaf (some ((c.1, (rgx c.2.1 c.2.1.2.2.2.2.2.2.2.1 (u16.wrap ((spOf c) - 2)) (Zh s)), c.2.2)))) (.br (!mAtC (c, s == 5, g, []) 0 || x1.1 == 12) (.br (mAtC (c, s == 5, g, []) 0) (.br (!x5 || mAtC (c, s == 5, g, []) 1) (.leaf (some ((c.1, (x6.1, c.2.1.2.1, c.2.1.2.2.1, c.2.1.2.2.2.1, c.2.1.2.2.2.2.1, c.2.1.2.2.2.2.2.1, c.2.1.2.2.2.2.2.2.1, x6.2, spOf c, ZA (c, s == 5, g, []) x2.1), c.2.2.1, false, false, c.2.2.2.2.2)))) (.leaf none)) (.leaf none)) (.leaf none))
theorem ZB7 (a : HL Zn) : Zg (envX Tryz.prog (Zax 12) [] 79250227772808467515411824639 8) Tryz.f98 Zn Z1 a = ZpR a.1 a.2.1 a.2.2.1 a.2.2.2 := by kernel_rfl
def ZpN (c : TC) (s : Int) (g : List Int) (ln : QT0) : RT (Option TC) :=
 let x1 := Zb c.1 (mAt (c, s == 5, g, []) 0)
 let x2 := x1.2
 let x3 := x2.2.2.2.1
 let x4 := rInx c.1 (Zac c.2.1 x3) c.2.1.2.2.2.2.2.2.2.1
 let x5 := Zr c.2.1 x3 x4.1
 let x6 := x5.2
 let x7 := x6.2
 let x8 := x7.2
 let x9 := x8.2
 let x10 := x9.2
 let x11 := x10.2
 .br (Za s) (.leaf (some ((c.1, (rgx c.2.1 c.2.1.2.2.2.2.2.2.2.1 (u16.wrap ((spOf c) - 2)) (Zh s)), c.2.2)))) (.br (!mAtC (c, s == 5, g, []) 0 || x1.1 == 16) (.br (mAtC (c, s == 5, g, []) 0) (.leaf (some ((c.1, (x5.1, x6.1, x7.1, x8.1, x9.1, x10.1, x11.1, x4.2, x11.2.2.1, ZA (c, s == 5, g, []) x2.1), c.2.2.1, false, false, c.2.2.2.2.2)))) (.leaf none)) (.leaf none))
theorem ZB3 (a : HL Zn) : Zg (envX Tryz.prog (Zax 16) [] 79250227772808467515411824639 8) Tryz.f98 Zn Z1 a = ZpN a.1 a.2.1 a.2.2.1 a.2.2.2 := by kernel_rfl
def ZpJ (c : TC) (s : Int) (g : List Int) (ln : QT0) : RT (Option TC) :=
 let x1 := Zb c.1 (mAt (c, s == 5, g, []) 0)
 .br (Za s) (.leaf (some ((c.1, (rgx c.2.1 c.2.1.2.2.2.2.2.2.2.1 (u16.wrap ((spOf c) - 2)) (Zh s)), c.2.2)))) (.br (!mAtC (c, s == 5, g, []) 0 || x1.1 == 20) (.br (mAtC (c, s == 5, g, []) 0) (.leaf (some ((c.1, (u8.wrap (255 - c.2.1.1), c.2.1.2.1, c.2.1.2.2.1, c.2.1.2.2.2.1, c.2.1.2.2.2.2.1, c.2.1.2.2.2.2.2.1, c.2.1.2.2.2.2.2.2.1, c.2.1.2.2.2.2.2.2.2.1, spOf c, ZA (c, s == 5, g, []) x1.2.1), c.2.2.1, false, false, c.2.2.2.2.2)))) (.leaf none)) (.leaf none))
theorem ZBZ (a : HL Zn) : Zg (envX Tryz.prog (Zax 20) [] 79250227772808467515411824639 8) Tryz.f98 Zn Z1 a = ZpJ a.1 a.2.1 a.2.2.1 a.2.2.2 := by kernel_rfl
def ZpF (c : TC) (s : Int) (g : List Int) (ln : QT0) : RT (Option TC) :=
 let x1 := Zb c.1 (mAt (c, s == 5, g, []) 0)
 let x2 := x1.2
 let x3 := !ZdJ (c, s == 5, g, []) (24, x2)
 let x4 := c.2.1.2.2.2.2.2.2.2.1.2.2.1
 let x5 := c.2.1.2.2.2.2.2.2.2.1.2.2.2
 let x6 := x5.1
 let x7 := x5.2
 let x8 := x7.1
 let x9 := x7.2
 let x10 := x9.1
 let x11 := x9.2
 .br (Za s) (.leaf (some ((c.1, (rgx c.2.1 c.2.1.2.2.2.2.2.2.2.1 (u16.wrap ((spOf c) - 2)) (Zh s)), c.2.2)))) (.br (!mAtC (c, s == 5, g, []) 0 || x1.1 == 24) (.br (mAtC (c, s == 5, g, []) 0) (.br (x3 || ZbO (c, s == 5, g, []) 1) (.leaf (some ((bif x3 then c.1 else c.1, (bif x3 then c.2.1.1 else c.2.1.1, bif x3 then c.2.1.2.1 else c.2.1.2.1, bif x3 then c.2.1.2.2.1 else c.2.1.2.2.1, bif x3 then c.2.1.2.2.2.1 else c.2.1.2.2.2.1, bif x3 then c.2.1.2.2.2.2.1 else c.2.1.2.2.2.2.1, bif x3 then c.2.1.2.2.2.2.2.1 else c.2.1.2.2.2.2.2.1, bif x3 then c.2.1.2.2.2.2.2.2.1 else c.2.1.2.2.2.2.2.2.1, (bif x3 then c.2.1.2.2.2.2.2.2.2.1.1 else c.2.1.2.2.2.2.2.2.2.1.1, bif x3 then c.2.1.2.2.2.2.2.2.2.1.2.1 else c.2.1.2.2.2.2.2.2.2.1.2.1, bif x3 then x4 else x4, bif x3 then x6 else x6, bif x3 then x8 else x8, bif x3 then x10 else x10, bif x3 then x11 else x11), bif x3 then (spOf c) else (spOf c), bif x3 then ZA (c, s == 5, g, []) x2.1 else ZdP (c, s == 5, g, []) 1), bif x3 then c.2.2.1 else c.2.2.1, false, false, bif x3 then c.2.2.2.2.2.1 else c.2.2.2.2.2.1, bif x3 then c.2.2.2.2.2.2.1 else c.2.2.2.2.2.2.1, bif x3 then c.2.2.2.2.2.2.2.1 else c.2.2.2.2.2.2.2.1, bif x3 then c.2.2.2.2.2.2.2.2.1 else c.2.2.2.2.2.2.2.2.1, bif x3 then c.2.2.2.2.2.2.2.2.2.1 else c.2.2.2.2.2.2.2.2.2.1, bif x3 then c.2.2.2.2.2.2.2.2.2.2.1 else c.2.2.2.2.2.2.2.2.2.2.1, bif x3 then c.2.2.2.2.2.2.2.2.2.2.2.1 else c.2.2.2.2.2.2.2.2.2.2.2.1, bif x3 then c.2.2.2.2.2.2.2.2.2.2.2.2 else c.2.2.2.2.2.2.2.2.2.2.2.2)))) (.leaf none)) (.leaf none)) (.leaf none))
theorem ZBV (a : HL Zn) : Zg (envX Tryz.prog (Zax 24) [] 79250227772808467515411824639 8) Tryz.f98 Zn Z1 a = ZpF a.1 a.2.1 a.2.2.1 a.2.2.2 := by kernel_rfl
def ZpB (c : TC) (s : Int) (g : List Int) (ln : QT0) : RT (Option TC) :=
 let x1 := Zb c.1 (mAt (c, s == 5, g, []) 0)
 .br (Za s) (.leaf (some ((c.1, (rgx c.2.1 c.2.1.2.2.2.2.2.2.2.1 (u16.wrap ((spOf c) - 2)) (Zh s)), c.2.2)))) (.br (!mAtC (c, s == 5, g, []) 0 || x1.1 == 28) (.br (mAtC (c, s == 5, g, []) 0) (.leaf (some ((c.1, (rgx c.2.1 c.2.1.2.2.2.2.2.2.2.1 (spOf c) (Zac (rgx c.2.1 c.2.1.2.2.2.2.2.2.2.1 (spOf c) (ZA (c, s == 5, g, []) x1.2.1)) 2)), c.2.2.1, false, false, c.2.2.2.2.2)))) (.leaf none)) (.leaf none))
theorem ZBR (a : HL Zn) : Zg (envX Tryz.prog (Zax 28) [] 79250227772808467515411824639 8) Tryz.f98 Zn Z1 a = ZpB a.1 a.2.1 a.2.2.1 a.2.2.2 := by kernel_rfl
def Zpx (c : TC) (s : Int) (g : List Int) (ln : QT0) : RT (Option TC) :=
 let x1 := Zb c.1 (mAt (c, s == 5, g, []) 0)
 let x2 := !mAtC (c, s == 5, g, []) 1 || mAtC (c, s == 5, g, []) 2
 let x3 := !x2 || mAtC (c, s == 5, g, []) 1
 let x4 := !x3 || x2
 .br (Za s) (.leaf (some ((c.1, (rgx c.2.1 c.2.1.2.2.2.2.2.2.2.1 (u16.wrap ((spOf c) - 2)) (Zh s)), c.2.2)))) (.br (!mAtC (c, s == 5, g, []) 0 || x1.1 == 32) (.br (mAtC (c, s == 5, g, []) 0) (.br (!x4 || x3) (.br (x4) (.leaf (some ((c.1, (c.2.1.1, c.2.1.2.1, c.2.1.2.2.1, c.2.1.2.2.2.1, c.2.1.2.2.2.2.1, mAt (c, s == 5, g, []) 2, mAt (c, s == 5, g, []) 1, c.2.1.2.2.2.2.2.2.2.1, spOf c, ZA (c, s == 5, g, []) x1.2.1), c.2.2.1, false, false, c.2.2.2.2.2)))) (.leaf none)) (.leaf none)) (.leaf none)) (.leaf none))
theorem ZBN (a : HL Zn) : Zg (envX Tryz.prog (Zax 32) [] 79250227772808467515411824639 8) Tryz.f98 Zn Z1 a = Zpx a.1 a.2.1 a.2.2.1 a.2.2.2 := by kernel_rfl
def Zpt (c : TC) (s : Int) (g : List Int) (ln : QT0) : RT (Option TC) :=
 let x1 := Zb c.1 (mAt (c, s == 5, g, []) 0)
 .br (Za s) (.leaf (some ((c.1, (rgx c.2.1 c.2.1.2.2.2.2.2.2.2.1 (u16.wrap ((spOf c) - 2)) (Zh s)), c.2.2)))) (.br (!mAtC (c, s == 5, g, []) 0 || x1.1 == 36) (.br (mAtC (c, s == 5, g, []) 0) (.leaf (some ((c.1, (rgx c.2.1 c.2.1.2.2.2.2.2.2.2.1 (spOf c) (ZA (c, s == 5, g, []) x1.2.1)), false, false, false, c.2.2.2.2.2)))) (.leaf none)) (.leaf none))
theorem ZBJ (a : HL Zn) : Zg (envX Tryz.prog (Zax 36) [] 79250227772808467515411824639 8) Tryz.f98 Zn Z1 a = Zpt a.1 a.2.1 a.2.2.1 a.2.2.2 := by kernel_rfl
def Zpp (c : TC) (s : Int) (g : List Int) (ln : QT0) : RT (Option TC) :=
 let x1 := Zb c.1 (mAt (c, s == 5, g, []) 0)
 let x2 := Zr c.2.1 2 (Zs2 (Zac c.2.1 2) (Zac c.2.1 0)).1
 let x3 := x2.2
 let x4 := x3.2
 let x5 := x4.2
 let x6 := x5.2
 let x7 := x6.2
 let x8 := x7.2
 .br (Za s) (.leaf (some ((c.1, (rgx c.2.1 c.2.1.2.2.2.2.2.2.2.1 (u16.wrap ((spOf c) - 2)) (Zh s)), c.2.2)))) (.br (!mAtC (c, s == 5, g, []) 0 || x1.1 == 40) (.br (mAtC (c, s == 5, g, []) 0) (.leaf (some ((c.1, (x2.1, x3.1, x4.1, x5.1, x6.1, x7.1, x8.1, (Zs2 (Zac c.2.1 2) (Zac c.2.1 0)).2, x8.2.2.1, ZA (c, s == 5, g, []) x1.2.1), c.2.2.1, false, false, c.2.2.2.2.2)))) (.leaf none)) (.leaf none))
theorem ZBF (a : HL Zn) : Zg (envX Tryz.prog (Zax 40) [] 79250227772808467515411824639 8) Tryz.f98 Zn Z1 a = Zpp a.1 a.2.1 a.2.2.1 a.2.2.2 := by kernel_rfl
def Zpl (c : TC) (s : Int) (g : List Int) (ln : QT0) : RT (Option TC) :=
 let x1 := Zb c.1 (mAt (c, s == 5, g, []) 0)
 let x2 := Zr c.2.1 1 (u16.wrap ((spOf c) + u16.wrap (mAt (c, s == 5, g, []) 1)))
 let x3 := x2.2
 let x4 := x3.2
 let x5 := x4.2
 let x6 := x5.2
 let x7 := x6.2
 let x8 := x7.2
 let x9 := x8.2
 .br (Za s) (.leaf (some ((c.1, (rgx c.2.1 c.2.1.2.2.2.2.2.2.2.1 (u16.wrap ((spOf c) - 2)) (Zh s)), c.2.2)))) (.br (!mAtC (c, s == 5, g, []) 0 || x1.1 == 44) (.br (mAtC (c, s == 5, g, []) 0) (.br (mAtC (c, s == 5, g, []) 1) (.leaf (some ((c.1, (x2.1, x3.1, x4.1, x5.1, x6.1, x7.1, x8.1, x9.1, x9.2.1, ZA (c, s == 5, g, []) x1.2.1), c.2.2.1, false, false, c.2.2.2.2.2)))) (.leaf none)) (.leaf none)) (.leaf none))
theorem ZBB (a : HL Zn) : Zg (envX Tryz.prog (Zax 44) [] 79250227772808467515411824639 8) Tryz.f98 Zn Z1 a = Zpl a.1 a.2.1 a.2.2.1 a.2.2.2 := by kernel_rfl
def Zxo (c : TC) (s : Int) (g : List Int) (ln : QT0) : RT (Option TC) :=
 let x1 : QT1 := (c, s == 5, g, (0, 0, 0, 0, 0, 0, 0, 0), [])
 let x2 := qAtC x1 0
 let x3 := Zb c.1 (qAt x1 0)
 let x4 := !x2 || x3.1 == 4
 let x5 := x3.2
 let x6 : QT1 := (c, s == 5, g, (4, x5), [])
 .br (Ze s) (.leaf (some ((c.1, (rgx c.2.1 c.2.1.2.2.2.2.2.2.2.1 (u16.wrap ((spOf c) - 2)) (Zh s)), c.2.2)))) (.br (!x4 || x2) (.br (x4) (.br (Zch x6 1) (.leaf (some ((c.1, Zr (rgx c.2.1 c.2.1.2.2.2.2.2.2.2.1 (spOf c) (ZD x6)) x5.2.2.2.1 (Ze9 x6 1), c.2.2.1, false, false, c.2.2.2.2.2)))) (.leaf none)) (.leaf none)) (.leaf none))
theorem ZHj (a : HL Zo) : Zg (envX Tryz.prog (Zay 4) [] 1023 8) Tryz.f111 Zo Z3 a = Zxo a.1 a.2.1 a.2.2.1 a.2.2.2 := by kernel_rfl
def Zxk (c : TC) (s : Int) (g : List Int) (ln : QT0) : RT (Option TC) :=
 let x1 : QT1 := (c, s == 5, g, (0, 0, 0, 0, 0, 0, 0, 0), [])
 let x2 := qAtC x1 0
 let x3 := Zb c.1 (qAt x1 0)
 let x4 := !x2 || x3.1 == 8
 .br (Ze s) (.leaf (some ((c.1, (rgx c.2.1 c.2.1.2.2.2.2.2.2.2.1 (u16.wrap ((spOf c) - 2)) (Zh s)), c.2.2)))) (.br (!x4 || x2) (.br (x4) (.leaf (some ((c.1, (rgx c.2.1 c.2.1.2.2.2.2.2.2.2.1 (spOf c) (ZD (c, s == 5, g, (8, x3.2), []))), c.2.2.1, false, false, c.2.2.2.2.2)))) (.leaf none)) (.leaf none))
theorem ZHf (a : HL Zo) : Zg (envX Tryz.prog (Zay 8) [] 1023 8) Tryz.f111 Zo Z3 a = Zxk a.1 a.2.1 a.2.2.1 a.2.2.2 := by kernel_rfl
def Zra (c : TC) (s : Int) (g : List Int) (ln : QT0) : RT (Option TC) :=
 let x1 : QT1 := (c, s == 5, g, (0, 0, 0, 0, 0, 0, 0, 0), [])
 let x2 := qAtC x1 0
 let x3 := Zb c.1 (qAt x1 0)
 let x4 := !x2 || x3.1 == 12
 let x5 := x3.2
 let x6 : QT1 := (c, s == 5, g, (12, x5), [])
 let x7 := rDo c.1 x5.2.2.2.2.1 c.2.1.1 (ZgT x6) c.2.1.2.2.2.2.2.2.2.1
 .br (Ze s) (.leaf (some ((c.1, (rgx c.2.1 c.2.1.2.2.2.2.2.2.2.1 (u16.wrap ((spOf c) - 2)) (Zh s)), c.2.2)))) (.br (!x4 || x2) (.br (x4) (.br (Ze8 x6) (.leaf (some ((c.1, (x7.1, c.2.1.2.1, c.2.1.2.2.1, c.2.1.2.2.2.1, c.2.1.2.2.2.2.1, c.2.1.2.2.2.2.2.1, c.2.1.2.2.2.2.2.2.1, x7.2, spOf c, ZD x6), c.2.2.1, false, false, c.2.2.2.2.2)))) (.leaf none)) (.leaf none)) (.leaf none))
theorem ZDb (a : HL Zo) : Zg (envX Tryz.prog (Zay 12) [] 1023 8) Tryz.f111 Zo Z3 a = Zra a.1 a.2.1 a.2.2.1 a.2.2.2 := by kernel_rfl
def Zq6 (c : TC) (s : Int) (g : List Int) (ln : QT0) : RT (Option TC) :=
 let x1 : QT1 := (c, s == 5, g, (0, 0, 0, 0, 0, 0, 0, 0), [])
 let x2 := qAtC x1 0
 let x3 := Zb c.1 (qAt x1 0)
 let x4 := !x2 || x3.1 == 16
 let x5 := x3.2
 let x6 : QT1 := (c, s == 5, g, (16, x5), [])
 let x7 := x5.2.2.2.1
 let x8 := rInx c.1 (Zdn x6 x7) c.2.1.2.2.2.2.2.2.2.1
 .br (Ze s) (.leaf (some ((c.1, (rgx c.2.1 c.2.1.2.2.2.2.2.2.2.1 (u16.wrap ((spOf c) - 2)) (Zh s)), c.2.2)))) (.br (!x4 || x2) (.br (x4) (.leaf (some ((c.1, Zr (rgx c.2.1 x8.2 (spOf c) (ZD x6)) x7 x8.1, c.2.2.1, false, false, c.2.2.2.2.2)))) (.leaf none)) (.leaf none))
theorem ZC7 (a : HL Zo) : Zg (envX Tryz.prog (Zay 16) [] 1023 8) Tryz.f111 Zo Z3 a = Zq6 a.1 a.2.1 a.2.2.1 a.2.2.2 := by kernel_rfl
def Zq2 (c : TC) (s : Int) (g : List Int) (ln : QT0) : RT (Option TC) :=
 let x1 : QT1 := (c, s == 5, g, (0, 0, 0, 0, 0, 0, 0, 0), [])
 let x2 := qAtC x1 0
 let x3 := Zb c.1 (qAt x1 0)
 let x4 := !x2 || x3.1 == 20
 .br (Ze s) (.leaf (some ((c.1, (rgx c.2.1 c.2.1.2.2.2.2.2.2.2.1 (u16.wrap ((spOf c) - 2)) (Zh s)), c.2.2)))) (.br (!x4 || x2) (.br (x4) (.leaf (some ((c.1, (notI u8 c.2.1.1, c.2.1.2.1, c.2.1.2.2.1, c.2.1.2.2.2.1, c.2.1.2.2.2.2.1, c.2.1.2.2.2.2.2.1, c.2.1.2.2.2.2.2.2.1, c.2.1.2.2.2.2.2.2.2.1, spOf c, ZD (c, s == 5, g, (20, x3.2), [])), c.2.2.1, false, false, c.2.2.2.2.2)))) (.leaf none)) (.leaf none))
theorem ZC3 (a : HL Zo) : Zg (envX Tryz.prog (Zay 20) [] 1023 8) Tryz.f111 Zo Z3 a = Zq2 a.1 a.2.1 a.2.2.1 a.2.2.2 := by kernel_rfl
def ZqY (c : TC) (s : Int) (g : List Int) (ln : QT0) : RT (Option TC) :=
 let x1 : QT1 := (c, s == 5, g, (0, 0, 0, 0, 0, 0, 0, 0), [])
 let x2 := qAtC x1 0
 let x3 := Zb c.1 (qAt x1 0)
 let x4 := !x2 || x3.1 == 24
 let x5 : QT1 := (c, s == 5, g, (24, x3.2), [])
 let x6 := Zf4 x5
 .br (Ze s) (.leaf (some ((c.1, (rgx c.2.1 c.2.1.2.2.2.2.2.2.2.1 (u16.wrap ((spOf c) - 2)) (Zh s)), c.2.2)))) (.br (!x4 || x2) (.br (x4) (.br (!x6 || Zch x5 1) (.leaf (some ((c.1, (rgx c.2.1 c.2.1.2.2.2.2.2.2.2.1 (spOf c) (bif x6 then Ze9 x5 1 else ZD x5)), c.2.2.1, false, false, c.2.2.2.2.2)))) (.leaf none)) (.leaf none)) (.leaf none))
theorem ZCZ (a : HL Zo) : Zg (envX Tryz.prog (Zay 24) [] 1023 8) Tryz.f111 Zo Z3 a = ZqY a.1 a.2.1 a.2.2.1 a.2.2.2 := by kernel_rfl
def ZqU (c : TC) (s : Int) (g : List Int) (ln : QT0) : RT (Option TC) :=
 let x1 : QT1 := (c, s == 5, g, (0, 0, 0, 0, 0, 0, 0, 0), [])
 let x2 := qAtC x1 0
 let x3 := Zb c.1 (qAt x1 0)
 let x4 := !x2 || x3.1 == 28
 .br (Ze s) (.leaf (some ((c.1, (rgx c.2.1 c.2.1.2.2.2.2.2.2.2.1 (u16.wrap ((spOf c) - 2)) (Zh s)), c.2.2)))) (.br (!x4 || x2) (.br (x4) (.leaf (some ((c.1, (rgx c.2.1 c.2.1.2.2.2.2.2.2.2.1 (spOf c) (Zdn (c, s == 5, g, (28, x3.2), []) 2)), c.2.2.1, false, false, c.2.2.2.2.2)))) (.leaf none)) (.leaf none))
theorem ZCV (a : HL Zo) : Zg (envX Tryz.prog (Zay 28) [] 1023 8) Tryz.f111 Zo Z3 a = ZqU a.1 a.2.1 a.2.2.1 a.2.2.2 := by kernel_rfl
def ZqQ (c : TC) (s : Int) (g : List Int) (ln : QT0) : RT (Option TC) :=
 let x1 : QT1 := (c, s == 5, g, (0, 0, 0, 0, 0, 0, 0, 0), [])
 let x2 := qAtC x1 0
 let x3 := Zb c.1 (qAt x1 0)
 let x4 := !x2 || x3.1 == 32
 let x5 : QT1 := (c, s == 5, g, (32, x3.2), [])
 .br (Ze s) (.leaf (some ((c.1, (rgx c.2.1 c.2.1.2.2.2.2.2.2.2.1 (u16.wrap ((spOf c) - 2)) (Zh s)), c.2.2)))) (.br (!x4 || x2) (.br (x4) (.br (Zch x5 1) (.leaf (some ((c.1, Zr (rgx c.2.1 c.2.1.2.2.2.2.2.2.2.1 (spOf c) (ZD x5)) 2 (Ze9 x5 1), c.2.2.1, false, false, c.2.2.2.2.2)))) (.leaf none)) (.leaf none)) (.leaf none))
theorem ZCR (a : HL Zo) : Zg (envX Tryz.prog (Zay 32) [] 1023 8) Tryz.f111 Zo Z3 a = ZqQ a.1 a.2.1 a.2.2.1 a.2.2.2 := by kernel_rfl
def ZqM (c : TC) (s : Int) (g : List Int) (ln : QT0) : RT (Option TC) :=
 let x1 : QT1 := (c, s == 5, g, (0, 0, 0, 0, 0, 0, 0, 0), [])
 let x2 := qAtC x1 0
 let x3 := Zb c.1 (qAt x1 0)
 let x4 := !x2 || x3.1 == 36
 .br (Ze s) (.leaf (some ((c.1, (rgx c.2.1 c.2.1.2.2.2.2.2.2.2.1 (u16.wrap ((spOf c) - 2)) (Zh s)), c.2.2)))) (.br (!x4 || x2) (.br (x4) (.leaf (some ((c.1, (rgx c.2.1 c.2.1.2.2.2.2.2.2.2.1 (spOf c) (ZD (c, s == 5, g, (36, x3.2), []))), false, false, false, c.2.2.2.2.2)))) (.leaf none)) (.leaf none))
theorem ZCN (a : HL Zo) : Zg (envX Tryz.prog (Zay 36) [] 1023 8) Tryz.f111 Zo Z3 a = ZqM a.1 a.2.1 a.2.2.1 a.2.2.2 := by kernel_rfl
def ZqI (c : TC) (s : Int) (g : List Int) (ln : QT0) : RT (Option TC) :=
 let x1 : QT1 := (c, s == 5, g, (0, 0, 0, 0, 0, 0, 0, 0), [])
 let x2 := qAtC x1 0
 let x3 := Zb c.1 (qAt x1 0)
 let x4 := !x2 || x3.1 == 40
 let x5 : QT1 := (c, s == 5, g, (40, x3.2), [])
 let x6 := Zs2 (Zdn x5 2) (Zdn x5 0)
 .br (Ze s) (.leaf (some ((c.1, (rgx c.2.1 c.2.1.2.2.2.2.2.2.2.1 (u16.wrap ((spOf c) - 2)) (Zh s)), c.2.2)))) (.br (!x4 || x2) (.br (x4) (.leaf (some ((c.1, Zr (rgx c.2.1 x6.2 (spOf c) (ZD x5)) 2 x6.1, c.2.2.1, false, false, c.2.2.2.2.2)))) (.leaf none)) (.leaf none))
theorem ZCJ (a : HL Zo) : Zg (envX Tryz.prog (Zay 40) [] 1023 8) Tryz.f111 Zo Z3 a = ZqI a.1 a.2.1 a.2.2.1 a.2.2.2 := by kernel_rfl
def ZqE (c : TC) (s : Int) (g : List Int) (ln : QT0) : RT (Option TC) :=
 let x1 : QT1 := (c, s == 5, g, (0, 0, 0, 0, 0, 0, 0, 0), [])
 let x2 := qAtC x1 0
 let x3 := Zb c.1 (qAt x1 0)
 let x4 := !x2 || x3.1 == 44
 let x5 : QT1 := (c, s == 5, g, (44, x3.2), [])
 .br (Ze s) (.leaf (some ((c.1, (rgx c.2.1 c.2.1.2.2.2.2.2.2.2.1 (u16.wrap ((spOf c) - 2)) (Zh s)), c.2.2)))) (.br (!x4 || x2) (.br (x4) (.br (qAtC x5 1) (.leaf (some ((c.1, Zr (rgx c.2.1 c.2.1.2.2.2.2.2.2.2.1 (spOf c) (ZD x5)) 1 (u16.wrap ((spOf c) + u16.wrap (qAt x5 1))), c.2.2.1, false, false, c.2.2.2.2.2)))) (.leaf none)) (.leaf none)) (.leaf none))
theorem ZCF (a : HL Zo) : Zg (envX Tryz.prog (Zay 44) [] 1023 8) Tryz.f111 Zo Z3 a = ZqE a.1 a.2.1 a.2.2.1 a.2.2.2 := by kernel_rfl
def Zv5 (c : TC) (s : Int) (g : List Int) (ln : QT0) : RT (Option TC) :=
 let x1 := Zb c.1 (mAt (c, s == 5, g, []) 0)
 .br (Za s) (.leaf (some ((c.1, (rgx c.2.1 c.2.1.2.2.2.2.2.2.2.1 (u16.wrap ((spOf c) - 2)) (Zh s)), c.2.2)))) (.br (!mAtC (c, s == 5, g, []) 0 || x1.1 == 1) (.br (mAtC (c, s == 5, g, []) 0) (.leaf (some ((c.1, (rgx c.2.1 c.2.1.2.2.2.2.2.2.2.1 (spOf c) (ZA (c, s == 5, g, []) x1.2.1)), c.2.2.1, false, false, c.2.2.2.2.2)))) (.leaf none)) (.leaf none))
theorem ZFK (a : HL Zn) : Zg (envX Tryz.prog (Zax 1) [] 79250227772808467515411824639 8) Tryz.f98 Zn Z1 a = Zv5 a.1 a.2.1 a.2.2.1 a.2.2.2 := by kernel_rfl
def Zv1 (c : TC) (s : Int) (g : List Int) (ln : QT0) : RT (Option TC) :=
 let x1 := Zb c.1 (mAt (c, s == 5, g, []) 0)
 .br (Za s) (.leaf (some ((c.1, (rgx c.2.1 c.2.1.2.2.2.2.2.2.2.1 (u16.wrap ((spOf c) - 2)) (Zh s)), c.2.2)))) (.br (!mAtC (c, s == 5, g, []) 0 || x1.1 == 5) (.br (mAtC (c, s == 5, g, []) 0) (.br (mAtC (c, s == 5, g, []) 3) (.leaf (some ((c.1, (mAt (c, s == 5, g, []) 3, c.2.1.2.1, c.2.1.2.2.1, c.2.1.2.2.2.1, c.2.1.2.2.2.2.1, c.2.1.2.2.2.2.2.1, c.2.1.2.2.2.2.2.2.1, c.2.1.2.2.2.2.2.2.2.1, spOf c, ZA (c, s == 5, g, []) x1.2.1), c.2.2.1, false, false, c.2.2.2.2.2)))) (.leaf none)) (.leaf none)) (.leaf none))
theorem ZFG (a : HL Zn) : Zg (envX Tryz.prog (Zax 5) [] 79250227772808467515411824639 8) Tryz.f98 Zn Z1 a = Zv1 a.1 a.2.1 a.2.2.1 a.2.2.2 := by kernel_rfl
def ZvX (c : TC) (s : Int) (g : List Int) (ln : QT0) : RT (Option TC) :=
 let x1 := Zb c.1 (mAt (c, s == 5, g, []) 0)
 .br (Za s) (.leaf (some ((c.1, (rgx c.2.1 c.2.1.2.2.2.2.2.2.2.1 (u16.wrap ((spOf c) - 2)) (Zh s)), c.2.2)))) (.br (!mAtC (c, s == 5, g, []) 0 || x1.1 == 9) (.br (mAtC (c, s == 5, g, []) 0) (.br (mAtC (c, s == 5, g, []) 1) (.leaf (some ((c.1, (mAt (c, s == 5, g, []) 1, c.2.1.2.1, c.2.1.2.2.1, c.2.1.2.2.2.1, c.2.1.2.2.2.2.1, c.2.1.2.2.2.2.2.1, c.2.1.2.2.2.2.2.2.1, c.2.1.2.2.2.2.2.2.2.1, spOf c, ZA (c, s == 5, g, []) x1.2.1), c.2.2.1, false, false, c.2.2.2.2.2)))) (.leaf none)) (.leaf none)) (.leaf none))
theorem ZFC (a : HL Zn) : Zg (envX Tryz.prog (Zax 9) [] 79250227772808467515411824639 8) Tryz.f98 Zn Z1 a = ZvX a.1 a.2.1 a.2.2.1 a.2.2.2 := by kernel_rfl
def ZpQ (c : TC) (s : Int) (g : List Int) (ln : QT0) : RT (Option TC) :=
 let x1 := Zb c.1 (mAt (c, s == 5, g, []) 0)
 let x2 := x1.2
 let x3 := rDo c.1 x2.2.2.2.2.1 c.2.1.1 (mAt (c, s == 5, g, []) 1) c.2.1.2.2.2.2.2.2.2.1
 .br (Za s) (.leaf (some ((c.1, (rgx c.2.1 c.2.1.2.2.2.2.2.2.2.1 (u16.wrap ((spOf c) - 2)) (Zh s)), c.2.2)))) (.br (!mAtC (c, s == 5, g, []) 0 || x1.1 == 13) (.br (mAtC (c, s == 5, g, []) 0) (.br (mAtC (c, s == 5, g, []) 1) (.leaf (some ((c.1, (x3.1, c.2.1.2.1, c.2.1.2.2.1, c.2.1.2.2.2.1, c.2.1.2.2.2.2.1, c.2.1.2.2.2.2.2.1, c.2.1.2.2.2.2.2.2.1, x3.2, spOf c, ZA (c, s == 5, g, []) x2.1), c.2.2.1, false, false, c.2.2.2.2.2)))) (.leaf none)) (.leaf none)) (.leaf none))
theorem ZB6 (a : HL Zn) : Zg (envX Tryz.prog (Zax 13) [] 79250227772808467515411824639 8) Tryz.f98 Zn Z1 a = ZpQ a.1 a.2.1 a.2.2.1 a.2.2.2 := by kernel_rfl
def ZpM (c : TC) (s : Int) (g : List Int) (ln : QT0) : RT (Option TC) :=
 let x1 := Zb c.1 (mAt (c, s == 5, g, []) 0)
 let x2 := x1.2
 let x3 := x2.2.2.2.1
 let x4 := rDcx c.1 (Zac c.2.1 x3) c.2.1.2.2.2.2.2.2.2.1
 let x5 := Zr c.2.1 x3 x4.1
 let x6 := x5.2
 let x7 := x6.2
 let x8 := x7.2
 let x9 := x8.2
 let x10 := x9.2
 let x11 := x10.2
 .br (Za s) (.leaf (some ((c.1, (rgx c.2.1 c.2.1.2.2.2.2.2.2.2.1 (u16.wrap ((spOf c) - 2)) (Zh s)), c.2.2)))) (.br (!mAtC (c, s == 5, g, []) 0 || x1.1 == 17) (.br (mAtC (c, s == 5, g, []) 0) (.leaf (some ((c.1, (x5.1, x6.1, x7.1, x8.1, x9.1, x10.1, x11.1, x4.2, x11.2.2.1, ZA (c, s == 5, g, []) x2.1), c.2.2.1, false, false, c.2.2.2.2.2)))) (.leaf none)) (.leaf none))
theorem ZB2 (a : HL Zn) : Zg (envX Tryz.prog (Zax 17) [] 79250227772808467515411824639 8) Tryz.f98 Zn Z1 a = ZpM a.1 a.2.1 a.2.2.1 a.2.2.2 := by kernel_rfl
def ZpI (c : TC) (s : Int) (g : List Int) (ln : QT0) : RT (Option TC) :=
 let x1 := Zb c.1 (mAt (c, s == 5, g, []) 0)
 let x2 := c.2.1.2.2.2.2.2.2.2.1.2.2.2
 let x3 := x2.2
 .br (Za s) (.leaf (some ((c.1, (rgx c.2.1 c.2.1.2.2.2.2.2.2.2.1 (u16.wrap ((spOf c) - 2)) (Zh s)), c.2.2)))) (.br (!mAtC (c, s == 5, g, []) 0 || x1.1 == 21) (.br (mAtC (c, s == 5, g, []) 0) (.leaf (some ((c.1, (rgx c.2.1 ((c.2.1.2.2.2.2.2.2.2.1.1, c.2.1.2.2.2.2.2.2.2.1.2.1, c.2.1.2.2.2.2.2.2.2.1.2.2.1, x2.1, x3.1, x3.2.1, true)) (spOf c) (ZA (c, s == 5, g, []) x1.2.1)), c.2.2.1, false, false, c.2.2.2.2.2)))) (.leaf none)) (.leaf none))
theorem ZBY (a : HL Zn) : Zg (envX Tryz.prog (Zax 21) [] 79250227772808467515411824639 8) Tryz.f98 Zn Z1 a = ZpI a.1 a.2.1 a.2.2.1 a.2.2.2 := by kernel_rfl
def ZpE (c : TC) (s : Int) (g : List Int) (ln : QT0) : RT (Option TC) :=
 let x1 := u16.wrap ((spOf c) - 2)
 let x2 := Zb c.1 (mAt (c, s == 5, g, []) 0)
 let x3 := x2.2
 let x4 := !ZdJ (c, s == 5, g, []) (25, x3)
 let x5 := c.2.1.2.2.2.2.2.2.2.1.2.2.1
 let x6 := c.2.1.2.2.2.2.2.2.2.1.2.2.2
 let x7 := x6.1
 let x8 := x6.2
 let x9 := x8.1
 let x10 := x8.2
 let x11 := x10.1
 let x12 := x10.2
 .br (Za s) (.leaf (some ((c.1, (rgx c.2.1 c.2.1.2.2.2.2.2.2.2.1 x1 (Zh s)), c.2.2)))) (.br (!mAtC (c, s == 5, g, []) 0 || x2.1 == 25) (.br (mAtC (c, s == 5, g, []) 0) (.br (x4 || ZbO (c, s == 5, g, []) 1) (.leaf (some ((bif x4 then c.1 else c.1, (bif x4 then c.2.1.1 else c.2.1.1, bif x4 then c.2.1.2.1 else c.2.1.2.1, bif x4 then c.2.1.2.2.1 else c.2.1.2.2.1, bif x4 then c.2.1.2.2.2.1 else c.2.1.2.2.2.1, bif x4 then c.2.1.2.2.2.2.1 else c.2.1.2.2.2.2.1, bif x4 then c.2.1.2.2.2.2.2.1 else c.2.1.2.2.2.2.2.1, bif x4 then c.2.1.2.2.2.2.2.2.1 else c.2.1.2.2.2.2.2.2.1, (bif x4 then c.2.1.2.2.2.2.2.2.2.1.1 else c.2.1.2.2.2.2.2.2.2.1.1, bif x4 then c.2.1.2.2.2.2.2.2.2.1.2.1 else c.2.1.2.2.2.2.2.2.2.1.2.1, bif x4 then x5 else x5, bif x4 then x7 else x7, bif x4 then x9 else x9, bif x4 then x11 else x11, bif x4 then x12 else x12), bif x4 then (spOf c) else x1, bif x4 then ZA (c, s == 5, g, []) x3.1 else ZdP (c, s == 5, g, []) 1), bif x4 then c.2.2.1 else c.2.2.1, false, false, bif x4 then c.2.2.2.2.2.1 else c.2.2.2.2.2.1, bif x4 then c.2.2.2.2.2.2.1 else c.2.2.2.2.2.2.1, bif x4 then c.2.2.2.2.2.2.2.1 else c.2.2.2.2.2.2.2.1, bif x4 then c.2.2.2.2.2.2.2.2.1 else c.2.2.2.2.2.2.2.2.1, bif x4 then c.2.2.2.2.2.2.2.2.2.1 else c.2.2.2.2.2.2.2.2.2.1, bif x4 then c.2.2.2.2.2.2.2.2.2.2.1 else c.2.2.2.2.2.2.2.2.2.2.1, bif x4 then c.2.2.2.2.2.2.2.2.2.2.2.1 else c.2.2.2.2.2.2.2.2.2.2.2.1, bif x4 then c.2.2.2.2.2.2.2.2.2.2.2.2 else c.2.2.2.2.2.2.2.2.2.2.2.2)))) (.leaf none)) (.leaf none)) (.leaf none))
theorem ZBU (a : HL Zn) : Zg (envX Tryz.prog (Zax 25) [] 79250227772808467515411824639 8) Tryz.f98 Zn Z1 a = ZpE a.1 a.2.1 a.2.2.1 a.2.2.2 := by kernel_rfl
def ZpA (c : TC) (s : Int) (g : List Int) (ln : QT0) : RT (Option TC) :=
 let x1 := Zb c.1 (mAt (c, s == 5, g, []) 0)
 .br (Za s) (.leaf (some ((c.1, (rgx c.2.1 c.2.1.2.2.2.2.2.2.2.1 (u16.wrap ((spOf c) - 2)) (Zh s)), c.2.2)))) (.br (!mAtC (c, s == 5, g, []) 0 || x1.1 == 29) (.br (mAtC (c, s == 5, g, []) 0) (.leaf (some ((c.1, (rgx c.2.1 c.2.1.2.2.2.2.2.2.2.1 (Zac c.2.1 2) (ZA (c, s == 5, g, []) x1.2.1)), c.2.2.1, false, false, c.2.2.2.2.2)))) (.leaf none)) (.leaf none))
theorem ZBQ (a : HL Zn) : Zg (envX Tryz.prog (Zax 29) [] 79250227772808467515411824639 8) Tryz.f98 Zn Z1 a = ZpA a.1 a.2.1 a.2.2.1 a.2.2.2 := by kernel_rfl
def Zpw (c : TC) (s : Int) (g : List Int) (ln : QT0) : RT (Option TC) :=
 let x1 := Zb c.1 (mAt (c, s == 5, g, []) 0)
 .br (Za s) (.leaf (some ((c.1, (rgx c.2.1 c.2.1.2.2.2.2.2.2.2.1 (u16.wrap ((spOf c) - 2)) (Zh s)), c.2.2)))) (.br (!mAtC (c, s == 5, g, []) 0 || x1.1 == 33) (.br (mAtC (c, s == 5, g, []) 0) (.br (mAtC (c, s == 5, g, []) 2) (.leaf (some ((c.1, (mAt (c, s == 5, g, []) 2, c.2.1.2.1, c.2.1.2.2.1, c.2.1.2.2.2.1, c.2.1.2.2.2.2.1, c.2.1.2.2.2.2.2.1, c.2.1.2.2.2.2.2.2.1, c.2.1.2.2.2.2.2.2.2.1, spOf c, ZA (c, s == 5, g, []) x1.2.1), c.2.2.1, false, false, c.2.2.2.2.2)))) (.leaf none)) (.leaf none)) (.leaf none))
theorem ZBM (a : HL Zn) : Zg (envX Tryz.prog (Zax 33) [] 79250227772808467515411824639 8) Tryz.f98 Zn Z1 a = Zpw a.1 a.2.1 a.2.2.1 a.2.2.2 := by kernel_rfl
def Zps (c : TC) (s : Int) (g : List Int) (ln : QT0) : RT (Option TC) :=
 let x1 := Zb c.1 (mAt (c, s == 5, g, []) 0)
 .br (Za s) (.leaf (some ((c.1, (rgx c.2.1 c.2.1.2.2.2.2.2.2.2.1 (u16.wrap ((spOf c) - 2)) (Zh s)), c.2.2)))) (.br (!mAtC (c, s == 5, g, []) 0 || x1.1 == 37) (.br (mAtC (c, s == 5, g, []) 0) (.leaf (some ((c.1, (rgx c.2.1 c.2.1.2.2.2.2.2.2.2.1 (spOf c) (ZA (c, s == 5, g, []) x1.2.1)), c.2.2.1, false, true, c.2.2.2.2.2)))) (.leaf none)) (.leaf none))
theorem ZBI (a : HL Zn) : Zg (envX Tryz.prog (Zax 37) [] 79250227772808467515411824639 8) Tryz.f98 Zn Z1 a = Zps a.1 a.2.1 a.2.2.1 a.2.2.2 := by kernel_rfl
def Zpo (c : TC) (s : Int) (g : List Int) (ln : QT0) : RT (Option TC) :=
 let x1 := Zb c.1 (mAt (c, s == 5, g, []) 0)
 let x2 : Int × Int × Int × Int × Int × TF × Int × Int := (Zr c.2.1 2 (ZpW (Zac c.2.1 2)).1).2.2
 let x3 := x2.2
 let x4 := x3.2
 let x5 := x4.2
 let x6 := x5.2
 let x7 := x6.2
 let x8 := x7.1
 let x9 := x8.2
 let x10 := x9.2
 let x11 := x10.2
 let x12 := x11.2
 .br (Za s) (.leaf (some ((c.1, (rgx c.2.1 c.2.1.2.2.2.2.2.2.2.1 (u16.wrap ((spOf c) - 2)) (Zh s)), c.2.2)))) (.br (!mAtC (c, s == 5, g, []) 0 || x1.1 == 41) (.br (mAtC (c, s == 5, g, []) 0) (.leaf (some ((c.1, ((Zr c.2.1 2 (ZpW (Zac c.2.1 2)).1).1, (Zr c.2.1 2 (ZpW (Zac c.2.1 2)).1).2.1, x2.1, x3.1, x4.1, x5.1, x6.1, (x8.1, x9.1, x10.1, x11.1, x12.1, x12.2.1, (ZpW (Zac c.2.1 2)).2), x7.2.1, ZA (c, s == 5, g, []) x1.2.1), c.2.2.1, false, false, c.2.2.2.2.2)))) (.leaf none)) (.leaf none))
theorem ZBE (a : HL Zn) : Zg (envX Tryz.prog (Zax 41) [] 79250227772808467515411824639 8) Tryz.f98 Zn Z1 a = Zpo a.1 a.2.1 a.2.2.1 a.2.2.2 := by kernel_rfl
def Zpk (c : TC) (s : Int) (g : List Int) (ln : QT0) : RT (Option TC) :=
 let x1 := u16.wrap ((spOf c) - 2)
 let x2 := Zb c.1 (mAt (c, s == 5, g, []) 0)
 let x3 := x2.2
 let x4 := !ZdJ (c, s == 5, g, []) (45, x3)
 let x5 := c.2.1.2.2.2.2.2.2.2.1.2.2.1
 let x6 := c.2.1.2.2.2.2.2.2.2.1.2.2.2
 let x7 := x6.1
 let x8 := x6.2
 let x9 := x8.1
 let x10 := x8.2
 let x11 := x10.1
 let x12 := x10.2
 .br (Za s) (.leaf (some ((c.1, (rgx c.2.1 c.2.1.2.2.2.2.2.2.2.1 x1 (Zh s)), c.2.2)))) (.br (!mAtC (c, s == 5, g, []) 0 || x2.1 == 45) (.br (mAtC (c, s == 5, g, []) 0) (.leaf (some ((bif x4 then c.1 else c.1, (bif x4 then c.2.1.1 else c.2.1.1, bif x4 then c.2.1.2.1 else c.2.1.2.1, bif x4 then c.2.1.2.2.1 else c.2.1.2.2.1, bif x4 then c.2.1.2.2.2.1 else c.2.1.2.2.2.1, bif x4 then c.2.1.2.2.2.2.1 else c.2.1.2.2.2.2.1, bif x4 then c.2.1.2.2.2.2.2.1 else c.2.1.2.2.2.2.2.1, bif x4 then c.2.1.2.2.2.2.2.2.1 else c.2.1.2.2.2.2.2.2.1, (bif x4 then c.2.1.2.2.2.2.2.2.2.1.1 else c.2.1.2.2.2.2.2.2.2.1.1, bif x4 then c.2.1.2.2.2.2.2.2.2.1.2.1 else c.2.1.2.2.2.2.2.2.2.1.2.1, bif x4 then x5 else x5, bif x4 then x7 else x7, bif x4 then x9 else x9, bif x4 then x11 else x11, bif x4 then x12 else x12), bif x4 then (spOf c) else x1, bif x4 then ZA (c, s == 5, g, []) x3.1 else 64), bif x4 then c.2.2.1 else c.2.2.1, false, false, bif x4 then c.2.2.2.2.2.1 else c.2.2.2.2.2.1, bif x4 then c.2.2.2.2.2.2.1 else c.2.2.2.2.2.2.1, bif x4 then c.2.2.2.2.2.2.2.1 else c.2.2.2.2.2.2.2.1, bif x4 then c.2.2.2.2.2.2.2.2.1 else c.2.2.2.2.2.2.2.2.1, bif x4 then c.2.2.2.2.2.2.2.2.2.1 else c.2.2.2.2.2.2.2.2.2.1, bif x4 then c.2.2.2.2.2.2.2.2.2.2.1 else c.2.2.2.2.2.2.2.2.2.2.1, bif x4 then c.2.2.2.2.2.2.2.2.2.2.2.1 else c.2.2.2.2.2.2.2.2.2.2.2.1, bif x4 then c.2.2.2.2.2.2.2.2.2.2.2.2 else c.2.2.2.2.2.2.2.2.2.2.2.2)))) (.leaf none)) (.leaf none))
theorem ZBA (a : HL Zn) : Zg (envX Tryz.prog (Zax 45) [] 79250227772808467515411824639 8) Tryz.f98 Zn Z1 a = Zpk a.1 a.2.1 a.2.2.1 a.2.2.2 := by kernel_rfl
theorem fr_1 (c) (s : Int) (g : List Int) (l) (hb : ∀ j : Nat, inR .u8 (g[j]?.getD 0)) (n : Int) (hk : (Zb c.1 (g.getD 0 0)).1 = n) : (n = 1 → (Zv5 c s g l).val = some (finX c s g l)) ∧ (n = 6 → (Zv0 c s g l).val = some (finX c s g l)) ∧ (n = 10 → (ZpT c s g l).val = some (finX c s g l)) ∧ (n = 17 → (ZpM c s g l).val = some (finX c s g l)) ∧ (n = 21 → (ZpI c s g l).val = some (finX c s g l)) ∧ (n = 28 → (ZpB c s g l).val = some (finX c s g l)) ∧ (n = 33 → (Zpw c s g l).val = some (finX c s g l)) ∧ (n = 37 → (Zps c s g l).val = some (finX c s g l)) ∧ (n = 43 → (Zpm c s g l).val = some (finX c s g l)) := by
 refine ⟨?_, ?_, ?_, ?_, ?_, ?_, ?_, ?_, ?_⟩
 all_goals intro e; subst e
 all_goals simp only [Zv5, Zv0, ZpT, ZpM, ZpI, ZpB, Zpw, Zps, Zpm, RT.val, rgx]
 all_goals simp only [qat0, mat0, qat1, mat1, rg0, hk, Zv, ZW, Z7, ZG, ZH, Zx, Zz, ZaE, ZaG, ZbX, ZbW, Zu, ZaW, finX, spOf]
 all_goals generalize Za s = bi
 all_goals cases bi with
 | true => simp [wPC, wSP]
 | false =>
  generalize (s == 5) = bs
  simp only [finI, hk, finR, wPC, wSP, wA, wF, fCY, fVCY, Zcn, flOf, ZJ, pcOf, ZaR]
  generalize Zb c.1 (g.getD 0 0) = i at hk ⊢
  simp (config := { implicitDefEqProofs := false }) [Zby, Za4, Zbh, hk, ZeV, ZeX, ZeW, Zix, Ziy, ZdE, ZdD, ZiD, hb]
theorem fr_2 (c) (s : Int) (g : List Int) (l) (hb : ∀ j : Nat, inR .u8 (g[j]?.getD 0)) (n : Int) (hk : (Zb c.1 (g.getD 0 0)).1 = n) : (n = 3 → (Zv3 c s g l).val = some (finX c s g l)) ∧ (n = 7 → (ZvZ c s g l).val = some (finX c s g l)) ∧ (n = 11 → (ZpS c s g l).val = some (finX c s g l)) ∧ (n = 18 → (ZpL c s g l).val = some (finX c s g l)) ∧ (n = 22 → (ZpH c s g l).val = some (finX c s g l)) ∧ (n = 29 → (ZpA c s g l).val = some (finX c s g l)) ∧ (n = 34 → (Zpv c s g l).val = some (finX c s g l)) ∧ (n = 40 → (Zpp c s g l).val = some (finX c s g l)) ∧ (n = 44 → (Zpl c s g l).val = some (finX c s g l)) := by
 refine ⟨?_, ?_, ?_, ?_, ?_, ?_, ?_, ?_, ?_⟩
 all_goals intro e; subst e
 all_goals simp only [Zv3, ZvZ, ZpS, ZpL, ZpH, ZpA, Zpv, Zpp, Zpl, RT.val, rgx]
 all_goals simp only [qat0, mat0, qat1, mat1, rg0, hk, Zv, ZW, Z7, ZG, ZH, Zx, Zz, ZaE, ZaG, ZbX, ZbW, Zu, ZaW, finX, spOf]
 all_goals generalize Za s = bi
 all_goals cases bi with
 | true => simp [wPC, wSP]
 | false =>
  generalize (s == 5) = bs
  simp only [finI, hk, finR, wPC, wSP, wA, wF, fCY, fVCY, Zcn, flOf, ZJ, pcOf, ZaR]
  generalize Zb c.1 (g.getD 0 0) = i at hk ⊢
  simp (config := { implicitDefEqProofs := false }) [Zby, Za4, Zbh, hk, ZeV, ZeX, ZeW, Zix, Ziy, ZdE, ZdD, ZiD, hb]
theorem fr_3 (c) (s : Int) (g : List Int) (l) (hb : ∀ j : Nat, inR .u8 (g[j]?.getD 0)) (n : Int) (hk : (Zb c.1 (g.getD 0 0)).1 = n) : (n = 4 → (Zv2 c s g l).val = some (finX c s g l)) ∧ (n = 8 → (ZvY c s g l).val = some (finX c s g l)) ∧ (n = 13 → (ZpQ c s g l).val = some (finX c s g l)) ∧ (n = 19 → (ZpK c s g l).val = some (finX c s g l)) ∧ (n = 23 → (ZpG c s g l).val = some (finX c s g l)) ∧ (n = 30 → (Zpz c s g l).val = some (finX c s g l)) ∧ (n = 35 → (Zpu c s g l).val = some (finX c s g l)) ∧ (n = 41 → (Zpo c s g l).val = some (finX c s g l)) ∧ (n = 46 → (Zpj c s g l).val = some (finX c s g l)) := by
 refine ⟨?_, ?_, ?_, ?_, ?_, ?_, ?_, ?_, ?_⟩
 all_goals intro e; subst e
 all_goals simp only [Zv2, ZvY, ZpQ, ZpK, ZpG, Zpz, Zpu, Zpo, Zpj, RT.val, rgx]
 all_goals simp only [qat0, mat0, qat1, mat1, rg0, hk, Zv, ZW, Z7, ZG, ZH, Zx, Zz, ZaE, ZaG, ZbX, ZbW, Zu, ZaW, finX, spOf]
 all_goals generalize Za s = bi
 all_goals cases bi with
 | true => simp [wPC, wSP]
 | false =>
  generalize (s == 5) = bs
  simp only [finI, hk, finR, wPC, wSP, wA, wF, fCY, fVCY, Zcn, flOf, ZJ, pcOf, ZaR]
  generalize Zb c.1 (g.getD 0 0) = i at hk ⊢
  simp (config := { implicitDefEqProofs := false }) [Zby, Za4, Zbh, hk, ZeV, ZeX, ZeW, Zix, Ziy, ZdE, ZdD, ZiD, hb]
theorem fr_4 (c) (s : Int) (g : List Int) (l) (hb : ∀ j : Nat, inR .u8 (g[j]?.getD 0)) (n : Int) (hk : (Zb c.1 (g.getD 0 0)).1 = n) : (n = 5 → (Zv1 c s g l).val = some (finX c s g l)) ∧ (n = 9 → (ZvX c s g l).val = some (finX c s g l)) ∧ (n = 16 → (ZpN c s g l).val = some (finX c s g l)) ∧ (n = 20 → (ZpJ c s g l).val = some (finX c s g l)) ∧ (n = 27 → (ZpC c s g l).val = some (finX c s g l)) ∧ (n = 32 → (Zpx c s g l).val = some (finX c s g l)) ∧ (n = 36 → (Zpt c s g l).val = some (finX c s g l)) ∧ (n = 42 → (Zpn c s g l).val = some (finX c s g l)) ∧ (n = 47 → (Zpi c s g l).val = some (finX c s g l)) := by
 refine ⟨?_, ?_, ?_, ?_, ?_, ?_, ?_, ?_, ?_⟩
 all_goals intro e; subst e
 all_goals simp only [Zv1, ZvX, ZpN, ZpJ, ZpC, Zpx, Zpt, Zpn, Zpi, RT.val, rgx]
 all_goals simp only [qat0, mat0, qat1, mat1, rg0, hk, Zv, ZW, Z7, ZG, ZH, Zx, Zz, ZaE, ZaG, ZbX, ZbW, Zu, ZaW, finX, spOf]
 all_goals generalize Za s = bi
 all_goals cases bi with
 | true => simp [wPC, wSP]
 | false =>
  generalize (s == 5) = bs
  simp only [finI, hk, finR, wPC, wSP, wA, wF, fCY, fVCY, Zcn, flOf, ZJ, pcOf, ZaR]
  generalize Zb c.1 (g.getD 0 0) = i at hk ⊢
  simp (config := { implicitDefEqProofs := false }) [Zby, Za4, Zbh, hk, ZeV, ZeX, ZeW, Zix, Ziy, ZdE, ZdD, ZiD, hb]
theorem fr_5 (c) (s : Int) (g : List Int) (l) (hb : ∀ j : Nat, inR .u8 (g[j]?.getD 0)) (n : Int) (hk : (Zb c.1 (g.getD 0 0)).1 = n) : (n = 2 → (Zv4 c s g l).val = some (finX c s g l)) ∧ (n = 12 → (ZpR c s g l).val = some (finX c s g l)) := by
 refine ⟨?_, ?_⟩
 all_goals intro e; subst e
 all_goals simp only [Zv4, ZpR, RT.val, rgx]
 all_goals simp only [qat0, mat0, qat1, mat1, rg0, hk, Zv, ZW, Z7, ZG, ZH, Zx, Zz, ZaE, ZaG, ZbX, ZbW, Zu, ZaW, finX, spOf]
 all_goals generalize Za s = bi
 all_goals cases bi with
 | true => simp [wPC, wSP]
 | false =>
  generalize (s == 5) = bs
  simp only [finI, hk, finR, wPC, wSP, wA, wF, fCY, fVCY, Zcn, flOf, ZJ, pcOf, ZaR]
  generalize Zb c.1 (g.getD 0 0) = i at hk ⊢
  generalize (i.2.2.2.1 == 6) = b0
  cases b0 <;> simp (config := { implicitDefEqProofs := false }) [Zby, Za4, Zbh, hk, ZeV, ZeX, ZeW, Zix, Ziy, ZdE, ZdD, ZiD, hb]
theorem fr_6 (c) (s : Int) (g : List Int) (l) (hb : ∀ j : Nat, inR .u8 (g[j]?.getD 0)) (n : Int) (hk : (Zb c.1 (g.getD 0 0)).1 = n) : (n = 14 → (ZpP c s g l).val = some (finX c s g l)) ∧ (n = 15 → (ZpO c s g l).val = some (finX c s g l)) := by
 refine ⟨?_, ?_⟩
 all_goals intro e; subst e
 all_goals simp only [ZpP, ZpO, RT.val, rgx]
 all_goals simp only [qat0, mat0, qat1, mat1, rg0, hk, Zv, ZW, Z7, ZG, ZH, Zx, Zz, ZaE, ZaG, ZbX, ZbW, Zu, ZaW, finX, spOf]
 all_goals generalize Za s = bi
 all_goals cases bi with
 | true => simp [wPC, wSP]
 | false =>
  generalize (s == 5) = bs
  simp only [finI, hk, finR, wPC, wSP, wA, wF, fCY, fVCY, Zcn, flOf, ZJ, pcOf, ZaR]
  generalize Zb c.1 (g.getD 0 0) = i at hk ⊢
  generalize (i.2.2.1 == 6) = b0
  cases b0 <;> simp (config := { implicitDefEqProofs := false }) [Zby, Za4, Zbh, hk, ZeV, ZeX, ZeW, Zix, Ziy, ZdE, ZdD, ZiD, hb]
theorem fr_7 (c) (s : Int) (g : List Int) (l) (hb : ∀ j : Nat, inR .u8 (g[j]?.getD 0)) (n : Int) (hk : (Zb c.1 (g.getD 0 0)).1 = n) : (n = 24 → (ZpF c s g l).val = some (finX c s g l)) ∧ (n = 25 → (ZpE c s g l).val = some (finX c s g l)) ∧ (n = 26 → (ZpD c s g l).val = some (finX c s g l)) ∧ (n = 45 → (Zpk c s g l).val = some (finX c s g l)) := by
 refine ⟨?_, ?_, ?_, ?_⟩
 all_goals intro e; subst e
 all_goals simp only [ZpF, ZpE, ZpD, Zpk, RT.val, rgx]
 all_goals simp only [qat0, mat0, qat1, mat1, rg0, hk, Zv, ZW, Z7, ZG, ZH, Zx, Zz, ZaE, ZaG, ZbX, ZbW, Zu, ZaW, finX, spOf]
 all_goals generalize Za s = bi
 all_goals cases bi with
 | true => simp [wPC, wSP]
 | false =>
  generalize (s == 5) = bs
  simp only [finI, hk, finR, wPC, wSP, wA, wF, fCY, fVCY, Zcn, flOf, ZJ, pcOf, ZaR]
  generalize Zb c.1 (g.getD 0 0) = i at hk ⊢
  generalize ZdG _ _ = b0
  cases b0 <;> simp (config := { implicitDefEqProofs := false }) [Zby, Za4, Zbh, hk, ZeV, ZeX, ZeW, Zix, Ziy, ZdE, ZdD, ZiD, hb]
theorem fr_8 (c) (s : Int) (g : List Int) (l) (hb : ∀ j : Nat, inR .u8 (g[j]?.getD 0)) (n : Int) (hk : (Zb c.1 (g.getD 0 0)).1 = n) : (n = 31 → (Zpy c s g l).val = some (finX c s g l)) := by
 skip
 all_goals intro e; subst e
 all_goals simp only [Zpy, RT.val, rgx]
 all_goals simp only [qat0, mat0, qat1, mat1, rg0, hk, Zv, ZW, Z7, ZG, ZH, Zx, Zz, ZaE, ZaG, ZbX, ZbW, Zu, ZaW, finX, spOf]
 all_goals generalize Za s = bi
 all_goals cases bi with
 | true => simp [wPC, wSP]
 | false =>
  generalize (s == 5) = bs
  simp only [finI, hk, finR, wPC, wSP, wA, wF, fCY, fVCY, Zcn, flOf, ZJ, pcOf, ZaR]
  generalize Zb c.1 (g.getD 0 0) = i at hk ⊢
  generalize (i.2.2.2.2.1 == 3) = b0
  cases b0 <;> simp (config := { implicitDefEqProofs := false }) [Zby, Za4, Zbh, hk, ZeV, ZeX, ZeW, Zix, Ziy, ZdE, ZdD, ZiD, hb, Ze2, Zjc, RT.val]
theorem fr_9 (c) (s : Int) (g : List Int) (l) (hb : ∀ j : Nat, inR .u8 (g[j]?.getD 0)) (n : Int) (hk : (Zb c.1 (g.getD 0 0)).1 = n) : (n = 38 → (Zpr c s g l).val = some (finX c s g l)) := by
 skip
 all_goals intro e; subst e
 all_goals simp only [Zpr, RT.val, rgx]
 all_goals simp only [qat0, mat0, qat1, mat1, rg0, hk, Zv, ZW, Z7, ZG, ZH, Zx, Zz, ZaE, ZaG, ZbX, ZbW, Zu, ZaW, finX, spOf]
 all_goals generalize Za s = bi
 all_goals cases bi with
 | true => simp [wPC, wSP]
 | false =>
  generalize (s == 5) = bs
  simp only [finI, hk, finR, wPC, wSP, wA, wF, fCY, fVCY, Zcn, flOf, ZJ, pcOf, ZaR]
  generalize Zb c.1 (g.getD 0 0) = i at hk ⊢
  simp [Zby, Za4, Zbh, hk, ZLY]
  rfl
theorem fr_10 (c) (s : Int) (g : List Int) (l) (hb : ∀ j : Nat, inR .u8 (g[j]?.getD 0)) (n : Int) (hk : (Zb c.1 (g.getD 0 0)).1 = n) : (n = 39 → (Zpq c s g l).val = some (finX c s g l)) := by
 skip
 all_goals intro e; subst e
 all_goals simp only [Zpq, RT.val, rgx]
 all_goals simp only [qat0, mat0, qat1, mat1, rg0, hk, Zv, ZW, Z7, ZG, ZH, Zx, Zz, ZaE, ZaG, ZbX, ZbW, Zu, ZaW, finX, spOf]
 all_goals generalize Za s = bi
 all_goals cases bi with
 | true => simp [wPC, wSP]
 | false =>
  generalize (s == 5) = bs
  simp only [finI, hk, finR, wPC, wSP, wA, wF, fCY, fVCY, Zcn, flOf, ZJ, pcOf, ZaR]
  generalize Zb c.1 (g.getD 0 0) = i at hk ⊢
  simp [Zby, Za4, Zbh, hk, rSim, ZEQ, RT.val]
theorem ZNT (a : HL Zn) (h : okHL Zn a) : ∃ l, ZcN Tryz.prog l ∧ (Zg (envX Tryz.prog l [] 79250227772808467515411824639 8) Tryz.f98 Zn Z1 a).val = some (finX a.1 a.2.1 a.2.2.1 a.2.2.2) := by
 have hk := ZrI a.1.1 _ (ZrN h.2.2.1)
 have hb : ∀ j : Nat, inR .u8 (a.2.2.1[j]?.getD 0) := fun j => by
  cases hj : a.2.2.1[j]? with
  | none => rw [Zf6]; simp
  | some x => exact h.2.2.1.2 x (List.mem_of_getElem? hj)
 refine ⟨Zax (Zb a.1.1 (a.2.2.1.getD 0 0)).1, ZKf _, ?_⟩
 rcases ZrH hk.1 hk.2 with e | e | e | e | e | e | e | e | e | e | e | e | e | e | e | e | e | e | e | e | e | e | e | e | e | e | e | e | e | e | e | e | e | e | e | e | e | e | e | e | e | e | e | e | e | e | e
 ·rw [e, ZFK a, ((fr_1 a.1 a.2.1 a.2.2.1 a.2.2.2 hb _ e).1 rfl)]
 ·rw [e, ZFJ a, ((fr_5 a.1 a.2.1 a.2.2.1 a.2.2.2 hb _ e).1 rfl)]
 ·rw [e, ZFI a, ((fr_2 a.1 a.2.1 a.2.2.1 a.2.2.2 hb _ e).1 rfl)]
 ·rw [e, ZFH a, ((fr_3 a.1 a.2.1 a.2.2.1 a.2.2.2 hb _ e).1 rfl)]
 ·rw [e, ZFG a, ((fr_4 a.1 a.2.1 a.2.2.1 a.2.2.2 hb _ e).1 rfl)]
 ·rw [e, ZFF a, ((fr_1 a.1 a.2.1 a.2.2.1 a.2.2.2 hb _ e).2.1 rfl)]
 ·rw [e, ZFE a, ((fr_2 a.1 a.2.1 a.2.2.1 a.2.2.2 hb _ e).2.1 rfl)]
 ·rw [e, ZFD a, ((fr_3 a.1 a.2.1 a.2.2.1 a.2.2.2 hb _ e).2.1 rfl)]
 ·rw [e, ZFC a, ((fr_4 a.1 a.2.1 a.2.2.1 a.2.2.2 hb _ e).2.1 rfl)]
 ·rw [e, ZB9 a, ((fr_1 a.1 a.2.1 a.2.2.1 a.2.2.2 hb _ e).2.2.1 rfl)]
 ·rw [e, ZB8 a, ((fr_2 a.1 a.2.1 a.2.2.1 a.2.2.2 hb _ e).2.2.1 rfl)]
 ·rw [e, ZB7 a, ((fr_5 a.1 a.2.1 a.2.2.1 a.2.2.2 hb _ e).2 rfl)]
 ·rw [e, ZB6 a, ((fr_3 a.1 a.2.1 a.2.2.1 a.2.2.2 hb _ e).2.2.1 rfl)]
 ·rw [e, ZB5 a, ((fr_6 a.1 a.2.1 a.2.2.1 a.2.2.2 hb _ e).1 rfl)]
 ·rw [e, ZB4 a, ((fr_6 a.1 a.2.1 a.2.2.1 a.2.2.2 hb _ e).2 rfl)]
 ·rw [e, ZB3 a, ((fr_4 a.1 a.2.1 a.2.2.1 a.2.2.2 hb _ e).2.2.1 rfl)]
 ·rw [e, ZB2 a, ((fr_1 a.1 a.2.1 a.2.2.1 a.2.2.2 hb _ e).2.2.2.1 rfl)]
 ·rw [e, ZB1 a, ((fr_2 a.1 a.2.1 a.2.2.1 a.2.2.2 hb _ e).2.2.2.1 rfl)]
 ·rw [e, ZB0 a, ((fr_3 a.1 a.2.1 a.2.2.1 a.2.2.2 hb _ e).2.2.2.1 rfl)]
 ·rw [e, ZBZ a, ((fr_4 a.1 a.2.1 a.2.2.1 a.2.2.2 hb _ e).2.2.2.1 rfl)]
 ·rw [e, ZBY a, ((fr_1 a.1 a.2.1 a.2.2.1 a.2.2.2 hb _ e).2.2.2.2.1 rfl)]
 ·rw [e, ZBX a, ((fr_2 a.1 a.2.1 a.2.2.1 a.2.2.2 hb _ e).2.2.2.2.1 rfl)]
 ·rw [e, ZBW a, ((fr_3 a.1 a.2.1 a.2.2.1 a.2.2.2 hb _ e).2.2.2.2.1 rfl)]
 ·rw [e, ZBV a, ((fr_7 a.1 a.2.1 a.2.2.1 a.2.2.2 hb _ e).1 rfl)]
 ·rw [e, ZBU a, ((fr_7 a.1 a.2.1 a.2.2.1 a.2.2.2 hb _ e).2.1 rfl)]
 ·rw [e, ZBT a, ((fr_7 a.1 a.2.1 a.2.2.1 a.2.2.2 hb _ e).2.2.1 rfl)]
 ·rw [e, ZBS a, ((fr_4 a.1 a.2.1 a.2.2.1 a.2.2.2 hb _ e).2.2.2.2.1 rfl)]
 ·rw [e, ZBR a, ((fr_1 a.1 a.2.1 a.2.2.1 a.2.2.2 hb _ e).2.2.2.2.2.1 rfl)]
 ·rw [e, ZBQ a, ((fr_2 a.1 a.2.1 a.2.2.1 a.2.2.2 hb _ e).2.2.2.2.2.1 rfl)]
 ·rw [e, ZBP a, ((fr_3 a.1 a.2.1 a.2.2.1 a.2.2.2 hb _ e).2.2.2.2.2.1 rfl)]
 ·rw [e, ZBO a, ((fr_8 a.1 a.2.1 a.2.2.1 a.2.2.2 hb _ e) rfl)]
 ·rw [e, ZBN a, ((fr_4 a.1 a.2.1 a.2.2.1 a.2.2.2 hb _ e).2.2.2.2.2.1 rfl)]
 ·rw [e, ZBM a, ((fr_1 a.1 a.2.1 a.2.2.1 a.2.2.2 hb _ e).2.2.2.2.2.2.1 rfl)]
 ·rw [e, ZBL a, ((fr_2 a.1 a.2.1 a.2.2.1 a.2.2.2 hb _ e).2.2.2.2.2.2.1 rfl)]
 ·rw [e, ZBK a, ((fr_3 a.1 a.2.1 a.2.2.1 a.2.2.2 hb _ e).2.2.2.2.2.2.1 rfl)]
 ·rw [e, ZBJ a, ((fr_4 a.1 a.2.1 a.2.2.1 a.2.2.2 hb _ e).2.2.2.2.2.2.1 rfl)]
 ·rw [e, ZBI a, ((fr_1 a.1 a.2.1 a.2.2.1 a.2.2.2 hb _ e).2.2.2.2.2.2.2.1 rfl)]
 ·rw [e, ZBH a, ((fr_9 a.1 a.2.1 a.2.2.1 a.2.2.2 hb _ e) rfl)]
 ·rw [e, ZBG a, ((fr_10 a.1 a.2.1 a.2.2.1 a.2.2.2 hb _ e) rfl)]
 ·rw [e, ZBF a, ((fr_2 a.1 a.2.1 a.2.2.1 a.2.2.2 hb _ e).2.2.2.2.2.2.2.1 rfl)]
 ·rw [e, ZBE a, ((fr_3 a.1 a.2.1 a.2.2.1 a.2.2.2 hb _ e).2.2.2.2.2.2.2.1 rfl)]
 ·rw [e, ZBD a, ((fr_4 a.1 a.2.1 a.2.2.1 a.2.2.2 hb _ e).2.2.2.2.2.2.2.1 rfl)]
 ·rw [e, ZBC a, ((fr_1 a.1 a.2.1 a.2.2.1 a.2.2.2 hb _ e).2.2.2.2.2.2.2.2 rfl)]
 ·rw [e, ZBB a, ((fr_2 a.1 a.2.1 a.2.2.1 a.2.2.2 hb _ e).2.2.2.2.2.2.2.2 rfl)]
 ·rw [e, ZBA a, ((fr_7 a.1 a.2.1 a.2.2.1 a.2.2.2 hb _ e).2.2.2 rfl)]
 ·rw [e, ZBz a, ((fr_3 a.1 a.2.1 a.2.2.1 a.2.2.2 hb _ e).2.2.2.2.2.2.2.2 rfl)]
 ·rw [e, ZBy a, ((fr_4 a.1 a.2.1 a.2.2.1 a.2.2.2 hb _ e).2.2.2.2.2.2.2.2 rfl)]
def ZKg : Entry := Zk Zn Z1 (fun _ => none) (fun a => finX a.1 a.2.1 a.2.2.1 a.2.2.2)
theorem ZFB : Zc Tryz.prog 98 ZKg := Zjm Tryz.func98 rfl (by kernel_rfl) Tryz.call98 fun a h _ => ZNT a h
theorem fp_1 (c) (s : Int) (g : List Int) (l) (n : Int) (hk : (Zb c.1 (g.getD 0 0)).1 = n) : (n = 1 → (Zxr c s g l).val = some (finX c s g l)) ∧ (n = 6 → (Zxm c s g l).val = some (finX c s g l)) ∧ (n = 10 → (Zrc c s g l).val = some (finX c s g l)) ∧ (n = 17 → (Zq5 c s g l).val = some (finX c s g l)) ∧ (n = 21 → (Zq1 c s g l).val = some (finX c s g l)) ∧ (n = 28 → (ZqU c s g l).val = some (finX c s g l)) ∧ (n = 33 → (ZqP c s g l).val = some (finX c s g l)) ∧ (n = 37 → (ZqL c s g l).val = some (finX c s g l)) ∧ (n = 43 → (ZqF c s g l).val = some (finX c s g l)) := by
 refine ⟨?_, ?_, ?_, ?_, ?_, ?_, ?_, ?_, ?_⟩
 all_goals intro e; subst e
 all_goals simp only [Zxr, Zxm, Zrc, Zq5, Zq1, ZqU, ZqP, ZqL, ZqF, RT.val, rgx]
 all_goals simp only [qat0, mat0, qat1, mat1, rg0, hk, Zv, ZW, Z7, ZG, ZH, Zx, Zz, ZaE, ZaG, ZbX, ZbW, Zu, ZaW, finX, spOf]
 all_goals generalize Za s = bi
 all_goals cases bi with
 | true => simp [wPC, wSP]
 | false =>
  generalize (s == 5) = bs
  simp only [finI, hk, finR, wPC, wSP, wA, wF, fCY, fVCY, Zcn, flOf, ZJ, pcOf, ZaR]
  generalize Zb c.1 (g.getD 0 0) = i at hk ⊢
  simp (config := { implicitDefEqProofs := false }) [Zby, Za4, Zbh, hk]
theorem fp_2 (c) (s : Int) (g : List Int) (l) (n : Int) (hk : (Zb c.1 (g.getD 0 0)).1 = n) : (n = 3 → (Zxp c s g l).val = some (finX c s g l)) ∧ (n = 7 → (Zxl c s g l).val = some (finX c s g l)) ∧ (n = 11 → (Zrb c s g l).val = some (finX c s g l)) ∧ (n = 18 → (Zq4 c s g l).val = some (finX c s g l)) ∧ (n = 22 → (Zq0 c s g l).val = some (finX c s g l)) ∧ (n = 29 → (ZqT c s g l).val = some (finX c s g l)) ∧ (n = 34 → (ZqO c s g l).val = some (finX c s g l)) ∧ (n = 40 → (ZqI c s g l).val = some (finX c s g l)) ∧ (n = 44 → (ZqE c s g l).val = some (finX c s g l)) := by
 refine ⟨?_, ?_, ?_, ?_, ?_, ?_, ?_, ?_, ?_⟩
 all_goals intro e; subst e
 all_goals simp only [Zxp, Zxl, Zrb, Zq4, Zq0, ZqT, ZqO, ZqI, ZqE, RT.val, rgx]
 all_goals simp only [qat0, mat0, qat1, mat1, rg0, hk, Zv, ZW, Z7, ZG, ZH, Zx, Zz, ZaE, ZaG, ZbX, ZbW, Zu, ZaW, finX, spOf]
 all_goals generalize Za s = bi
 all_goals cases bi with
 | true => simp [wPC, wSP]
 | false =>
  generalize (s == 5) = bs
  simp only [finI, hk, finR, wPC, wSP, wA, wF, fCY, fVCY, Zcn, flOf, ZJ, pcOf, ZaR]
  generalize Zb c.1 (g.getD 0 0) = i at hk ⊢
  simp (config := { implicitDefEqProofs := false }) [Zby, Za4, Zbh, hk]
theorem fp_3 (c) (s : Int) (g : List Int) (l) (n : Int) (hk : (Zb c.1 (g.getD 0 0)).1 = n) : (n = 4 → (Zxo c s g l).val = some (finX c s g l)) ∧ (n = 8 → (Zxk c s g l).val = some (finX c s g l)) ∧ (n = 13 → (Zq9 c s g l).val = some (finX c s g l)) ∧ (n = 19 → (Zq3 c s g l).val = some (finX c s g l)) ∧ (n = 23 → (ZqZ c s g l).val = some (finX c s g l)) ∧ (n = 30 → (ZqS c s g l).val = some (finX c s g l)) ∧ (n = 35 → (ZqN c s g l).val = some (finX c s g l)) ∧ (n = 41 → (ZqH c s g l).val = some (finX c s g l)) ∧ (n = 46 → (ZqC c s g l).val = some (finX c s g l)) := by
 refine ⟨?_, ?_, ?_, ?_, ?_, ?_, ?_, ?_, ?_⟩
 all_goals intro e; subst e
 all_goals simp only [Zxo, Zxk, Zq9, Zq3, ZqZ, ZqS, ZqN, ZqH, ZqC, RT.val, rgx]
 all_goals simp only [qat0, mat0, qat1, mat1, rg0, hk, Zv, ZW, Z7, ZG, ZH, Zx, Zz, ZaE, ZaG, ZbX, ZbW, Zu, ZaW, finX, spOf]
 all_goals generalize Za s = bi
 all_goals cases bi with
 | true => simp [wPC, wSP]
 | false =>
  generalize (s == 5) = bs
  simp only [finI, hk, finR, wPC, wSP, wA, wF, fCY, fVCY, Zcn, flOf, ZJ, pcOf, ZaR]
  generalize Zb c.1 (g.getD 0 0) = i at hk ⊢
  simp (config := { implicitDefEqProofs := false }) [Zby, Za4, Zbh, hk]
theorem fp_4 (c) (s : Int) (g : List Int) (l) (n : Int) (hk : (Zb c.1 (g.getD 0 0)).1 = n) : (n = 5 → (Zxn c s g l).val = some (finX c s g l)) ∧ (n = 9 → (Zxj c s g l).val = some (finX c s g l)) ∧ (n = 16 → (Zq6 c s g l).val = some (finX c s g l)) ∧ (n = 20 → (Zq2 c s g l).val = some (finX c s g l)) ∧ (n = 27 → (ZqV c s g l).val = some (finX c s g l)) ∧ (n = 32 → (ZqQ c s g l).val = some (finX c s g l)) ∧ (n = 36 → (ZqM c s g l).val = some (finX c s g l)) ∧ (n = 42 → (ZqG c s g l).val = some (finX c s g l)) ∧ (n = 47 → (ZqB c s g l).val = some (finX c s g l)) := by
 refine ⟨?_, ?_, ?_, ?_, ?_, ?_, ?_, ?_, ?_⟩
 all_goals intro e; subst e
 all_goals simp only [Zxn, Zxj, Zq6, Zq2, ZqV, ZqQ, ZqM, ZqG, ZqB, RT.val, rgx]
 all_goals simp only [qat0, mat0, qat1, mat1, rg0, hk, Zv, ZW, Z7, ZG, ZH, Zx, Zz, ZaE, ZaG, ZbX, ZbW, Zu, ZaW, finX, spOf]
 all_goals generalize Za s = bi
 all_goals cases bi with
 | true => simp [wPC, wSP]
 | false =>
  generalize (s == 5) = bs
  simp only [finI, hk, finR, wPC, wSP, wA, wF, fCY, fVCY, Zcn, flOf, ZJ, pcOf, ZaR]
  generalize Zb c.1 (g.getD 0 0) = i at hk ⊢
  simp (config := { implicitDefEqProofs := false }) [Zby, Za4, Zbh, hk]
theorem fp_5 (c) (s : Int) (g : List Int) (l) (n : Int) (hk : (Zb c.1 (g.getD 0 0)).1 = n) : (n = 2 → (Zxq c s g l).val = some (finX c s g l)) ∧ (n = 12 → (Zra c s g l).val = some (finX c s g l)) := by
 refine ⟨?_, ?_⟩
 all_goals intro e; subst e
 all_goals simp only [Zxq, Zra, RT.val, rgx]
 all_goals simp only [qat0, mat0, qat1, mat1, rg0, hk, Zv, ZW, Z7, ZG, ZH, Zx, Zz, ZaE, ZaG, ZbX, ZbW, Zu, ZaW, finX, spOf]
 all_goals generalize Za s = bi
 all_goals cases bi with
 | true => simp [wPC, wSP]
 | false =>
  generalize (s == 5) = bs
  simp only [finI, hk, finR, wPC, wSP, wA, wF, fCY, fVCY, Zcn, flOf, ZJ, pcOf, ZaR]
  generalize Zb c.1 (g.getD 0 0) = i at hk ⊢
  generalize (i.2.2.2.1 == 6) = b0
  cases b0 <;> simp (config := { implicitDefEqProofs := false }) [Zby, Za4, Zbh, hk]
theorem fp_6 (c) (s : Int) (g : List Int) (l) (n : Int) (hk : (Zb c.1 (g.getD 0 0)).1 = n) : (n = 14 → (Zq8 c s g l).val = some (finX c s g l)) ∧ (n = 15 → (Zq7 c s g l).val = some (finX c s g l)) := by
 refine ⟨?_, ?_⟩
 all_goals intro e; subst e
 all_goals simp only [Zq8, Zq7, RT.val, rgx]
 all_goals simp only [qat0, mat0, qat1, mat1, rg0, hk, Zv, ZW, Z7, ZG, ZH, Zx, Zz, ZaE, ZaG, ZbX, ZbW, Zu, ZaW, finX, spOf]
 all_goals generalize Za s = bi
 all_goals cases bi with
 | true => simp [wPC, wSP]
 | false =>
  generalize (s == 5) = bs
  simp only [finI, hk, finR, wPC, wSP, wA, wF, fCY, fVCY, Zcn, flOf, ZJ, pcOf, ZaR]
  generalize Zb c.1 (g.getD 0 0) = i at hk ⊢
  generalize (i.2.2.1 == 6) = b0
  cases b0 <;> simp (config := { implicitDefEqProofs := false }) [Zby, Za4, Zbh, hk]
theorem fp_7 (c) (s : Int) (g : List Int) (l) (n : Int) (hk : (Zb c.1 (g.getD 0 0)).1 = n) : (n = 24 → (ZqY c s g l).val = some (finX c s g l)) ∧ (n = 25 → (ZqX c s g l).val = some (finX c s g l)) ∧ (n = 26 → (ZqW c s g l).val = some (finX c s g l)) ∧ (n = 45 → (ZqD c s g l).val = some (finX c s g l)) := by
 refine ⟨?_, ?_, ?_, ?_⟩
 all_goals intro e; subst e
 all_goals simp only [ZqY, ZqX, ZqW, ZqD, RT.val, rgx]
 all_goals simp only [qat0, mat0, qat1, mat1, rg0, hk, Zv, ZW, Z7, ZG, ZH, Zx, Zz, ZaE, ZaG, ZbX, ZbW, Zu, ZaW, finX, spOf]
 all_goals generalize Za s = bi
 all_goals cases bi with
 | true => simp [wPC, wSP]
 | false =>
  generalize (s == 5) = bs
  simp only [finI, hk, finR, wPC, wSP, wA, wF, fCY, fVCY, Zcn, flOf, ZJ, pcOf, ZaR]
  generalize Zb c.1 (g.getD 0 0) = i at hk ⊢
  generalize ZdG _ _ = b0
  cases b0 <;> simp (config := { implicitDefEqProofs := false }) [Zby, Za4, Zbh, hk]
theorem fp_8 (c) (s : Int) (g : List Int) (l) (n : Int) (hk : (Zb c.1 (g.getD 0 0)).1 = n) : (n = 31 → (ZqR c s g l).val = some (finX c s g l)) := by
 skip
 all_goals intro e; subst e
 all_goals simp only [ZqR, RT.val, rgx]
 all_goals simp only [qat0, mat0, qat1, mat1, rg0, hk, Zv, ZW, Z7, ZG, ZH, Zx, Zz, ZaE, ZaG, ZbX, ZbW, Zu, ZaW, finX, spOf]
 all_goals generalize Za s = bi
 all_goals cases bi with
 | true => simp [wPC, wSP]
 | false =>
  generalize (s == 5) = bs
  simp only [finI, hk, finR, wPC, wSP, wA, wF, fCY, fVCY, Zcn, flOf, ZJ, pcOf, ZaR]
  generalize Zb c.1 (g.getD 0 0) = i at hk ⊢
  generalize (i.2.2.2.2.1 == 3) = b0
  cases b0 <;> simp (config := { implicitDefEqProofs := false }) [Zby, Za4, Zbh, hk]
theorem fp_9 (c) (s : Int) (g : List Int) (l) (n : Int) (hk : (Zb c.1 (g.getD 0 0)).1 = n) : (n = 38 → (ZqK c s g l).val = some (finX c s g l)) := by
 skip
 all_goals intro e; subst e
 all_goals simp only [ZqK, RT.val, rgx]
 all_goals simp only [qat0, mat0, qat1, mat1, rg0, hk, Zv, ZW, Z7, ZG, ZH, Zx, Zz, ZaE, ZaG, ZbX, ZbW, Zu, ZaW, finX, spOf]
 all_goals generalize Za s = bi
 all_goals cases bi with
 | true => simp [wPC, wSP]
 | false =>
  generalize (s == 5) = bs
  simp only [finI, hk, finR, wPC, wSP, wA, wF, fCY, fVCY, Zcn, flOf, ZJ, pcOf, ZaR]
  generalize Zb c.1 (g.getD 0 0) = i at hk ⊢
  simp [Zby, Za4, Zbh, hk, ZLY]
theorem fp_10 (c) (s : Int) (g : List Int) (l) (n : Int) (hk : (Zb c.1 (g.getD 0 0)).1 = n) : (n = 39 → (ZqJ c s g l).val = some (finX c s g l)) := by
 skip
 all_goals intro e; subst e
 all_goals simp only [ZqJ, RT.val, rgx]
 all_goals simp only [qat0, mat0, qat1, mat1, rg0, hk, Zv, ZW, Z7, ZG, ZH, Zx, Zz, ZaE, ZaG, ZbX, ZbW, Zu, ZaW, finX, spOf]
 all_goals generalize Za s = bi
 all_goals cases bi with
 | true => simp [wPC, wSP]
 | false =>
  generalize (s == 5) = bs
  simp only [finI, hk, finR, wPC, wSP, wA, wF, fCY, fVCY, Zcn, flOf, ZJ, pcOf, ZaR]
  generalize Zb c.1 (g.getD 0 0) = i at hk ⊢
  simp [Zby, Za4, Zbh, hk, rSim, ZEQ, RT.val]
theorem ZOy (a : HL Zo) (h : okHL Zo a) : ∃ l, ZcN Tryz.prog l ∧ (Zg (envX Tryz.prog l [] 1023 8) Tryz.f111 Zo Z3 a).val = some (finX a.1 a.2.1 a.2.2.1 a.2.2.2) := by
 have hk := ZrI a.1.1 _ (ZrN h.2.2.1)
 refine ⟨Zay (Zb a.1.1 (a.2.2.1.getD 0 0)).1, ZKP _, ?_⟩
 rcases ZrH hk.1 hk.2 with e | e | e | e | e | e | e | e | e | e | e | e | e | e | e | e | e | e | e | e | e | e | e | e | e | e | e | e | e | e | e | e | e | e | e | e | e | e | e | e | e | e | e | e | e | e | e
 ·rw [e, ZHm a, ((fp_1 a.1 a.2.1 a.2.2.1 a.2.2.2 _ e).1 rfl)]
 ·rw [e, ZHl a, ((fp_5 a.1 a.2.1 a.2.2.1 a.2.2.2 _ e).1 rfl)]
 ·rw [e, ZHk a, ((fp_2 a.1 a.2.1 a.2.2.1 a.2.2.2 _ e).1 rfl)]
 ·rw [e, ZHj a, ((fp_3 a.1 a.2.1 a.2.2.1 a.2.2.2 _ e).1 rfl)]
 ·rw [e, ZHi a, ((fp_4 a.1 a.2.1 a.2.2.1 a.2.2.2 _ e).1 rfl)]
 ·rw [e, ZHh a, ((fp_1 a.1 a.2.1 a.2.2.1 a.2.2.2 _ e).2.1 rfl)]
 ·rw [e, ZHg a, ((fp_2 a.1 a.2.1 a.2.2.1 a.2.2.2 _ e).2.1 rfl)]
 ·rw [e, ZHf a, ((fp_3 a.1 a.2.1 a.2.2.1 a.2.2.2 _ e).2.1 rfl)]
 ·rw [e, ZHe a, ((fp_4 a.1 a.2.1 a.2.2.1 a.2.2.2 _ e).2.1 rfl)]
 ·rw [e, ZDd a, ((fp_1 a.1 a.2.1 a.2.2.1 a.2.2.2 _ e).2.2.1 rfl)]
 ·rw [e, ZDc a, ((fp_2 a.1 a.2.1 a.2.2.1 a.2.2.2 _ e).2.2.1 rfl)]
 ·rw [e, ZDb a, ((fp_5 a.1 a.2.1 a.2.2.1 a.2.2.2 _ e).2 rfl)]
 ·rw [e, ZDa a, ((fp_3 a.1 a.2.1 a.2.2.1 a.2.2.2 _ e).2.2.1 rfl)]
 ·rw [e, ZC9 a, ((fp_6 a.1 a.2.1 a.2.2.1 a.2.2.2 _ e).1 rfl)]
 ·rw [e, ZC8 a, ((fp_6 a.1 a.2.1 a.2.2.1 a.2.2.2 _ e).2 rfl)]
 ·rw [e, ZC7 a, ((fp_4 a.1 a.2.1 a.2.2.1 a.2.2.2 _ e).2.2.1 rfl)]
 ·rw [e, ZC6 a, ((fp_1 a.1 a.2.1 a.2.2.1 a.2.2.2 _ e).2.2.2.1 rfl)]
 ·rw [e, ZC5 a, ((fp_2 a.1 a.2.1 a.2.2.1 a.2.2.2 _ e).2.2.2.1 rfl)]
 ·rw [e, ZC4 a, ((fp_3 a.1 a.2.1 a.2.2.1 a.2.2.2 _ e).2.2.2.1 rfl)]
 ·rw [e, ZC3 a, ((fp_4 a.1 a.2.1 a.2.2.1 a.2.2.2 _ e).2.2.2.1 rfl)]
 ·rw [e, ZC2 a, ((fp_1 a.1 a.2.1 a.2.2.1 a.2.2.2 _ e).2.2.2.2.1 rfl)]
 ·rw [e, ZC1 a, ((fp_2 a.1 a.2.1 a.2.2.1 a.2.2.2 _ e).2.2.2.2.1 rfl)]
 ·rw [e, ZC0 a, ((fp_3 a.1 a.2.1 a.2.2.1 a.2.2.2 _ e).2.2.2.2.1 rfl)]
 ·rw [e, ZCZ a, ((fp_7 a.1 a.2.1 a.2.2.1 a.2.2.2 _ e).1 rfl)]
 ·rw [e, ZCY a, ((fp_7 a.1 a.2.1 a.2.2.1 a.2.2.2 _ e).2.1 rfl)]
 ·rw [e, ZCX a, ((fp_7 a.1 a.2.1 a.2.2.1 a.2.2.2 _ e).2.2.1 rfl)]
 ·rw [e, ZCW a, ((fp_4 a.1 a.2.1 a.2.2.1 a.2.2.2 _ e).2.2.2.2.1 rfl)]
 ·rw [e, ZCV a, ((fp_1 a.1 a.2.1 a.2.2.1 a.2.2.2 _ e).2.2.2.2.2.1 rfl)]
 ·rw [e, ZCU a, ((fp_2 a.1 a.2.1 a.2.2.1 a.2.2.2 _ e).2.2.2.2.2.1 rfl)]
 ·rw [e, ZCT a, ((fp_3 a.1 a.2.1 a.2.2.1 a.2.2.2 _ e).2.2.2.2.2.1 rfl)]
 ·rw [e, ZCS a, ((fp_8 a.1 a.2.1 a.2.2.1 a.2.2.2 _ e) rfl)]
 ·rw [e, ZCR a, ((fp_4 a.1 a.2.1 a.2.2.1 a.2.2.2 _ e).2.2.2.2.2.1 rfl)]
 ·rw [e, ZCQ a, ((fp_1 a.1 a.2.1 a.2.2.1 a.2.2.2 _ e).2.2.2.2.2.2.1 rfl)]
 ·rw [e, ZCP a, ((fp_2 a.1 a.2.1 a.2.2.1 a.2.2.2 _ e).2.2.2.2.2.2.1 rfl)]
 ·rw [e, ZCO a, ((fp_3 a.1 a.2.1 a.2.2.1 a.2.2.2 _ e).2.2.2.2.2.2.1 rfl)]
 ·rw [e, ZCN a, ((fp_4 a.1 a.2.1 a.2.2.1 a.2.2.2 _ e).2.2.2.2.2.2.1 rfl)]
 ·rw [e, ZCM a, ((fp_1 a.1 a.2.1 a.2.2.1 a.2.2.2 _ e).2.2.2.2.2.2.2.1 rfl)]
 ·rw [e, ZCL a, ((fp_9 a.1 a.2.1 a.2.2.1 a.2.2.2 _ e) rfl)]
 ·rw [e, ZCK a, ((fp_10 a.1 a.2.1 a.2.2.1 a.2.2.2 _ e) rfl)]
 ·rw [e, ZCJ a, ((fp_2 a.1 a.2.1 a.2.2.1 a.2.2.2 _ e).2.2.2.2.2.2.2.1 rfl)]
 ·rw [e, ZCI a, ((fp_3 a.1 a.2.1 a.2.2.1 a.2.2.2 _ e).2.2.2.2.2.2.2.1 rfl)]
 ·rw [e, ZCH a, ((fp_4 a.1 a.2.1 a.2.2.1 a.2.2.2 _ e).2.2.2.2.2.2.2.1 rfl)]
 ·rw [e, ZCG a, ((fp_1 a.1 a.2.1 a.2.2.1 a.2.2.2 _ e).2.2.2.2.2.2.2.2 rfl)]
 ·rw [e, ZCF a, ((fp_2 a.1 a.2.1 a.2.2.1 a.2.2.2 _ e).2.2.2.2.2.2.2.2 rfl)]
 ·rw [e, ZCE a, ((fp_7 a.1 a.2.1 a.2.2.1 a.2.2.2 _ e).2.2.2 rfl)]
 ·rw [e, ZCD a, ((fp_3 a.1 a.2.1 a.2.2.1 a.2.2.2 _ e).2.2.2.2.2.2.2.2 rfl)]
 ·rw [e, ZCC a, ((fp_4 a.1 a.2.1 a.2.2.1 a.2.2.2 _ e).2.2.2.2.2.2.2.2 rfl)]
def Zrd : Entry := Zk Zo Z3 (fun _ => none) (fun a => finX a.1 a.2.1 a.2.2.1 a.2.2.2)
theorem ZqA : Zc Tryz.prog 111 Zrd := Zjm Tryz.func111 rfl (by kernel_rfl) Tryz.call111 fun a h _ => ZOy a h
abbrev LnT := QT0
abbrev ZAn : List Sh := [Sh.one (R.int i64), Sh.one (R.int i64)]
abbrev ZrB : Rs := Rs.one (Sh.one (R.int i64))
def Zmg (x : Int) (n : Int) : RT (Option (Int)) :=
 .br (IntKind.u64.wrap n != 0) (.leaf (some (i64.wrap (Int.tmod (IntKind.u64.wrap x) (IntKind.u64.wrap n))))) (.leaf none)
def ZiI (x : Int) (n : Int) : Int := getO ZrB.dflt (Zmg x n).val
def ZbJ (x : Int) (n : Int) : Bool := okB (Zmg x n).val
def Zx2 : Entry := Zk ZAn ZrB (fun a => some (ZbJ a.1 a.2)) (fun a => ZiI a.1 a.2)
theorem ZtR : Zc Tryz.prog 24 Zx2 :=
 pureP 31 [] [] ZAn ZrB trivial Tryz.func24 Tryz.call24 trivial (t := fun a => Zmg a.1 a.2) (fun a => by kernel_rfl)
abbrev ZxP : R := R.pair (R.sl (R.int i64)) (R.int i64)
abbrev ZHO : List Sh := [Sh.one (R.int i64)]
abbrev ZxO : Rs := Rs.one (Sh.one (R.int i64))
def Zl4 (s : List Int × Int) (n : Int) : RT (Option (QT20)) :=
 let x1 := Zf (i64.wrap (i64.wrap (s.2 + 1) - 1)) (List.length s.1)
 let x2 : Int := R.get (R.int i64) s.1 (i64.wrap (i64.wrap (s.2 + 1) - 1))
 .br (decide (s.2 ≥ iN (List.length s.1))) (.leaf (some ((0, s.1, i64.wrap (s.2 + 1))))) (.br (!x1 || ZbJ x2 n) (.br (x1) (.leaf (some ((ZiI x2 n, s.1, i64.wrap (s.2 + 1))))) (.leaf none)) (.leaf none))
def Zd (s : List Int × Int) (n : Int) : QT20 := getO (ZxO.dflt, ZxP.dflt) (Zl4 s n).val
def Zw (s : List Int × Int) (n : Int) : Bool := okB (Zl4 s n).val
def ZbY : Entry := boxE ZxP ZHO ZxO (fun a => some (Zw a.1 a.2)) (fun a => Zd a.1 a.2)
theorem Za8 : Zc Tryz.prog 46 ZbY :=
 ZbS (P := Tryz.prog) (n := 31) (k := 8) (l := [(24, Zx2)]) (ol := []) ⟨ZtR, trivial⟩ Tryz.func46 rfl (by kernel_rfl) Tryz.call46 trivial (rb := ZxP) (ts := ZHO) (rs := ZxO) (t := fun a => Zl4 a.1 a.2) (fun a => by kernel_rfl)
abbrev ZxY : R := R.pair (R.sl (R.int i64)) (R.int i64)
abbrev ZH3 : List Sh := []
abbrev ZxX : Rs := Rs.one (Sh.one (R.int u8))
def Zl7 (s : List Int × Int) : RT (Option (QT20)) :=
 let x1 : List Int := [0, 1, 127, 128, 255, 15, 16, 153, 154, 9, 102, 254, 129, 85, 170, 64]
 .br (Zw s 512) (.br (!decide ((Zd s 512).1 ≥ 256) || Zf (Int.tmod (Zd s 512).1 16) (List.length x1)) (.br (decide ((Zd s 512).1 ≥ 256)) (.leaf (some ((R.get (R.int u8) x1 (Int.tmod (Zd s 512).1 16), (Zd s 512).2)))) (.leaf (some ((u8.wrap (Zd s 512).1, (Zd s 512).2))))) (.leaf none)) (.leaf none)
def Zm (s : List Int × Int) : QT20 := getO (ZxX.dflt, ZxY.dflt) (Zl7 s).val
def Z9 (s : List Int × Int) : Bool := okB (Zl7 s).val
def ZiH : Entry := boxE ZxY ZH3 ZxX (fun a => some (Z9 a.1 )) (fun a => Zm a.1 )
theorem Zhb : Zc Tryz.prog 108 ZiH :=
 ZbS (P := Tryz.prog) (n := 15) (k := 8) (l := [(46, ZbY)]) (ol := []) ⟨Za8, trivial⟩ Tryz.func108 rfl (by kernel_rfl) Tryz.call108 trivial (rb := ZxY) (ts := ZH3) (rs := ZxX) (t := fun a => Zl7 a.1 ) (fun a => by kernel_rfl)
abbrev ZxF : R := R.pair (R.sl (R.int i64)) (R.int i64)
abbrev ZHM : List Sh := []
abbrev ZxE : Rs := Rs.one (Sh.one (R.int u16))
def Zg9 (s : List Int × Int) : RT (Option (QT20)) :=
 let x1 : List Int := [0, 1, 65535, 65534, 32767, 32768, 255, 256]
 let x2 := !(Zd s 5).1 == 0 || (!Zw (Zd s 5).2 8 || Zf (Zd (Zd s 5).2 8).1 (List.length x1))
 let x3 := !x2
 let x4 := !(Zd s 5).1 == 0 || Zw (Zd s 5).2 8
 .br (Zw s 5) (.br (x3 || (!x4 || ((Zd s 5).1 == 0 || (!(Zd s 5).1 == 1 || Zw (Zd s 5).2 65536)))) (.br (x3 || x4) (.br (x2) (.br ((Zd s 5).1 == 0) (.leaf (some ((R.get (R.int u16) x1 (Zd (Zd s 5).2 8).1, (Zd (Zd s 5).2 8).2)))) (.br ((Zd s 5).1 == 1) (.leaf (some ((u16.wrap (Zd (Zd s 5).2 65536).1, (Zd (Zd s 5).2 65536).2)))) (.br (Zw (Zd s 5).2 64) (.leaf (some ((u16.wrap (Zd (Zd s 5).2 64).1, (Zd (Zd s 5).2 64).2)))) (.leaf none)))) (.leaf none)) (.leaf none)) (.leaf none)) (.leaf none)
def Zar (s : List Int × Int) : QT20 := getO (ZxE.dflt, ZxF.dflt) (Zg9 s).val
def Zcj (s : List Int × Int) : Bool := okB (Zg9 s).val
def ZiF : Entry := boxE ZxF ZHM ZxE (fun a => some (Zcj a.1 )) (fun a => Zar a.1 )
theorem Zg8 : Zc Tryz.prog 137 ZiF :=
 ZbS (P := Tryz.prog) (n := 4135) (k := 8) (l := [(46, ZbY)]) (ol := []) ⟨Za8, trivial⟩ Tryz.func137 rfl (by kernel_rfl) Tryz.call137 trivial (rb := ZxF) (ts := ZHM) (rs := ZxE) (t := fun a => Zg9 a.1 ) (fun a => by kernel_rfl)
abbrev ZxU : R := R.pair (R.sl (R.int i64)) (R.int i64)
abbrev ZHW : List Sh := []
abbrev ZxT : Rs := Rs.one (Sh.one (R.int i64))
def ZtG (s : List Int × Int) : RT (Option (QT20)) :=
 .br (Zw s 2) (.leaf (some ((i64.wrap (1 + (Zd s 2).1), (Zd s 2).2)))) (.leaf none)
def ZaC (s : List Int × Int) : QT20 := getO (ZxT.dflt, ZxU.dflt) (ZtG s).val
def ZAf (s : List Int × Int) : Bool := okB (ZtG s).val
def ZMW : Entry := boxE ZxU ZHW ZxT (fun a => some (ZAf a.1 )) (fun a => ZaC a.1 )
theorem ZK8 : Zc Tryz.prog 72 ZMW :=
 ZbS (P := Tryz.prog) (n := 7) (k := 8) (l := [(46, ZbY)]) (ol := []) ⟨Za8, trivial⟩ Tryz.func72 rfl (by kernel_rfl) Tryz.call72 trivial (rb := ZxU) (ts := ZHW) (rs := ZxT) (t := fun a => ZtG a.1 ) (fun a => by kernel_rfl)
abbrev Zrq : R := R.pair (R.sl (R.int i64)) (R.int i64)
abbrev ZAd : List Sh := [Sh.one (R.int i64)]
abbrev Zrp : Rs := Rs.one (Sh.agg rcF7)
def Zro (s : List Int × Int) (chip : Int) : RT (Option (TF × List Int × Int)) :=
 .br (Zw s 128) (.leaf (some (((andI i64 (Zd s 128).1 1 != 0, andI i64 (Zd s 128).1 2 != 0, chip == 2 && andI i64 (Zd s 128).1 32 != 0, andI i64 (Zd s 128).1 4 != 0, andI i64 (Zd s 128).1 8 != 0, chip == 2 && andI i64 (Zd s 128).1 64 != 0, andI i64 (Zd s 128).1 16 != 0), (Zd s 128).2)))) (.leaf none)
def ZiG (s : List Int × Int) (chip : Int) : TF × List Int × Int := getO (Zrp.dflt, Zrq.dflt) (Zro s chip).val
def Zrr (s : List Int × Int) (chip : Int) : Bool := okB (Zro s chip).val
def ZHU : Entry := boxE Zrq ZAd Zrp (fun a => some (Zrr a.1 a.2)) (fun a => ZiG a.1 a.2)
theorem ZHS : Zc Tryz.prog 136 ZHU :=
 ZbS (P := Tryz.prog) (n := 127) (k := 8) (l := [(46, ZbY)]) (ol := []) ⟨Za8, trivial⟩ Tryz.func136 rfl (by kernel_rfl) Tryz.call136 trivial (rb := Zrq) (ts := ZAd) (rs := Zrp) (t := fun a => Zro a.1 a.2) (fun a => by kernel_rfl)
abbrev ZxH : R := R.pair (R.sl (R.int i64)) (R.int i64)
abbrev ZHN : List Sh := [Sh.one (R.int i64)]
abbrev ZxG : Rs := Rs.one (Sh.agg Zd0)
def ZtB (s : List Int × Int) (chip : Int) : RT (Option (TR × List Int × Int)) :=
 let x1 := Zm (Zm (Zm (Zm (Zm (Zm (Zm s).2).2).2).2).2).2
 let x2 := x1.2
 let x3 := Zrr x2 chip
 let x4 := !x3
 let x5 := ZiG x2 chip
 let x6 := x5.2
 let x7 := Zcj x6
 let x8 := Zar x6
 let x9 := x8.2
 let x10 := Zar x9
 .br (!Z9 s || (!Z9 (Zm s).2 || (!Z9 (Zm (Zm s).2).2 || (!Z9 (Zm (Zm (Zm s).2).2).2 || (!Z9 (Zm (Zm (Zm (Zm s).2).2).2).2 || (!Z9 (Zm (Zm (Zm (Zm (Zm s).2).2).2).2).2 || Z9 (Zm (Zm (Zm (Zm (Zm (Zm s).2).2).2).2).2).2)))))) (.br (!Z9 s || (!Z9 (Zm s).2 || (!Z9 (Zm (Zm s).2).2 || (!Z9 (Zm (Zm (Zm s).2).2).2 || (!Z9 (Zm (Zm (Zm (Zm s).2).2).2).2 || Z9 (Zm (Zm (Zm (Zm (Zm s).2).2).2).2).2))))) (.br (!Z9 s || (!Z9 (Zm s).2 || (!Z9 (Zm (Zm s).2).2 || (!Z9 (Zm (Zm (Zm s).2).2).2 || Z9 (Zm (Zm (Zm (Zm s).2).2).2).2)))) (.br (!Z9 s || (!Z9 (Zm s).2 || (!Z9 (Zm (Zm s).2).2 || Z9 (Zm (Zm (Zm s).2).2).2))) (.br (!Z9 s || (!Z9 (Zm s).2 || Z9 (Zm (Zm s).2).2)) (.br (!Z9 s || Z9 (Zm s).2) (.br (Z9 s) (.br (x4 || (!x7 || Zcj x9)) (.br (x4 || x7) (.br (x3) (.leaf (some ((((Zm s).1, (Zm (Zm s).2).1, (Zm (Zm (Zm s).2).2).1, (Zm (Zm (Zm (Zm s).2).2).2).1, (Zm (Zm (Zm (Zm (Zm s).2).2).2).2).1, (Zm (Zm (Zm (Zm (Zm (Zm s).2).2).2).2).2).1, x1.1, x5.1, x8.1, x10.1), x10.2)))) (.leaf none)) (.leaf none)) (.leaf none)) (.leaf none)) (.leaf none)) (.leaf none)) (.leaf none)) (.leaf none)) (.leaf none)) (.leaf none)
def ZhZ (s : List Int × Int) (chip : Int) : TR × List Int × Int := getO (ZxG.dflt, ZxH.dflt) (ZtB s chip).val
def ZtC (s : List Int × Int) (chip : Int) : Bool := okB (ZtB s chip).val
def ZMT : Entry := boxE ZxH ZHN ZxG (fun a => some (ZtC a.1 a.2)) (fun a => ZhZ a.1 a.2)
theorem ZK5 : Zc Tryz.prog 73 ZMT :=
 ZbS (P := Tryz.prog) (n := 63) (k := 8) (l := [(108, ZiH), (136, ZHU), (137, ZiF)]) (ol := []) ⟨Zhb, ZHS, Zg8, trivial⟩ Tryz.func73 rfl (by kernel_rfl) Tryz.call73 trivial (rb := ZxH) (ts := ZHN) (rs := ZxG) (t := fun a => ZtB a.1 a.2) (fun a => by kernel_rfl)
abbrev Zl3 : R := R.pair (R.sl (R.int i64)) (R.int i64)
abbrev ZtF : List Sh := []
abbrev Zl2 : Rs := Rs.one (Sh.one (R.int u8))
def Zen (s : List Int × Int) : RT (Option (QT20)) :=
 let x1 : List Int := [251, 243, 118, 205, 201, 197, 227, 211, 219, 54, 52, 32, 48, 194, 202, 255, 62, 49]
 .br (Zw s 3) (.br (!decide ((Zd s 3).1 > 0) || Zw (Zd s 3).2 256) (.br (decide ((Zd s 3).1 > 0)) (.leaf (some ((u8.wrap (Zd (Zd s 3).2 256).1, (Zd (Zd s 3).2 256).2)))) (.br (!Zw (Zd s 3).2 18 || Zf (Zd (Zd s 3).2 18).1 (List.length x1)) (.br (Zw (Zd s 3).2 18) (.leaf (some ((R.get (R.int u8) x1 (Zd (Zd s 3).2 18).1, (Zd (Zd s 3).2 18).2)))) (.leaf none)) (.leaf none))) (.leaf none)) (.leaf none)
def Za7 (s : List Int × Int) : QT20 := getO (Zl2.dflt, Zl3.dflt) (Zen s).val
def Zc5 (s : List Int × Int) : Bool := okB (Zen s).val
def Zjw : Entry := boxE Zl3 ZtF Zl2 (fun a => some (Zc5 a.1 )) (fun a => Za7 a.1 )
theorem ZnZ : Zc Tryz.prog 109 Zjw :=
 ZbS (P := Tryz.prog) (n := 7) (k := 8) (l := [(46, ZbY)]) (ol := []) ⟨Za8, trivial⟩ Tryz.func109 rfl (by kernel_rfl) Tryz.call109 trivial (rb := Zl3) (ts := ZtF) (rs := Zl2) (t := fun a => Zen a.1 ) (fun a => by kernel_rfl)
def NB (s : List Int × Int) (k : Int) : Prop := 0 ≤ s.2 ∧ s.2 ≤ k
theorem ZtS (x n : Int) (h0 : 0 < n) (h1 : n ≤ 4611686018427387904) : ZbJ x n = true ∧ ZiI x n = (x % 18446744073709551616) % n := by
 have e : IntKind.wrap .u64 n = n := ZjD ⟨by simp [IntKind.min, IntKind.signed]; omega, by simp [IntKind.max, IntKind.signed, IntKind.bits]; omega⟩
 have e2 : IntKind.wrap .u64 x = x % 18446744073709551616 := by simp [IntKind.wrap, IntKind.signed, IntKind.bits]
 have hn : (n != 0) = true := by simp; omega
 have h2 : 0 ≤ x % 18446744073709551616 := Int.emod_nonneg _ (by decide)
 have h3 := Int.emod_nonneg (x % 18446744073709551616) (b := n) (by omega)
 have h4 := Int.emod_lt_of_pos (x % 18446744073709551616) (b := n) h0
 have hv : (Zmg x n).val = some ((x % 18446744073709551616) % n) := by
  simp only [Zmg, RT.val, e, e2, hn, cond_true, Int.tmod_eq_emod_of_nonneg h2]
  rw [wrap_i64 _ (by omega) (by omega)]
 exact ⟨by simp only [ZbJ, hv]; rfl, by simp only [ZiI, hv, getO]⟩
theorem ZY {s : List Int × Int} {k : Int} (h : NB s k) (hk : k ≤ 1000000) (n : Int) (h0 : 0 < n) (h1 : n ≤ 4611686018427387904) :
  Zw s n = true ∧ NB (Zd s n).2 (k + 1) ∧ 0 ≤ (Zd s n).1 ∧ (Zd s n).1 < n := by
 obtain ⟨ha, hb⟩ := h
 have e1 : IntKind.wrap .i64 (s.2 + 1) = s.2 + 1 := wrap_i64 _ (by omega) (by omega)
 have e2 : IntKind.wrap .i64 s.2 = s.2 := wrap_i64 _ (by omega) (by omega)
 by_cases hl : (s.1.length : Int) ≤ s.2
 ·have hv : (Zl4 s n).val = some (0, s.1, s.2 + 1) := by simp [Zl4, RT.val, iN, hl, e1]
  simp only [Zw, Zd, hv, okB, getO, NB]
  exact ⟨trivial, ⟨by omega, by omega⟩, by omega, h0⟩
 ·have hr : Zf s.2 s.1.length = true := ZaH.2 ⟨ha, by omega⟩
  obtain ⟨p1, p2⟩ := ZtS (R.get (R.int i64) s.1 s.2) n h0 h1
  have h3 := Int.emod_nonneg (R.get (R.int i64) s.1 s.2 % 18446744073709551616) (b := n) (by omega)
  have h4 := Int.emod_lt_of_pos (R.get (R.int i64) s.1 s.2 % 18446744073709551616) (b := n) h0
  have hv : (Zl4 s n).val = some ((R.get (R.int i64) s.1 s.2 % 18446744073709551616) % n, s.1, s.2 + 1) := by simp [Zl4, RT.val, iN, hl, e1, e2, hr, p1, p2]
  simp only [Zw, Zd, hv, okB, getO, NB]
  exact ⟨trivial, ⟨by omega, by omega⟩, h3, h4⟩
theorem ZcE {s : List Int × Int} {k : Int} (h : NB s k) (hk : k ≤ 1000000) : Z9 s = true ∧ NB (Zm s).2 (k + 1) ∧ inR .u8 (Zm s).1 := by
 obtain ⟨c, b, d0, d1⟩ := ZY h hk 512 (by decide) (by decide)
 have m0 : 0 ≤ (Zd s 512).1 % 16 := Int.emod_nonneg _ (by decide)
 have m1 : (Zd s 512).1 % 16 < 16 := Int.emod_lt_of_pos _ (by decide)
 have ht : Int.tmod (Zd s 512).1 16 = (Zd s 512).1 % 16 := Int.tmod_eq_emod_of_nonneg d0
 by_cases hn : 256 ≤ (Zd s 512).1
 ·have hv : (Zl7 s).val = some (R.get (R.int u8) [0, 1, 127, 128, 255, 15, 16, 153, 154, 9, 102, 254, 129, 85, 170, 64] ((Zd s 512).1 % 16), (Zd s 512).2) := by
   simp [Zl7, RT.val, c, hn, ht, Zf, m0, m1]
  simp only [Z9, Zm, hv, okB, getO]
  refine ⟨trivial, b, ?_⟩
  have hall : ∀ i : Nat, i < 16 → inR .u8 (([0, 1, 127, 128, 255, 15, 16, 153, 154, 9, 102, 254, 129, 85, 170, 64] : List Int).getD i 0) := by
   intro i hi
   have : ∀ i : Fin 16, decide (0 ≤ ([0, 1, 127, 128, 255, 15, 16, 153, 154, 9, 102, 254, 129, 85, 170, 64] : List Int).getD i 0) && decide (([0, 1, 127, 128, 255, 15, 16, 153, 154, 9, 102, 254, 129, 85, 170, 64] : List Int).getD i 0 ≤ 255) := by decide
   have := this ⟨i, hi⟩
   rw [Zf6]; simpa using this
  exact hall ((Zd s 512).1 % 16).toNat (by omega)
 ·have hv : (Zl7 s).val = some (IntKind.wrap .u8 (Zd s 512).1, (Zd s 512).2) := by simp [Zl7, RT.val, c, hn]
  simp only [Z9, Zm, hv, okB, getO]
  exact ⟨trivial, b, ZaS _ _⟩
theorem Zjv {s : List Int × Int} {k : Int} (h : NB s k) (hk : k ≤ 900000) : Zcj s = true ∧ NB (Zar s).2 (k + 2) ∧ inR .u16 (Zar s).1 := by
 obtain ⟨c, b, d0, d1⟩ := ZY h (by omega) 5 (by decide) (by decide)
 obtain ⟨c8, b8, e0, e1⟩ := ZY b (by omega) 8 (by decide) (by decide)
 obtain ⟨c6, b6, _⟩ := ZY b (by omega) 65536 (by decide) (by decide)
 obtain ⟨c4, b4, _⟩ := ZY b (by omega) 64 (by decide) (by decide)
 have w : ∀ {t : List Int × Int}, NB t (k + 1 + 1) → NB t (k + 2) := fun h => ⟨h.1, by have := h.2; omega⟩
 have hr : Zf (Zd (Zd s 5).2 8).1 8 = true := ZaH.2 ⟨e0, by omega⟩
 by_cases h0 : (Zd s 5).1 = 0
 ·have hv : (Zg9 s).val = some (R.get (R.int u16) [0, 1, 65535, 65534, 32767, 32768, 255, 256] (Zd (Zd s 5).2 8).1, (Zd (Zd s 5).2 8).2) := by
   simp [Zg9, RT.val, c, h0, c8, hr]
  simp only [Zcj, Zar, hv, okB, getO]
  refine ⟨trivial, w b8, ?_⟩
  have hall : ∀ i : Nat, i < 8 → inR .u16 (([0, 1, 65535, 65534, 32767, 32768, 255, 256] : List Int).getD i 0) := by
   intro i hi
   have : ∀ i : Fin 8, decide (0 ≤ ([0, 1, 65535, 65534, 32767, 32768, 255, 256] : List Int).getD i 0) && decide (([0, 1, 65535, 65534, 32767, 32768, 255, 256] : List Int).getD i 0 ≤ 65535) := by decide
   have := this ⟨i, hi⟩
   simp only [Bool.and_eq_true, decide_eq_true_eq] at this
   exact ⟨by simpa [IntKind.min, IntKind.signed] using this.1, by simpa [IntKind.max, IntKind.signed, IntKind.bits] using this.2⟩
  exact hall (Zd (Zd s 5).2 8).1.toNat (by omega)
 ·by_cases h1 : (Zd s 5).1 = 1
  ·have hv : (Zg9 s).val = some (IntKind.wrap .u16 (Zd (Zd s 5).2 65536).1, (Zd (Zd s 5).2 65536).2) := by simp [Zg9, RT.val, c, h1, c6]
   simp only [Zcj, Zar, hv, okB, getO]
   exact ⟨trivial, w b6, ZaS _ _⟩
  ·have hv : (Zg9 s).val = some (IntKind.wrap .u16 (Zd (Zd s 5).2 64).1, (Zd (Zd s 5).2 64).2) := by
    have g0 : ((Zd s 5).1 == 0) = false := by simpa using h0
    have g1 : ((Zd s 5).1 == 1) = false := by simpa using h1
    simp [Zg9, RT.val, c, g0, g1, c4]
   simp only [Zcj, Zar, hv, okB, getO]
   exact ⟨trivial, w b4, ZaS _ _⟩
theorem ZK9 {s : List Int × Int} {k : Int} (h : NB s k) (hk : k ≤ 1000000) : ZAf s = true ∧ NB (ZaC s).2 (k + 1) ∧ ((ZaC s).1 = 1 ∨ (ZaC s).1 = 2) := by
 obtain ⟨c, b, d0, d1⟩ := ZY h hk 2 (by decide) (by decide)
 have hv : (ZtG s).val = some (1 + (Zd s 2).1, (Zd s 2).2) := by simp [ZtG, RT.val, c]; rw [wrap_i64 _ (by omega) (by omega)]
 simp only [ZAf, ZaC, hv, okB, getO]
 exact ⟨trivial, b, by omega⟩
theorem ZHT {s : List Int × Int} {k : Int} (h : NB s k) (hk : k ≤ 1000000) (c : Int) : Zrr s c = true ∧ NB (ZiG s c).2 (k + 1) := by
 obtain ⟨c1, b, _⟩ := ZY h hk 128 (by decide) (by decide)
 simp only [Zrr, ZiG, Zro, RT.val, c1, cond_true, okB, getO]
 exact ⟨trivial, b⟩
def RegOk (r : Int × Int × Int × Int × Int × Int × Int × (Bool × Bool × Bool × Bool × Bool × Bool × Bool) × Int × Int) : Prop :=
 inR .u8 r.1 ∧ inR .u8 r.2.1 ∧ inR .u8 r.2.2.1 ∧ inR .u8 r.2.2.2.1 ∧ inR .u8 r.2.2.2.2.1 ∧ inR .u8 r.2.2.2.2.2.1 ∧ inR .u8 r.2.2.2.2.2.2.1 ∧ inR .u16 r.2.2.2.2.2.2.2.2.1 ∧ inR .u16 r.2.2.2.2.2.2.2.2.2
theorem ZK6 {s : List Int × Int} {k : Int} (h : NB s k) (hk : k ≤ 800000) (c : Int) : ZtC s c = true ∧ NB (ZhZ s c).2 (k + 12) ∧ RegOk (ZhZ s c).1 := by
 obtain ⟨c1, b1, r1⟩ := ZcE h (by omega)
 obtain ⟨c2, b2, r2⟩ := ZcE b1 (by omega)
 obtain ⟨c3, b3, r3⟩ := ZcE b2 (by omega)
 obtain ⟨c4, b4, r4⟩ := ZcE b3 (by omega)
 obtain ⟨c5, b5, r5⟩ := ZcE b4 (by omega)
 obtain ⟨c6, b6, r6⟩ := ZcE b5 (by omega)
 obtain ⟨c7, b7, r7⟩ := ZcE b6 (by omega)
 obtain ⟨c8, b8⟩ := ZHT b7 (by omega) c
 obtain ⟨c9, b9, r9⟩ := Zjv b8 (by omega)
 obtain ⟨c10, b10, r10⟩ := Zjv b9 (by omega)
 have hv : (ZtB s c).val = some (((Zm s).1, (Zm (Zm s).2).1, (Zm (Zm (Zm s).2).2).1, (Zm (Zm (Zm (Zm s).2).2).2).1, (Zm (Zm (Zm (Zm (Zm s).2).2).2).2).1, (Zm (Zm (Zm (Zm (Zm (Zm s).2).2).2).2).2).1, (Zm (Zm (Zm (Zm (Zm (Zm (Zm s).2).2).2).2).2).2).1, (ZiG (Zm (Zm (Zm (Zm (Zm (Zm (Zm s).2).2).2).2).2).2).2 c).1, (Zar (ZiG (Zm (Zm (Zm (Zm (Zm (Zm (Zm s).2).2).2).2).2).2).2 c).2).1, (Zar (Zar (ZiG (Zm (Zm (Zm (Zm (Zm (Zm (Zm s).2).2).2).2).2).2).2 c).2).2).1), (Zar (Zar (ZiG (Zm (Zm (Zm (Zm (Zm (Zm (Zm s).2).2).2).2).2).2).2 c).2).2).2) := by
  simp only [ZtB, RT.val, c1, c2, c3, c4, c5, c6, c7, c8, c9, c10, Bool.not_true, Bool.false_or, cond_true, Bool.or_true]
 simp only [ZtC, ZhZ, hv, okB, getO]
 exact ⟨trivial, ⟨b10.1, by have := b10.2; omega⟩, r1, r2, r3, r4, r5, r6, r7, r9, r10⟩
theorem ZDm {s : List Int × Int} {k : Int} (h : NB s k) (hk : k ≤ 900000) : Zc5 s = true ∧ NB (Za7 s).2 (k + 2) ∧ inR .u8 (Za7 s).1 := by
 obtain ⟨c, b, d0, d1⟩ := ZY h (by omega) 3 (by decide) (by decide)
 have w : ∀ {t : List Int × Int}, NB t (k + 1 + 1) → NB t (k + 2) := fun h => ⟨h.1, by have := h.2; omega⟩
 by_cases hn : 0 < (Zd s 3).1
 ·have hk' : k + 1 ≤ 1000001 := by omega
  obtain ⟨c2, b2, _⟩ := ZY b (by omega) 256 (by decide) (by decide)
  have hv : (Zen s).val = some (IntKind.wrap .u8 (Zd (Zd s 3).2 256).1, (Zd (Zd s 3).2 256).2) := by simp [Zen, RT.val, c, hn, c2]
  simp only [Zc5, Za7, hv, okB, getO]
  exact ⟨trivial, w b2, ZaS _ _⟩
 ·obtain ⟨c2, b2, e0, e1⟩ := ZY b (by omega) 18 (by decide) (by decide)
  have hr : Zf (Zd (Zd s 3).2 18).1 18 = true := ZaH.2 ⟨e0, by omega⟩
  have hv : (Zen s).val = some (R.get (R.int u8) [251, 243, 118, 205, 201, 197, 227, 211, 219, 54, 52, 32, 48, 194, 202, 255, 62, 49] (Zd (Zd s 3).2 18).1, (Zd (Zd s 3).2 18).2) := by
   simp [Zen, RT.val, c, hn, c2, hr]
  simp only [Zc5, Za7, hv, okB, getO]
  refine ⟨trivial, w b2, ?_⟩
  have hall : ∀ i : Nat, i < 18 → inR .u8 (([251, 243, 118, 205, 201, 197, 227, 211, 219, 54, 52, 32, 48, 194, 202, 255, 62, 49] : List Int).getD i 0) := by
   intro i hi
   have : ∀ i : Fin 18, decide (0 ≤ ([251, 243, 118, 205, 201, 197, 227, 211, 219, 54, 52, 32, 48, 194, 202, 255, 62, 49] : List Int).getD i 0) && decide (([251, 243, 118, 205, 201, 197, 227, 211, 219, 54, 52, 32, 48, 194, 202, 255, 62, 49] : List Int).getD i 0 ≤ 255) := by decide
   have := this ⟨i, hi⟩
   rw [Zf6]; simpa using this
  exact hall (Zd (Zd s 3).2 18).1.toNat (by omega)
theorem ZPs (l : List Int) : NB (l, 0) 0 := ⟨by simp, by simp⟩
end
end Go.Proofs.YtghoimllhpjkjaaGreat
