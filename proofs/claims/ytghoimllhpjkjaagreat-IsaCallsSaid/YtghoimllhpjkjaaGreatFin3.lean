/-
  Contracts of functions; each found by the symbolic executor and checked by the kernel. Conditions: none.
-/
import Derived.Test.YtghoimllhpjkjaaGreatS3D
import Derived.Test.YtghoimllhpjkjaaGreatProg
import Derived.Test.YtghoimllhpjkjaaGreatNext3
import Derived.Test.YtghoimllhpjkjaaGreatPinsEq
open Go.IntKind (u8 u16 i64)
set_option linter.unusedSimpArgs false
open Go Go.S3 Go.Proofs
set_option linter.unusedVariables false
set_option maxRecDepth 100000
namespace Go.Proofs.YtghoimllhpjkjaaGreat
noncomputable section
def ZmF (c : TC) (s : Int) (g : List Int) : RT (Option (TY × Bool)) :=
 let x1 : QT0 := (c, s == 5, g, (0, 0, 0, 0, 0, 0, 0, 0), [])
 let x2 := qAtC x1 0
 let x3 := Zb c.1 (qAt x1 0)
 let x4 := !x2 || x3.1 == 4
 let x5 : QT7 := ((pcOf c), 0, 4)
 let x6 : List TY := [] ++ [(1, x5)]
 let x7 : List TY := [(9, pcOf c, 0, 3)]
 let x8 : List TY := bif s == 5 then x6 ++ x7 else x6 ++ [(2, u16.wrap ((pcOf c) + u16.wrap 1), 0, 3)]
 let x9 : List TY := bif s == 5 then x8 ++ x7 else x8 ++ [(2, u16.wrap ((pcOf c) + u16.wrap (i64.wrap (1 + 1))), 0, 3)]
 let x10 : List TY := [] ++ [(12, pcOf c, 0, 6)] ++ [(5, u16.wrap ((spOf c) - 1), u8.wrap (shrI u16 (pcOf c) 8), 3)] ++ [(5, u16.wrap ((spOf c) - 2), u8.wrap (pcOf c), 3)]
 let x12 : List TY := [] ++ [(bif s == 5 then 8 else 1, x5)]
 .br (!x4 || x2) (.br (x4) (.br (Zd s || (iN (List.length g) == 0 || ZbI (c, s == 5, g, (4, x3.2), x9) 1)) (.br (Zd s) (fin3 g x10) (.br (iN (List.length g) == 0) (fin3 g x12) (fin3 g x9))) (.leaf none)) (.leaf none)) (.leaf none)
theorem Zv6 (a : HL Zg) : Zo (envX Tryz.prog (ZM 4) [] 1125900980585471 8) Tryz.f113 Zg Zs a = ZmF a.1 a.2.1 a.2.2 := by kernel_rfl
def ZmB (c : TC) (s : Int) (g : List Int) : RT (Option (TY × Bool)) :=
 let x1 : QT0 := (c, s == 5, g, (0, 0, 0, 0, 0, 0, 0, 0), [])
 let x2 := qAtC x1 0
 let x3 := Zb c.1 (qAt x1 0)
 let x4 := !x2 || x3.1 == 8
 let x5 : QT7 := ((pcOf c), 0, 4)
 let x6 : List TY := [] ++ [(1, x5)]
 let x7 : List TY := [(9, pcOf c, 0, 3)]
 let x8 : List TY := bif s == 5 then x6 ++ x7 else x6 ++ [(2, u16.wrap ((pcOf c) + u16.wrap 1), 0, 3)]
 let x9 : List TY := bif s == 5 then x8 ++ x7 else x8 ++ [(2, u16.wrap ((pcOf c) + u16.wrap (i64.wrap (1 + 1))), 0, 3)]
 let x10 : QT0 := (c, s == 5, g, (8, x3.2), x9)
 let x11 : List TY := [] ++ [(12, pcOf c, 0, 6)] ++ [(5, u16.wrap ((spOf c) - 1), u8.wrap (shrI u16 (pcOf c) 8), 3)] ++ [(5, u16.wrap ((spOf c) - 2), u8.wrap (pcOf c), 3)]
 let x13 : List TY := [] ++ [(bif s == 5 then 8 else 1, x5)]
 let x15 := Zea x10 1
 let x16 : List TY := x9 ++ [(3, x15, c.2.1.2.2.2.2.2.2.1, 3)] ++ [(3, u16.wrap (x15 + 1), c.2.1.2.2.2.2.2.1, 3)]
 .br (!x4 || x2) (.br (x4) (.br (Zd s || (iN (List.length g) == 0 || ZbI x10 1)) (.br (Zd s) (fin3 g x11) (.br (iN (List.length g) == 0) (fin3 g x13) (fin3 g x16))) (.leaf none)) (.leaf none)) (.leaf none)
theorem Zv2 (a : HL Zg) : Zo (envX Tryz.prog (ZM 8) [] 1125900980585471 8) Tryz.f113 Zg Zs a = ZmB a.1 a.2.1 a.2.2 := by kernel_rfl
def Zjo (c : TC) (s : Int) (g : List Int) : RT (Option (TY × Bool)) :=
 let x1 : QT0 := (c, s == 5, g, (0, 0, 0, 0, 0, 0, 0, 0), [])
 let x2 := qAtC x1 0
 let x3 := Zb c.1 (qAt x1 0)
 let x4 := !x2 || x3.1 == 12
 let x5 : List TY := [] ++ [(12, pcOf c, 0, 6)] ++ [(5, u16.wrap ((spOf c) - 1), u8.wrap (shrI u16 (pcOf c) 8), 3)] ++ [(5, u16.wrap ((spOf c) - 2), u8.wrap (pcOf c), 3)]
 let x7 : QT7 := ((pcOf c), 0, 4)
 let x8 : List TY := [] ++ [(bif s == 5 then 8 else 1, x7)]
 let x10 := x3.2
 let x11 : List TY := [] ++ [(1, x7)]
 let x12 : List TY := bif x10.2.2.1 == 6 then x11 ++ [(2, ZcE (c, s == 5, g, (12, x10), x11) 2, 0, 3)] else x11
 .br (!x4 || x2) (.br (x4) (.br (Zd s) (fin3 g x5) (.br (iN (List.length g) == 0) (fin3 g x8) (fin3 g x12))) (.leaf none)) (.leaf none)
theorem Zr6 (a : HL Zg) : Zo (envX Tryz.prog (ZM 12) [] 1125900980585471 8) Tryz.f113 Zg Zs a = Zjo a.1 a.2.1 a.2.2 := by kernel_rfl
def Zjk (c : TC) (s : Int) (g : List Int) : RT (Option (TY × Bool)) :=
 let x1 : QT0 := (c, s == 5, g, (0, 0, 0, 0, 0, 0, 0, 0), [])
 let x2 := qAtC x1 0
 let x3 := !x2 || (Zb c.1 (qAt x1 0)).1 == 16
 let x4 : List TY := [] ++ [(12, pcOf c, 0, 6)] ++ [(5, u16.wrap ((spOf c) - 1), u8.wrap (shrI u16 (pcOf c) 8), 3)] ++ [(5, u16.wrap ((spOf c) - 2), u8.wrap (pcOf c), 3)]
 let x6 : QT7 := ((pcOf c), 0, 4)
 let x7 : List TY := [] ++ [(bif s == 5 then 8 else 1, x6)]
 let x9 : List TY := [] ++ [(1, x6)]
 .br (!x3 || x2) (.br (x3) (.br (Zd s) (fin3 g x4) (.br (iN (List.length g) == 0) (fin3 g x7) (fin3 g x9))) (.leaf none)) (.leaf none)
theorem Zr2 (a : HL Zg) : Zo (envX Tryz.prog (ZM 16) [] 1125900980585471 8) Tryz.f113 Zg Zs a = Zjk a.1 a.2.1 a.2.2 := by kernel_rfl
def Zjg (c : TC) (s : Int) (g : List Int) : RT (Option (TY × Bool)) :=
 let x1 : QT0 := (c, s == 5, g, (0, 0, 0, 0, 0, 0, 0, 0), [])
 let x2 := qAtC x1 0
 let x3 := !x2 || (Zb c.1 (qAt x1 0)).1 == 20
 let x4 : List TY := [] ++ [(12, pcOf c, 0, 6)] ++ [(5, u16.wrap ((spOf c) - 1), u8.wrap (shrI u16 (pcOf c) 8), 3)] ++ [(5, u16.wrap ((spOf c) - 2), u8.wrap (pcOf c), 3)]
 let x6 : QT7 := ((pcOf c), 0, 4)
 let x7 : List TY := [] ++ [(bif s == 5 then 8 else 1, x6)]
 let x9 : List TY := [] ++ [(1, x6)]
 .br (!x3 || x2) (.br (x3) (.br (Zd s) (fin3 g x4) (.br (iN (List.length g) == 0) (fin3 g x7) (fin3 g x9))) (.leaf none)) (.leaf none)
theorem ZrY (a : HL Zg) : Zo (envX Tryz.prog (ZM 20) [] 1125900980585471 8) Tryz.f113 Zg Zs a = Zjg a.1 a.2.1 a.2.2 := by kernel_rfl
def Zjc (c : TC) (s : Int) (g : List Int) : RT (Option (TY × Bool)) :=
 let x1 : QT0 := (c, s == 5, g, (0, 0, 0, 0, 0, 0, 0, 0), [])
 let x2 := qAtC x1 0
 let x3 := Zb c.1 (qAt x1 0)
 let x4 := !x2 || x3.1 == 24
 let x5 : List TY := [] ++ [(12, pcOf c, 0, 6)] ++ [(5, u16.wrap ((spOf c) - 1), u8.wrap (shrI u16 (pcOf c) 8), 3)] ++ [(5, u16.wrap ((spOf c) - 2), u8.wrap (pcOf c), 3)]
 let x7 : QT7 := ((pcOf c), 0, 4)
 let x8 : List TY := [] ++ [(bif s == 5 then 8 else 1, x7)]
 let x10 : List TY := [] ++ [(1, x7)]
 let x11 : List TY := [(9, pcOf c, 0, 3)]
 let x12 : List TY := bif s == 5 then x10 ++ x11 else x10 ++ [(2, u16.wrap ((pcOf c) + u16.wrap 1), 0, 3)]
 let x13 : List TY := bif !ZeY (c, s == 5, g, (24, x3.2), x10) && c.1 == 2 then x12 else bif s == 5 then x12 ++ x11 else x12 ++ [(2, u16.wrap ((pcOf c) + u16.wrap (i64.wrap (1 + 1))), 0, 3)]
 .br (!x4 || x2) (.br (x4) (.br (Zd s) (fin3 g x5) (.br (iN (List.length g) == 0) (fin3 g x8) (fin3 g x13))) (.leaf none)) (.leaf none)
theorem ZrU (a : HL Zg) : Zo (envX Tryz.prog (ZM 24) [] 1125900980585471 8) Tryz.f113 Zg Zs a = Zjc a.1 a.2.1 a.2.2 := by kernel_rfl
def Zi8 (c : TC) (s : Int) (g : List Int) : RT (Option (TY × Bool)) :=
 let x1 : QT0 := (c, s == 5, g, (0, 0, 0, 0, 0, 0, 0, 0), [])
 let x2 := qAtC x1 0
 let x3 := !x2 || (Zb c.1 (qAt x1 0)).1 == 28
 let x4 : List TY := [] ++ [(12, pcOf c, 0, 6)] ++ [(5, u16.wrap ((spOf c) - 1), u8.wrap (shrI u16 (pcOf c) 8), 3)] ++ [(5, u16.wrap ((spOf c) - 2), u8.wrap (pcOf c), 3)]
 let x6 : QT7 := ((pcOf c), 0, 4)
 let x7 : List TY := [] ++ [(bif s == 5 then 8 else 1, x6)]
 let x9 : List TY := [] ++ [(1, x6)]
 .br (!x3 || x2) (.br (x3) (.br (Zd s) (fin3 g x4) (.br (iN (List.length g) == 0) (fin3 g x7) (fin3 g x9))) (.leaf none)) (.leaf none)
theorem ZrQ (a : HL Zg) : Zo (envX Tryz.prog (ZM 28) [] 1125900980585471 8) Tryz.f113 Zg Zs a = Zi8 a.1 a.2.1 a.2.2 := by kernel_rfl
def Zi4 (c : TC) (s : Int) (g : List Int) : RT (Option (TY × Bool)) :=
 let x1 : QT0 := (c, s == 5, g, (0, 0, 0, 0, 0, 0, 0, 0), [])
 let x2 := qAtC x1 0
 let x3 := !x2 || (Zb c.1 (qAt x1 0)).1 == 32
 let x4 : List TY := [] ++ [(12, pcOf c, 0, 6)] ++ [(5, u16.wrap ((spOf c) - 1), u8.wrap (shrI u16 (pcOf c) 8), 3)] ++ [(5, u16.wrap ((spOf c) - 2), u8.wrap (pcOf c), 3)]
 let x6 : QT7 := ((pcOf c), 0, 4)
 let x7 : List TY := [] ++ [(bif s == 5 then 8 else 1, x6)]
 let x9 := u16.wrap ((spOf c) + 1)
 let x10 : List TY := [] ++ [(1, x6)] ++ [(4, spOf c, 0, 3)] ++ [(4, x9, 0, 3)] ++ [(5, x9, c.2.1.2.2.2.2.2.1, 3)] ++ [(5, spOf c, c.2.1.2.2.2.2.2.2.1, 3)]
 let x11 := i64.wrap (iN (List.length x10) - 1)
 let x12 : Int × Int × Int × Int := R.get (RY) x10 x11
 let x13 := x12.2
 let x14 : List TY := bif c.1 != 2 then setI x10 x11 (x12.1, x13.1, x13.2.1, 5) else x10
 .br (!x3 || x2) (.br (x3) (.br (Zd s) (fin3 g x4) (.br (iN (List.length g) == 0) (fin3 g x7) (fin3 g x14))) (.leaf none)) (.leaf none)
theorem ZrM (a : HL Zg) : Zo (envX Tryz.prog (ZM 32) [] 1125900980585471 8) Tryz.f113 Zg Zs a = Zi4 a.1 a.2.1 a.2.2 := by kernel_rfl
def Zi0 (c : TC) (s : Int) (g : List Int) : RT (Option (TY × Bool)) :=
 let x1 : QT0 := (c, s == 5, g, (0, 0, 0, 0, 0, 0, 0, 0), [])
 let x2 := qAtC x1 0
 let x3 := !x2 || (Zb c.1 (qAt x1 0)).1 == 36
 let x4 : List TY := [] ++ [(12, pcOf c, 0, 6)] ++ [(5, u16.wrap ((spOf c) - 1), u8.wrap (shrI u16 (pcOf c) 8), 3)] ++ [(5, u16.wrap ((spOf c) - 2), u8.wrap (pcOf c), 3)]
 let x6 : QT7 := ((pcOf c), 0, 4)
 let x7 : List TY := [] ++ [(bif s == 5 then 8 else 1, x6)]
 let x9 : List TY := [] ++ [(1, x6)]
 .br (!x3 || x2) (.br (x3) (.br (Zd s) (fin3 g x4) (.br (iN (List.length g) == 0) (fin3 g x7) (fin3 g x9))) (.leaf none)) (.leaf none)
theorem ZrI (a : HL Zg) : Zo (envX Tryz.prog (ZM 36) [] 1125900980585471 8) Tryz.f113 Zg Zs a = Zi0 a.1 a.2.1 a.2.2 := by kernel_rfl
def ZiW (c : TC) (s : Int) (g : List Int) : RT (Option (TY × Bool)) :=
 let x1 : QT0 := (c, s == 5, g, (0, 0, 0, 0, 0, 0, 0, 0), [])
 let x2 := qAtC x1 0
 let x3 := !x2 || (Zb c.1 (qAt x1 0)).1 == 40
 let x4 : List TY := [] ++ [(12, pcOf c, 0, 6)] ++ [(5, u16.wrap ((spOf c) - 1), u8.wrap (shrI u16 (pcOf c) 8), 3)] ++ [(5, u16.wrap ((spOf c) - 2), u8.wrap (pcOf c), 3)]
 let x6 : QT7 := ((pcOf c), 0, 4)
 let x7 : List TY := [] ++ [(bif s == 5 then 8 else 1, x6)]
 let x9 : List TY := [(11, pcOf c, 0, 3)]
 let x10 : List TY := [] ++ [(1, x6)] ++ x9 ++ x9
 .br (!x3 || x2) (.br (x3) (.br (Zd s) (fin3 g x4) (.br (iN (List.length g) == 0) (fin3 g x7) (fin3 g x10))) (.leaf none)) (.leaf none)
theorem ZrE (a : HL Zg) : Zo (envX Tryz.prog (ZM 40) [] 1125900980585471 8) Tryz.f113 Zg Zs a = ZiW a.1 a.2.1 a.2.2 := by kernel_rfl
def ZiS (c : TC) (s : Int) (g : List Int) : RT (Option (TY × Bool)) :=
 let x1 : QT0 := (c, s == 5, g, (0, 0, 0, 0, 0, 0, 0, 0), [])
 let x2 := qAtC x1 0
 let x3 := !x2 || (Zb c.1 (qAt x1 0)).1 == 44
 let x4 : List TY := [] ++ [(12, pcOf c, 0, 6)] ++ [(5, u16.wrap ((spOf c) - 1), u8.wrap (shrI u16 (pcOf c) 8), 3)] ++ [(5, u16.wrap ((spOf c) - 2), u8.wrap (pcOf c), 3)]
 let x6 : QT7 := ((pcOf c), 0, 4)
 let x7 : List TY := [] ++ [(bif s == 5 then 8 else 1, x6)]
 let x9 : List TY := [] ++ [(1, x6)]
 let x10 : QT7 := ((pcOf c), 0, 3)
 let x11 : List TY := (bif s == 5 then x9 ++ [(9, x10)] else x9 ++ [(2, u16.wrap ((pcOf c) + u16.wrap 1), 0, 3)]) ++ [(11, x10)]
 .br (!x3 || x2) (.br (x3) (.br (Zd s) (fin3 g x4) (.br (iN (List.length g) == 0) (fin3 g x7) (fin3 g x11))) (.leaf none)) (.leaf none)
theorem ZrA (a : HL Zg) : Zo (envX Tryz.prog (ZM 44) [] 1125900980585471 8) Tryz.f113 Zg Zs a = ZiS a.1 a.2.1 a.2.2 := by kernel_rfl
def Zt2 (c : TC) (s : Int) (g : List Int) : RT (Option (TY × Bool)) :=
 let x1 : List TY := [(12, pcOf c, 0, 6)] ++ [(5, u16.wrap ((spOf c) - 1), u8.wrap (shrI u16 (pcOf c) 8), 3)] ++ [(5, u16.wrap ((spOf c) - 2), u8.wrap (pcOf c), 3)]
 let x3 : List TY := [(bif s == 5 then 8 else 1, pcOf c, 0, 4)]
 .br (Za s || (!decide (iN (List.length g) > 0) || (!Ze 0 (List.length g) || (Zb c.1 (R.get (R.int u8) g 0)).1 == 1))) (.br (Za s || (!decide (iN (List.length g) > 0) || Ze 0 (List.length g))) (.br (Za s) (fin3 g x1) (fin3 g x3)) (.leaf none)) (.leaf none)
def ZtY (c : TC) (s : Int) (g : List Int) : RT (Option (TY × Bool)) :=
 let x1 : List TY := [(bif s == 5 then 8 else 1, pcOf c, 0, 4)]
 let x2 : List TY := [(9, pcOf c, 0, 3)]
 let x3 : List TY := x1 ++ x2
 let x4 : List TY := [(2, u16.wrap ((pcOf c) + u16.wrap (i64.wrap (1 + 1))), 0, 3)]
 let x5 : List TY := bif s == 5 then x3 ++ x2 else x3 ++ x4
 let x6 : QT3 := (c, s == 5, g, x5)
 let x7 := !s == 5 || ZcW x6 1
 let x8 : List TY := x1 ++ [(2, u16.wrap ((pcOf c) + u16.wrap 1), 0, 3)]
 let x9 : List TY := bif s == 5 then x8 ++ x2 else x8 ++ x4
 let x10 : QT3 := (c, s == 5, g, x9)
 let x11 : List TY := [(12, pcOf c, 0, 6)] ++ [(5, u16.wrap ((spOf c) - 1), u8.wrap (shrI u16 (pcOf c) 8), 3)] ++ [(5, u16.wrap ((spOf c) - 2), u8.wrap (pcOf c), 3)]
 let x13 : List TY := x5 ++ [(2, Zf1 x6 1, 0, 3)]
 let x15 : List TY := x9 ++ [(2, Zf1 x10 1, 0, 3)]
 .br (Za s || (!decide (iN (List.length g) > 0) || (!Ze 0 (List.length g) || (!(Zb c.1 (R.get (R.int u8) g 0)).1 == 5 || (!x7 || (s == 5 || ZcW x10 1)))))) (.br (Za s || (!decide (iN (List.length g) > 0) || (!Ze 0 (List.length g) || (!(Zb c.1 (R.get (R.int u8) g 0)).1 == 5 || x7)))) (.br (Za s || (!decide (iN (List.length g) > 0) || (!Ze 0 (List.length g) || (Zb c.1 (R.get (R.int u8) g 0)).1 == 5))) (.br (Za s || (!decide (iN (List.length g) > 0) || Ze 0 (List.length g))) (.br (Za s) (fin3 g x11) (.br (decide (iN (List.length g) > 0)) (.br (s == 5) (fin3 g x13) (fin3 g x15)) (fin3 g x1))) (.leaf none)) (.leaf none)) (.leaf none)) (.leaf none)
def ZtU (c : TC) (s : Int) (g : List Int) : RT (Option (TY × Bool)) :=
 let x1 : List TY := [(12, pcOf c, 0, 6)] ++ [(5, u16.wrap ((spOf c) - 1), u8.wrap (shrI u16 (pcOf c) 8), 3)] ++ [(5, u16.wrap ((spOf c) - 2), u8.wrap (pcOf c), 3)]
 let x3 : List TY := [(bif s == 5 then 8 else 1, pcOf c, 0, 4)]
 let x4 : List TY := x3 ++ [(2, ZaN c.2.1 (Zb c.1 (R.get (R.int u8) g 0)).2.2.2.2.1, 0, 3)]
 .br (Za s || (!decide (iN (List.length g) > 0) || (!Ze 0 (List.length g) || (Zb c.1 (R.get (R.int u8) g 0)).1 == 9))) (.br (Za s || (!decide (iN (List.length g) > 0) || Ze 0 (List.length g))) (.br (Za s) (fin3 g x1) (.br (decide (iN (List.length g) > 0)) (fin3 g x4) (fin3 g x3))) (.leaf none)) (.leaf none)
def Zpe (c : TC) (s : Int) (g : List Int) : RT (Option (TY × Bool)) :=
 let x1 : List TY := [(12, pcOf c, 0, 6)] ++ [(5, u16.wrap ((spOf c) - 1), u8.wrap (shrI u16 (pcOf c) 8), 3)] ++ [(5, u16.wrap ((spOf c) - 2), u8.wrap (pcOf c), 3)]
 let x3 : List TY := [(bif s == 5 then 8 else 1, pcOf c, 0, 4)]
 let x4 : List TY := x3 ++ [(9, pcOf c, 0, 3)]
 let x6 : List TY := x3 ++ [(2, u16.wrap ((pcOf c) + u16.wrap 1), 0, 3)]
 .br (Za s || (!decide (iN (List.length g) > 0) || (!Ze 0 (List.length g) || (Zb c.1 (R.get (R.int u8) g 0)).1 == 13))) (.br (Za s || (!decide (iN (List.length g) > 0) || Ze 0 (List.length g))) (.br (Za s) (fin3 g x1) (.br (decide (iN (List.length g) > 0)) (.br (s == 5) (fin3 g x4) (fin3 g x6)) (fin3 g x3))) (.leaf none)) (.leaf none)
def Zpa (c : TC) (s : Int) (g : List Int) : RT (Option (TY × Bool)) :=
 let x1 : List TY := [(12, pcOf c, 0, 6)] ++ [(5, u16.wrap ((spOf c) - 1), u8.wrap (shrI u16 (pcOf c) 8), 3)] ++ [(5, u16.wrap ((spOf c) - 2), u8.wrap (pcOf c), 3)]
 let x3 : List TY := [(bif s == 5 then 8 else 1, pcOf c, 0, 4)]
 .br (Za s || (!decide (iN (List.length g) > 0) || (!Ze 0 (List.length g) || (Zb c.1 (R.get (R.int u8) g 0)).1 == 17))) (.br (Za s || (!decide (iN (List.length g) > 0) || Ze 0 (List.length g))) (.br (Za s) (fin3 g x1) (fin3 g x3)) (.leaf none)) (.leaf none)
def Zo6 (c : TC) (s : Int) (g : List Int) : RT (Option (TY × Bool)) :=
 let x1 : List TY := [(12, pcOf c, 0, 6)] ++ [(5, u16.wrap ((spOf c) - 1), u8.wrap (shrI u16 (pcOf c) 8), 3)] ++ [(5, u16.wrap ((spOf c) - 2), u8.wrap (pcOf c), 3)]
 let x3 : List TY := [(bif s == 5 then 8 else 1, pcOf c, 0, 4)]
 .br (Za s || (!decide (iN (List.length g) > 0) || (!Ze 0 (List.length g) || (Zb c.1 (R.get (R.int u8) g 0)).1 == 21))) (.br (Za s || (!decide (iN (List.length g) > 0) || Ze 0 (List.length g))) (.br (Za s) (fin3 g x1) (fin3 g x3)) (.leaf none)) (.leaf none)
def Zo2 (c : TC) (s : Int) (g : List Int) : RT (Option (TY × Bool)) :=
 let x1 := u16.wrap ((spOf c) - 1)
 let x2 := u16.wrap ((spOf c) - 2)
 let x3 : List TY := [(12, pcOf c, 0, 6)] ++ [(5, x1, u8.wrap (shrI u16 (pcOf c) 8), 3)] ++ [(5, x2, u8.wrap (pcOf c), 3)]
 let x5 : List TY := [(bif s == 5 then 8 else 1, pcOf c, 0, 4)]
 let x6 : List TY := [(9, pcOf c, 0, 3)]
 let x7 : List TY := x5 ++ x6
 let x8 : QT3 := (c, s == 5, g, x7)
 let x9 := Zfi x8 (Zb c.1 (R.get (R.int u8) g 0)).2.1
 let x10 : List TY := bif Zf2 x8 (25, (Zb c.1 (R.get (R.int u8) g 0)).2) then x7 ++ [(5, x1, u8.wrap (shrI u16 x9 8), 3)] ++ [(5, x2, u8.wrap x9, 3)] else x7
 let x12 : List TY := x5 ++ [(2, u16.wrap ((pcOf c) + u16.wrap 1), 0, 3)]
 let x13 : QT3 := (c, s == 5, g, x12)
 let x14 := Zfi x13 (Zb c.1 (R.get (R.int u8) g 0)).2.1
 let x15 : List TY := bif Zf2 x13 (25, (Zb c.1 (R.get (R.int u8) g 0)).2) then x12 ++ [(5, x1, u8.wrap (shrI u16 x14 8), 3)] ++ [(5, x2, u8.wrap x14, 3)] else x12
 let x17 : List TY := [(2, u16.wrap ((pcOf c) + u16.wrap (i64.wrap (1 + 1))), 0, 3)]
 let x18 : List TY := bif s == 5 then x7 ++ x6 else x7 ++ x17
 let x19 : QT3 := (c, s == 5, g, x18)
 let x20 := Zfi x19 (Zb c.1 (R.get (R.int u8) g 0)).2.1
 let x21 : List TY := bif Zf2 x19 (25, (Zb c.1 (R.get (R.int u8) g 0)).2) then x18 ++ [(5, x1, u8.wrap (shrI u16 x20 8), 3)] ++ [(5, x2, u8.wrap x20, 3)] else x18
 let x23 : List TY := bif s == 5 then x12 ++ x6 else x12 ++ x17
 let x24 : QT3 := (c, s == 5, g, x23)
 let x25 := Zfi x24 (Zb c.1 (R.get (R.int u8) g 0)).2.1
 let x26 : List TY := bif Zf2 x24 (25, (Zb c.1 (R.get (R.int u8) g 0)).2) then x23 ++ [(5, x1, u8.wrap (shrI u16 x25 8), 3)] ++ [(5, x2, u8.wrap x25, 3)] else x23
 .br (Za s || (!decide (iN (List.length g) > 0) || (!Ze 0 (List.length g) || (Zb c.1 (R.get (R.int u8) g 0)).1 == 25))) (.br (Za s || (!decide (iN (List.length g) > 0) || Ze 0 (List.length g))) (.br (Za s) (fin3 g x3) (.br (decide (iN (List.length g) > 0)) (.br (rOn c.1 && !Zf2 (c, s == 5, g, x5) (25, (Zb c.1 (R.get (R.int u8) g 0)).2)) (.br (s == 5) (fin3 g x10) (fin3 g x15)) (.br (s == 5) (fin3 g x21) (fin3 g x26))) (fin3 g x5))) (.leaf none)) (.leaf none)
def ZoY (c : TC) (s : Int) (g : List Int) : RT (Option (TY × Bool)) :=
 let x1 : List TY := [(12, pcOf c, 0, 6)] ++ [(5, u16.wrap ((spOf c) - 1), u8.wrap (shrI u16 (pcOf c) 8), 3)] ++ [(5, u16.wrap ((spOf c) - 2), u8.wrap (pcOf c), 3)]
 let x3 : List TY := [(bif s == 5 then 8 else 1, pcOf c, 0, 4)]
 .br (Za s || (!decide (iN (List.length g) > 0) || (!Ze 0 (List.length g) || (Zb c.1 (R.get (R.int u8) g 0)).1 == 29))) (.br (Za s || (!decide (iN (List.length g) > 0) || Ze 0 (List.length g))) (.br (Za s) (fin3 g x1) (fin3 g x3)) (.leaf none)) (.leaf none)
def ZoU (c : TC) (s : Int) (g : List Int) : RT (Option (TY × Bool)) :=
 let x1 : List TY := [(bif s == 5 then 8 else 1, pcOf c, 0, 4)]
 let x2 : List TY := x1 ++ [(9, pcOf c, 0, 3)]
 let x3 : QT3 := (c, s == 5, g, x2)
 let x4 := mAtC x3 1
 let x5 := !x4 || x4
 let x6 := !s == 5 || (!x5 || x4)
 let x7 := !x6
 let x8 := !s == 5 || x5
 let x9 := !x8
 let x10 : List TY := x1 ++ [(2, u16.wrap ((pcOf c) + u16.wrap 1), 0, 3)]
 let x11 : QT3 := (c, s == 5, g, x10)
 let x12 := mAtC x11 1
 let x13 := !x12 || x12
 let x14 := s == 5 || (!x13 || x12)
 let x15 : List TY := [(12, pcOf c, 0, 6)] ++ [(5, u16.wrap ((spOf c) - 1), u8.wrap (shrI u16 (pcOf c) 8), 3)] ++ [(5, u16.wrap ((spOf c) - 2), u8.wrap (pcOf c), 3)]
 let x17 := mAt x3 1
 let x18 : List TY := x2 ++ [(6, ZaH x17 x17, 0, 3)]
 let x20 := mAt x11 1
 let x21 : List TY := x10 ++ [(6, ZaH x20 x20, 0, 3)]
 .br (Za s || (!decide (iN (List.length g) > 0) || (!Ze 0 (List.length g) || (!(Zb c.1 (R.get (R.int u8) g 0)).1 == 33 || (x7 || (x9 || (!x14 || (s == 5 || x13)))))))) (.br (Za s || (!decide (iN (List.length g) > 0) || (!Ze 0 (List.length g) || (!(Zb c.1 (R.get (R.int u8) g 0)).1 == 33 || (x7 || (x9 || x14)))))) (.br (Za s || (!decide (iN (List.length g) > 0) || (!Ze 0 (List.length g) || (!(Zb c.1 (R.get (R.int u8) g 0)).1 == 33 || (x7 || x8))))) (.br (Za s || (!decide (iN (List.length g) > 0) || (!Ze 0 (List.length g) || (!(Zb c.1 (R.get (R.int u8) g 0)).1 == 33 || x6)))) (.br (Za s || (!decide (iN (List.length g) > 0) || (!Ze 0 (List.length g) || (Zb c.1 (R.get (R.int u8) g 0)).1 == 33))) (.br (Za s || (!decide (iN (List.length g) > 0) || Ze 0 (List.length g))) (.br (Za s) (fin3 g x15) (.br (decide (iN (List.length g) > 0)) (.br (s == 5) (fin3 g x18) (fin3 g x21)) (fin3 g x1))) (.leaf none)) (.leaf none)) (.leaf none)) (.leaf none)) (.leaf none)) (.leaf none)
def ZoQ (c : TC) (s : Int) (g : List Int) : RT (Option (TY × Bool)) :=
 let x1 : List TY := [(12, pcOf c, 0, 6)] ++ [(5, u16.wrap ((spOf c) - 1), u8.wrap (shrI u16 (pcOf c) 8), 3)] ++ [(5, u16.wrap ((spOf c) - 2), u8.wrap (pcOf c), 3)]
 let x3 : List TY := [(bif s == 5 then 8 else 1, pcOf c, 0, 4)]
 let x4 : List TY := x3 ++ [(10, pcOf c, 0, 3)]
 let x6 : Nat := List.length x3
 let x7 := decide (iN (List.length g) ≥ iN x6)
 let x8 := Ze (iN (List.length g)) x6
 let x9 : TY × Bool := (R.get (RY) x3 (iN (List.length g)), true)
 .br (Za s || (!decide (iN (List.length g) > 0) || (!Ze 0 (List.length g) || (Zb c.1 (R.get (R.int u8) g 0)).1 == 37))) (.br (Za s || (!decide (iN (List.length g) > 0) || Ze 0 (List.length g))) (.br (Za s) (fin3 g x1) (.br (decide (iN (List.length g) > 0)) (.br (!rOn c.1) (fin3 g x4) (.br (x7) (.leaf (some (((0, 0, 0, 0), false)))) (.br (x8) (.leaf (some (x9))) (.leaf none)))) (.br (x7) (.leaf (some (((0, 0, 0, 0), false)))) (.br (x8) (.leaf (some (x9))) (.leaf none))))) (.leaf none)) (.leaf none)
def ZoM (c : TC) (s : Int) (g : List Int) : RT (Option (TY × Bool)) :=
 let x1 : List TY := [(12, pcOf c, 0, 6)] ++ [(5, u16.wrap ((spOf c) - 1), u8.wrap (shrI u16 (pcOf c) 8), 3)] ++ [(5, u16.wrap ((spOf c) - 2), u8.wrap (pcOf c), 3)]
 let x3 : List TY := [(bif s == 5 then 8 else 1, pcOf c, 0, 4)]
 let x4 : List TY := x3 ++ [(11, pcOf c, 0, 3)]
 .br (Za s || (!decide (iN (List.length g) > 0) || (!Ze 0 (List.length g) || (Zb c.1 (R.get (R.int u8) g 0)).1 == 41))) (.br (Za s || (!decide (iN (List.length g) > 0) || Ze 0 (List.length g))) (.br (Za s) (fin3 g x1) (.br (decide (iN (List.length g) > 0)) (fin3 g x4) (fin3 g x3))) (.leaf none)) (.leaf none)
def ZoI (c : TC) (s : Int) (g : List Int) : RT (Option (TY × Bool)) :=
 let x1 := u16.wrap ((spOf c) - 1)
 let x2 := u16.wrap ((spOf c) - 2)
 let x3 : List TY := [(12, pcOf c, 0, 6)] ++ [(5, x1, u8.wrap (shrI u16 (pcOf c) 8), 3)] ++ [(5, x2, u8.wrap (pcOf c), 3)]
 let x5 : List TY := [(bif s == 5 then 8 else 1, pcOf c, 0, 4)]
 let x6 : QT3 := (c, s == 5, g, x5)
 let x7 := Zfi x6 (Zb c.1 (R.get (R.int u8) g 0)).2.1
 let x8 : List TY := x5 ++ [(5, x1, u8.wrap (shrI u16 x7 8), 3)] ++ [(5, x2, u8.wrap x7, 3)]
 let x10 : Nat := List.length x5
 let x11 := decide (iN (List.length g) ≥ iN x10)
 let x12 := Ze (iN (List.length g)) x10
 let x13 : TY × Bool := (R.get (RY) x5 (iN (List.length g)), true)
 .br (Za s || (!decide (iN (List.length g) > 0) || (!Ze 0 (List.length g) || (Zb c.1 (R.get (R.int u8) g 0)).1 == 45))) (.br (Za s || (!decide (iN (List.length g) > 0) || Ze 0 (List.length g))) (.br (Za s) (fin3 g x3) (.br (decide (iN (List.length g) > 0)) (.br (Zf2 x6 (45, (Zb c.1 (R.get (R.int u8) g 0)).2)) (fin3 g x8) (.br (x11) (.leaf (some (((0, 0, 0, 0), false)))) (.br (x12) (.leaf (some (x13))) (.leaf none)))) (.br (x11) (.leaf (some (((0, 0, 0, 0), false)))) (.br (x12) (.leaf (some (x13))) (.leaf none))))) (.leaf none)) (.leaf none)
theorem nx_2 (c) (s : Int) (g : List Int) (n : Int) (hk : (Zb c.1 (g.getD 0 0)).1 = n) : (n = 4 → (ZmF c s g).val = some (Zj c s g)) ∧ (n = 8 → (ZmB c s g).val = some (Zj c s g)) ∧ (n = 13 → (Zjn c s g).val = some (Zj c s g)) ∧ (n = 19 → (Zjh c s g).val = some (Zj c s g)) ∧ (n = 23 → (Zjd c s g).val = some (Zj c s g)) ∧ (n = 31 → (Zi5 c s g).val = some (Zj c s g)) ∧ (n = 36 → (Zi0 c s g).val = some (Zj c s g)) ∧ (n = 41 → (ZiV c s g).val = some (Zj c s g)) ∧ (n = 46 → (ZiQ c s g).val = some (Zj c s g)) ∧ (n = 4 → (ZtZ c s g).val = some (Zj c s g)) ∧ (n = 8 → (ZtV c s g).val = some (Zj c s g)) ∧ (n = 13 → (Zpe c s g).val = some (Zj c s g)) ∧ (n = 19 → (Zo8 c s g).val = some (Zj c s g)) ∧ (n = 23 → (Zo4 c s g).val = some (Zj c s g)) ∧ (n = 31 → (ZoW c s g).val = some (Zj c s g)) ∧ (n = 36 → (ZoR c s g).val = some (Zj c s g)) ∧ (n = 41 → (ZoM c s g).val = some (Zj c s g)) ∧ (n = 46 → (ZoH c s g).val = some (Zj c s g)) := by
 refine ⟨?_, ?_, ?_, ?_, ?_, ?_, ?_, ?_, ?_, ?_, ?_, ?_, ?_, ?_, ?_, ?_, ?_, ?_⟩
 all_goals intro e; subst e
 all_goals simp only [ZmF, ZmB, Zjn, Zjh, Zjd, Zi5, Zi0, ZiV, ZiQ, ZtZ, ZtV, Zpe, Zo8, Zo4, ZoW, ZoR, ZoM, ZoH, RT.val, fin3, pk]
 all_goals simp only [qat0, mat0, qat1, mat1, rg0, hk, Zy, Z1, Zas, ZR, ZS, ZI, ZJ, Zbf, Zbh, Zan, Zx, Zbg, Zj, ZfO, ZK, Zah]
 all_goals generalize Za s = bi
 all_goals generalize (s == 5) = bs
 all_goals cases g with
 | nil => cases bi <;> cases bs <;> simp [ZjW, ZaT, pcOf, spOf, Zbs]
 | cons o t =>
  simp only [List.getD_cons_zero] at hk
  simp only [len0, List.getD_cons_zero, ZbF, hk, Zbv, Zah, ZK, ZdM, bne]
  generalize Zb c.1 o = i at hk ⊢
  cases bi <;> cases bs <;> simp [ZaU, Zbs, popX, pcOf, spOf, opC, ZfA, ZcR, Za8, Zfk, Zcl, setI, R.get]
theorem nx_4 (c) (s : Int) (g : List Int) (n : Int) (hk : (Zb c.1 (g.getD 0 0)).1 = n) : (n = 6 → (ZmD c s g).val = some (Zj c s g)) ∧ (n = 10 → (Zjq c s g).val = some (Zj c s g)) ∧ (n = 17 → (Zjj c s g).val = some (Zj c s g)) ∧ (n = 21 → (Zjf c s g).val = some (Zj c s g)) ∧ (n = 28 → (Zi8 c s g).val = some (Zj c s g)) ∧ (n = 34 → (Zi2 c s g).val = some (Zj c s g)) ∧ (n = 39 → (ZiX c s g).val = some (Zj c s g)) ∧ (n = 43 → (ZiT c s g).val = some (Zj c s g)) ∧ (n = 6 → (ZtX c s g).val = some (Zj c s g)) ∧ (n = 10 → (Zph c s g).val = some (Zj c s g)) ∧ (n = 17 → (Zpa c s g).val = some (Zj c s g)) ∧ (n = 21 → (Zo6 c s g).val = some (Zj c s g)) ∧ (n = 28 → (ZoZ c s g).val = some (Zj c s g)) ∧ (n = 34 → (ZoT c s g).val = some (Zj c s g)) ∧ (n = 39 → (ZoO c s g).val = some (Zj c s g)) ∧ (n = 43 → (ZoK c s g).val = some (Zj c s g)) := by
 refine ⟨?_, ?_, ?_, ?_, ?_, ?_, ?_, ?_, ?_, ?_, ?_, ?_, ?_, ?_, ?_, ?_⟩
 all_goals intro e; subst e
 all_goals simp only [ZmD, Zjq, Zjj, Zjf, Zi8, Zi2, ZiX, ZiT, ZtX, Zph, Zpa, Zo6, ZoZ, ZoT, ZoO, ZoK, RT.val, fin3, pk]
 all_goals simp only [qat0, mat0, qat1, mat1, rg0, hk, Zy, Z1, Zas, ZR, ZS, ZI, ZJ, Zbf, Zbh, Zan, Zx, Zbg, Zj, ZfO, ZK, Zah]
 all_goals generalize Za s = bi
 all_goals generalize (s == 5) = bs
 all_goals cases g with
 | nil => cases bi <;> cases bs <;> simp [ZjW, ZaT, pcOf, spOf, Zbs]
 | cons o t =>
  simp only [List.getD_cons_zero] at hk
  simp only [len0, List.getD_cons_zero, ZbF, hk, Zbv, Zah, ZK, ZdM, bne]
  generalize Zb c.1 o = i at hk ⊢
  cases bi <;> cases bs <;> simp [ZaU, Zbs, popX, pcOf, spOf, opC, ZfA, ZcR, Za8, Zfk, Zcl, setI, R.get]
theorem nx_6 (c) (s : Int) (g : List Int) (n : Int) (hk : (Zb c.1 (g.getD 0 0)).1 = n) : (n = 3 → (ZmG c s g).val = some (Zj c s g)) ∧ (n = 14 → (Zjm c s g).val = some (Zj c s g)) ∧ (n = 15 → (Zjl c s g).val = some (Zj c s g)) ∧ (n = 3 → (Zt0 c s g).val = some (Zj c s g)) ∧ (n = 14 → (Zpd c s g).val = some (Zj c s g)) ∧ (n = 15 → (Zpc c s g).val = some (Zj c s g)) := by
 refine ⟨?_, ?_, ?_, ?_, ?_, ?_⟩
 all_goals intro e; subst e
 all_goals simp only [ZmG, Zjm, Zjl, Zt0, Zpd, Zpc, RT.val, fin3, pk]
 all_goals simp only [qat0, mat0, qat1, mat1, rg0, hk, Zy, Z1, Zas, ZR, ZS, ZI, ZJ, Zbf, Zbh, Zan, Zx, Zbg, Zj, ZfO, ZK, Zah]
 all_goals generalize Za s = bi
 all_goals generalize (s == 5) = bs
 all_goals cases g with
 | nil => cases bi <;> cases bs <;> simp [ZjW, ZaT, pcOf, spOf, Zbs]
 | cons o t =>
  simp only [List.getD_cons_zero] at hk
  simp only [len0, List.getD_cons_zero, ZbF, hk, Zbv, Zah, ZK, ZdM, bne]
  generalize Zb c.1 o = i at hk ⊢
  generalize (i.2.2.1 == 6) = b0
  cases b0 <;> cases bi <;> cases bs <;> simp [ZaU, Zbs, popX, pcOf, spOf, opC, ZfA, ZcR, Za8, Zfk, Zcl, setI, R.get]
theorem nx_8 (c) (s : Int) (g : List Int) (n : Int) (hk : (Zb c.1 (g.getD 0 0)).1 = n) : (n = 24 → (Zjc c s g).val = some (Zj c s g)) ∧ (n = 25 → (Zjb c s g).val = some (Zj c s g)) ∧ (n = 24 → (Zo3 c s g).val = some (Zj c s g)) ∧ (n = 25 → (Zo2 c s g).val = some (Zj c s g)) := by
 refine ⟨?_, ?_, ?_, ?_⟩
 all_goals intro e; subst e
 all_goals simp only [Zjc, Zjb, Zo3, Zo2, RT.val, fin3, pk]
 all_goals simp only [qat0, mat0, qat1, mat1, rg0, hk, Zy, Z1, Zas, ZR, ZS, ZI, ZJ, Zbf, Zbh, Zan, Zx, Zbg, Zj, ZfO, ZK, Zah]
 all_goals generalize Za s = bi
 all_goals generalize (s == 5) = bs
 all_goals cases g with
 | nil => cases bi <;> cases bs <;> simp [ZjW, ZaT, pcOf, spOf, Zbs]
 | cons o t =>
  simp only [List.getD_cons_zero] at hk
  simp only [len0, List.getD_cons_zero, ZbF, hk, Zbv, Zah, ZK, ZdM, bne]
  generalize Zb c.1 o = i at hk ⊢
  generalize Zde _ _ = b0
  generalize (c.1 == 2) = b1
  cases b0 <;> cases b1 <;> cases bi <;> cases bs <;> simp [ZaU, Zbs, popX, pcOf, spOf, opC, ZfA, ZcR, Za8, Zfk, Zcl, setI, R.get]
theorem nx_10 (c) (s : Int) (g : List Int) (n : Int) (hk : (Zb c.1 (g.getD 0 0)).1 = n) : (n = 30 → (Zi6 c s g).val = some (Zj c s g)) ∧ (n = 30 → (ZoX c s g).val = some (Zj c s g)) := by
 refine ⟨?_, ?_⟩
 all_goals intro e; subst e
 all_goals simp only [Zi6, ZoX, RT.val, fin3, pk]
 all_goals simp only [qat0, mat0, qat1, mat1, rg0, hk, Zy, Z1, Zas, ZR, ZS, ZI, ZJ, Zbf, Zbh, Zan, Zx, Zbg, Zj, ZfO, ZK, Zah]
 all_goals generalize Za s = bi
 all_goals generalize (s == 5) = bs
 all_goals cases g with
 | nil => cases bi <;> cases bs <;> simp [ZjW, ZaT, pcOf, spOf, Zbs]
 | cons o t =>
  simp only [List.getD_cons_zero] at hk
  simp only [len0, List.getD_cons_zero, ZbF, hk, Zbv, Zah, ZK, ZdM, bne]
  generalize Zb c.1 o = i at hk ⊢
  generalize (i.2.2.2.2.1 == 3) = b0
  cases b0 <;> cases bi <;> cases bs <;> simp [ZaU, Zbs, popX, pcOf, spOf, opC, ZfA, ZcR, Za8, Zfk, Zcl, setI, R.get]
theorem nx_1 (c) (s : Int) (g : List Int) (n : Int) (hk : (Zb c.1 (g.getD 0 0)).1 = n) : (n = 1 → (ZmI c s g).val = some (Zj c s g)) ∧ (n = 7 → (ZmC c s g).val = some (Zj c s g)) ∧ (n = 11 → (Zjp c s g).val = some (Zj c s g)) ∧ (n = 18 → (Zji c s g).val = some (Zj c s g)) ∧ (n = 22 → (Zje c s g).val = some (Zj c s g)) ∧ (n = 29 → (Zi7 c s g).val = some (Zj c s g)) ∧ (n = 35 → (Zi1 c s g).val = some (Zj c s g)) ∧ (n = 40 → (ZiW c s g).val = some (Zj c s g)) ∧ (n = 44 → (ZiS c s g).val = some (Zj c s g)) ∧ (n = 1 → (Zt2 c s g).val = some (Zj c s g)) ∧ (n = 7 → (ZtW c s g).val = some (Zj c s g)) ∧ (n = 11 → (Zpg c s g).val = some (Zj c s g)) ∧ (n = 18 → (Zo9 c s g).val = some (Zj c s g)) ∧ (n = 22 → (Zo5 c s g).val = some (Zj c s g)) ∧ (n = 29 → (ZoY c s g).val = some (Zj c s g)) ∧ (n = 35 → (ZoS c s g).val = some (Zj c s g)) ∧ (n = 40 → (ZoN c s g).val = some (Zj c s g)) ∧ (n = 44 → (ZoJ c s g).val = some (Zj c s g)) := by
 refine ⟨?_, ?_, ?_, ?_, ?_, ?_, ?_, ?_, ?_, ?_, ?_, ?_, ?_, ?_, ?_, ?_, ?_, ?_⟩
 all_goals intro e; subst e
 all_goals simp only [ZmI, ZmC, Zjp, Zji, Zje, Zi7, Zi1, ZiW, ZiS, Zt2, ZtW, Zpg, Zo9, Zo5, ZoY, ZoS, ZoN, ZoJ, RT.val, fin3, pk]
 all_goals simp only [qat0, mat0, qat1, mat1, rg0, hk, Zy, Z1, Zas, ZR, ZS, ZI, ZJ, Zbf, Zbh, Zan, Zx, Zbg, Zj, ZfO, ZK, Zah]
 all_goals generalize Za s = bi
 all_goals generalize (s == 5) = bs
 all_goals cases g with
 | nil => cases bi <;> cases bs <;> simp [ZjW, ZaT, pcOf, spOf, Zbs]
 | cons o t =>
  simp only [List.getD_cons_zero] at hk
  simp only [len0, List.getD_cons_zero, ZbF, hk, Zbv, Zah, ZK, ZdM, bne]
  generalize Zb c.1 o = i at hk ⊢
  cases bi <;> cases bs <;> simp [ZaU, Zbs, popX, pcOf, spOf, opC, ZfA, ZcR, Za8, Zfk, Zcl, setI, R.get]
theorem nx_3 (c) (s : Int) (g : List Int) (n : Int) (hk : (Zb c.1 (g.getD 0 0)).1 = n) : (n = 5 → (ZmE c s g).val = some (Zj c s g)) ∧ (n = 9 → (ZmA c s g).val = some (Zj c s g)) ∧ (n = 16 → (Zjk c s g).val = some (Zj c s g)) ∧ (n = 20 → (Zjg c s g).val = some (Zj c s g)) ∧ (n = 27 → (Zi9 c s g).val = some (Zj c s g)) ∧ (n = 33 → (Zi3 c s g).val = some (Zj c s g)) ∧ (n = 38 → (ZiY c s g).val = some (Zj c s g)) ∧ (n = 42 → (ZiU c s g).val = some (Zj c s g)) ∧ (n = 47 → (ZiP c s g).val = some (Zj c s g)) ∧ (n = 5 → (ZtY c s g).val = some (Zj c s g)) ∧ (n = 9 → (ZtU c s g).val = some (Zj c s g)) ∧ (n = 16 → (Zpb c s g).val = some (Zj c s g)) ∧ (n = 20 → (Zo7 c s g).val = some (Zj c s g)) ∧ (n = 27 → (Zo0 c s g).val = some (Zj c s g)) ∧ (n = 33 → (ZoU c s g).val = some (Zj c s g)) ∧ (n = 38 → (ZoP c s g).val = some (Zj c s g)) ∧ (n = 42 → (ZoL c s g).val = some (Zj c s g)) ∧ (n = 47 → (ZoG c s g).val = some (Zj c s g)) := by
 refine ⟨?_, ?_, ?_, ?_, ?_, ?_, ?_, ?_, ?_, ?_, ?_, ?_, ?_, ?_, ?_, ?_, ?_, ?_⟩
 all_goals intro e; subst e
 all_goals simp only [ZmE, ZmA, Zjk, Zjg, Zi9, Zi3, ZiY, ZiU, ZiP, ZtY, ZtU, Zpb, Zo7, Zo0, ZoU, ZoP, ZoL, ZoG, RT.val, fin3, pk]
 all_goals simp only [qat0, mat0, qat1, mat1, rg0, hk, Zy, Z1, Zas, ZR, ZS, ZI, ZJ, Zbf, Zbh, Zan, Zx, Zbg, Zj, ZfO, ZK, Zah]
 all_goals generalize Za s = bi
 all_goals generalize (s == 5) = bs
 all_goals cases g with
 | nil => cases bi <;> cases bs <;> simp [ZjW, ZaT, pcOf, spOf, Zbs]
 | cons o t =>
  simp only [List.getD_cons_zero] at hk
  simp only [len0, List.getD_cons_zero, ZbF, hk, Zbv, Zah, ZK, ZdM, bne]
  generalize Zb c.1 o = i at hk ⊢
  cases bi <;> cases bs <;> simp [ZaU, Zbs, popX, pcOf, spOf, opC, ZfA, ZcR, Za8, Zfk, Zcl, setI, R.get]
theorem nx_5 (c) (s : Int) (g : List Int) (n : Int) (hk : (Zb c.1 (g.getD 0 0)).1 = n) : (n = 2 → (ZmH c s g).val = some (Zj c s g)) ∧ (n = 2 → (Zt1 c s g).val = some (Zj c s g)) := by
 refine ⟨?_, ?_⟩
 all_goals intro e; subst e
 all_goals simp only [ZmH, Zt1, RT.val, fin3, pk]
 all_goals simp only [qat0, mat0, qat1, mat1, rg0, hk, Zy, Z1, Zas, ZR, ZS, ZI, ZJ, Zbf, Zbh, Zan, Zx, Zbg, Zj, ZfO, ZK, Zah]
 all_goals generalize Za s = bi
 all_goals generalize (s == 5) = bs
 all_goals cases g with
 | nil => cases bi <;> cases bs <;> simp [ZjW, ZaT, pcOf, spOf, Zbs]
 | cons o t =>
  simp only [List.getD_cons_zero] at hk
  simp only [len0, List.getD_cons_zero, ZbF, hk, Zbv, Zah, ZK, ZdM, bne]
  generalize Zb c.1 o = i at hk ⊢
  generalize (i.2.2.2.1 == 6) = b0
  generalize (i.2.2.1 == 6) = b1
  cases b0 <;> cases b1 <;> cases bi <;> cases bs <;> simp [ZaU, Zbs, popX, pcOf, spOf, opC, ZfA, ZcR, Za8, Zfk, Zcl, setI, R.get]
theorem nx_7 (c) (s : Int) (g : List Int) (n : Int) (hk : (Zb c.1 (g.getD 0 0)).1 = n) : (n = 12 → (Zjo c s g).val = some (Zj c s g)) ∧ (n = 12 → (Zpf c s g).val = some (Zj c s g)) := by
 refine ⟨?_, ?_⟩
 all_goals intro e; subst e
 all_goals simp only [Zjo, Zpf, RT.val, fin3, pk]
 all_goals simp only [qat0, mat0, qat1, mat1, rg0, hk, Zy, Z1, Zas, ZR, ZS, ZI, ZJ, Zbf, Zbh, Zan, Zx, Zbg, Zj, ZfO, ZK, Zah]
 all_goals generalize Za s = bi
 all_goals generalize (s == 5) = bs
 all_goals cases g with
 | nil => cases bi <;> cases bs <;> simp [ZjW, ZaT, pcOf, spOf, Zbs]
 | cons o t =>
  simp only [List.getD_cons_zero] at hk
  simp only [len0, List.getD_cons_zero, ZbF, hk, Zbv, Zah, ZK, ZdM, bne]
  generalize Zb c.1 o = i at hk ⊢
  generalize (i.2.2.2.1 == 6) = b0
  cases b0 <;> cases bi <;> cases bs <;> simp [ZaU, Zbs, popX, pcOf, spOf, opC, ZfA, ZcR, Za8, Zfk, Zcl, setI, R.get]
theorem nx_9 (c) (s : Int) (g : List Int) (n : Int) (hk : (Zb c.1 (g.getD 0 0)).1 = n) : (n = 26 → (Zja c s g).val = some (Zj c s g)) ∧ (n = 45 → (ZiR c s g).val = some (Zj c s g)) ∧ (n = 26 → (Zo1 c s g).val = some (Zj c s g)) ∧ (n = 45 → (ZoI c s g).val = some (Zj c s g)) := by
 refine ⟨?_, ?_, ?_, ?_⟩
 all_goals intro e; subst e
 all_goals simp only [Zja, ZiR, Zo1, ZoI, RT.val, fin3, pk]
 all_goals simp only [qat0, mat0, qat1, mat1, rg0, hk, Zy, Z1, Zas, ZR, ZS, ZI, ZJ, Zbf, Zbh, Zan, Zx, Zbg, Zj, ZfO, ZK, Zah]
 all_goals generalize Za s = bi
 all_goals generalize (s == 5) = bs
 all_goals cases g with
 | nil => cases bi <;> cases bs <;> simp [ZjW, ZaT, pcOf, spOf, Zbs]
 | cons o t =>
  simp only [List.getD_cons_zero] at hk
  simp only [len0, List.getD_cons_zero, ZbF, hk, Zbv, Zah, ZK, ZdM, bne]
  generalize Zb c.1 o = i at hk ⊢
  generalize Zde _ _ = b0
  cases b0 <;> cases bi <;> cases bs <;> simp [ZaU, Zbs, popX, pcOf, spOf, opC, ZfA, ZcR, Za8, Zfk, Zcl, setI, R.get]
theorem ZH8 (c) (s : Int) (g : List Int) (n : Int) (hk : (Zb c.1 (g.getD 0 0)).1 = n) : (n = 32 → (Zi4 c s g).val = some (Zj c s g)) ∧ (n = 37 → (ZiZ c s g).val = some (Zj c s g)) ∧ (n = 32 → (ZoV c s g).val = some (Zj c s g)) ∧ (n = 37 → (ZoQ c s g).val = some (Zj c s g)) := by
 refine ⟨?_, ?_, ?_, ?_⟩
 all_goals intro e; subst e
 all_goals simp only [Zi4, ZiZ, ZoV, ZoQ, RT.val, fin3, pk]
 all_goals simp only [qat0, mat0, qat1, mat1, rg0, hk, Zy, Z1, Zas, ZR, ZS, ZI, ZJ, Zbf, Zbh, Zan, Zx, Zbg, Zj, ZfO, ZK, Zah]
 all_goals generalize Za s = bi
 all_goals generalize (s == 5) = bs
 all_goals cases g with
 | nil => cases bi <;> cases bs <;> simp [ZjW, ZaT, pcOf, spOf, Zbs]
 | cons o t =>
  simp only [List.getD_cons_zero] at hk
  simp only [len0, List.getD_cons_zero, ZbF, hk, Zbv, Zah, ZK, ZdM, bne]
  generalize Zb c.1 o = i at hk ⊢
  generalize (c.1 == 2) = b0
  cases b0 <;> cases bi <;> cases bs <;> simp [ZaU, Zbs, popX, pcOf, spOf, opC, ZfA, ZcR, Za8, Zfk, Zcl, setI, R.get]
theorem ZCS (a : HL Zg) (h : okHL Zg a) : ∃ l, Zc8 Tryz.prog l ∧ (Zo (envX Tryz.prog l [] 1125900980585471 8) Tryz.f113 Zg Zs a).val = some (Zj a.1 a.2.1 a.2.2) := by
 have hk := ZAP a.1.1 _ (ZBc h.2.2)
 refine ⟨ZM (Zb a.1.1 (a.2.2.getD 0 0)).1, Zzz _, ?_⟩
 rcases ZAO hk.1 hk.2 with e | e | e | e | e | e | e | e | e | e | e | e | e | e | e | e | e | e | e | e | e | e | e | e | e | e | e | e | e | e | e | e | e | e | e | e | e | e | e | e | e | e | e | e | e | e | e
 ·rw [e, Zv9 a, ((nx_1 a.1 a.2.1 a.2.2 _ e).1 rfl)]
 ·rw [e, Zv8 a, ((nx_5 a.1 a.2.1 a.2.2 _ e).1 rfl)]
 ·rw [e, Zv7 a, ((nx_6 a.1 a.2.1 a.2.2 _ e).1 rfl)]
 ·rw [e, Zv6 a, ((nx_2 a.1 a.2.1 a.2.2 _ e).1 rfl)]
 ·rw [e, Zv5 a, ((nx_3 a.1 a.2.1 a.2.2 _ e).1 rfl)]
 ·rw [e, Zv4 a, ((nx_4 a.1 a.2.1 a.2.2 _ e).1 rfl)]
 ·rw [e, Zv3 a, ((nx_1 a.1 a.2.1 a.2.2 _ e).2.1 rfl)]
 ·rw [e, Zv2 a, ((nx_2 a.1 a.2.1 a.2.2 _ e).2.1 rfl)]
 ·rw [e, Zv1 a, ((nx_3 a.1 a.2.1 a.2.2 _ e).2.1 rfl)]
 ·rw [e, Zr8 a, ((nx_4 a.1 a.2.1 a.2.2 _ e).2.1 rfl)]
 ·rw [e, Zr7 a, ((nx_1 a.1 a.2.1 a.2.2 _ e).2.2.1 rfl)]
 ·rw [e, Zr6 a, ((nx_7 a.1 a.2.1 a.2.2 _ e).1 rfl)]
 ·rw [e, Zr5 a, ((nx_2 a.1 a.2.1 a.2.2 _ e).2.2.1 rfl)]
 ·rw [e, Zr4 a, ((nx_6 a.1 a.2.1 a.2.2 _ e).2.1 rfl)]
 ·rw [e, Zr3 a, ((nx_6 a.1 a.2.1 a.2.2 _ e).2.2.1 rfl)]
 ·rw [e, Zr2 a, ((nx_3 a.1 a.2.1 a.2.2 _ e).2.2.1 rfl)]
 ·rw [e, Zr1 a, ((nx_4 a.1 a.2.1 a.2.2 _ e).2.2.1 rfl)]
 ·rw [e, Zr0 a, ((nx_1 a.1 a.2.1 a.2.2 _ e).2.2.2.1 rfl)]
 ·rw [e, ZrZ a, ((nx_2 a.1 a.2.1 a.2.2 _ e).2.2.2.1 rfl)]
 ·rw [e, ZrY a, ((nx_3 a.1 a.2.1 a.2.2 _ e).2.2.2.1 rfl)]
 ·rw [e, ZrX a, ((nx_4 a.1 a.2.1 a.2.2 _ e).2.2.2.1 rfl)]
 ·rw [e, ZrW a, ((nx_1 a.1 a.2.1 a.2.2 _ e).2.2.2.2.1 rfl)]
 ·rw [e, ZrV a, ((nx_2 a.1 a.2.1 a.2.2 _ e).2.2.2.2.1 rfl)]
 ·rw [e, ZrU a, ((nx_8 a.1 a.2.1 a.2.2 _ e).1 rfl)]
 ·rw [e, ZrT a, ((nx_8 a.1 a.2.1 a.2.2 _ e).2.1 rfl)]
 ·rw [e, ZrS a, ((nx_9 a.1 a.2.1 a.2.2 _ e).1 rfl)]
 ·rw [e, ZrR a, ((nx_3 a.1 a.2.1 a.2.2 _ e).2.2.2.2.1 rfl)]
 ·rw [e, ZrQ a, ((nx_4 a.1 a.2.1 a.2.2 _ e).2.2.2.2.1 rfl)]
 ·rw [e, ZrP a, ((nx_1 a.1 a.2.1 a.2.2 _ e).2.2.2.2.2.1 rfl)]
 ·rw [e, ZrO a, ((nx_10 a.1 a.2.1 a.2.2 _ e).1 rfl)]
 ·rw [e, ZrN a, ((nx_2 a.1 a.2.1 a.2.2 _ e).2.2.2.2.2.1 rfl)]
 ·rw [e, ZrM a, ((ZH8 a.1 a.2.1 a.2.2 _ e).1 rfl)]
 ·rw [e, ZrL a, ((nx_3 a.1 a.2.1 a.2.2 _ e).2.2.2.2.2.1 rfl)]
 ·rw [e, ZrK a, ((nx_4 a.1 a.2.1 a.2.2 _ e).2.2.2.2.2.1 rfl)]
 ·rw [e, ZrJ a, ((nx_1 a.1 a.2.1 a.2.2 _ e).2.2.2.2.2.2.1 rfl)]
 ·rw [e, ZrI a, ((nx_2 a.1 a.2.1 a.2.2 _ e).2.2.2.2.2.2.1 rfl)]
 ·rw [e, ZrH a, ((ZH8 a.1 a.2.1 a.2.2 _ e).2.1 rfl)]
 ·rw [e, ZrG a, ((nx_3 a.1 a.2.1 a.2.2 _ e).2.2.2.2.2.2.1 rfl)]
 ·rw [e, ZrF a, ((nx_4 a.1 a.2.1 a.2.2 _ e).2.2.2.2.2.2.1 rfl)]
 ·rw [e, ZrE a, ((nx_1 a.1 a.2.1 a.2.2 _ e).2.2.2.2.2.2.2.1 rfl)]
 ·rw [e, ZrD a, ((nx_2 a.1 a.2.1 a.2.2 _ e).2.2.2.2.2.2.2.1 rfl)]
 ·rw [e, ZrC a, ((nx_3 a.1 a.2.1 a.2.2 _ e).2.2.2.2.2.2.2.1 rfl)]
 ·rw [e, ZrB a, ((nx_4 a.1 a.2.1 a.2.2 _ e).2.2.2.2.2.2.2.1 rfl)]
 ·rw [e, ZrA a, ((nx_1 a.1 a.2.1 a.2.2 _ e).2.2.2.2.2.2.2.2.1 rfl)]
 ·rw [e, Zrz a, ((nx_9 a.1 a.2.1 a.2.2 _ e).2.1 rfl)]
 ·rw [e, Zry a, ((nx_2 a.1 a.2.1 a.2.2 _ e).2.2.2.2.2.2.2.2.1 rfl)]
 ·rw [e, Zrx a, ((nx_3 a.1 a.2.1 a.2.2 _ e).2.2.2.2.2.2.2.2.1 rfl)]
def ZpG : Entry := Zm Zg Zs (fun _ => none) (fun a => Zj a.1 a.2.1 a.2.2)
theorem Zup : Zc Tryz.prog 113 ZpG := Zuc Tryz.func113 rfl (by kernel_rfl) Tryz.call113 fun a h _ => ZCS a h
def wPC (r : RegT) (v : Int) : RegT := (r.1, r.2.1, r.2.2.1, r.2.2.2.1, r.2.2.2.2.1, r.2.2.2.2.2.1, r.2.2.2.2.2.2.1, r.2.2.2.2.2.2.2.1, r.2.2.2.2.2.2.2.2.1, v)
def wSP (r : RegT) (v : Int) : RegT := (r.1, r.2.1, r.2.2.1, r.2.2.2.1, r.2.2.2.2.1, r.2.2.2.2.2.1, r.2.2.2.2.2.2.1, r.2.2.2.2.2.2.2.1, v, r.2.2.2.2.2.2.2.2.2)
def wA (r : RegT) (v : Int) : RegT := (v, r.2)
def wF (r : RegT) (f : FlgT) : RegT := (r.1, r.2.1, r.2.2.1, r.2.2.2.1, r.2.2.2.2.1, r.2.2.2.2.2.1, r.2.2.2.2.2.2.1, f, r.2.2.2.2.2.2.2.2)
def fCY (f : FlgT) (b : Bool) : FlgT := (f.1, f.2.1, f.2.2.1, f.2.2.2.1, f.2.2.2.2.1, f.2.2.2.2.2.1, b)
def fVCY (f : FlgT) (v b : Bool) : FlgT := (f.1, f.2.1, f.2.2.1, f.2.2.2.1, f.2.2.2.2.1, v, b)
def Zd1 (r : RegT) : Int := r.2.2.2.2.2.2.2.2.1
def flOf (r : RegT) : FlgT := r.2.2.2.2.2.2.2.1
def finR (c : CpuT) (r r0 : RegT) (g : List Int) (i : InsT) : RegT :=
 let dst := i.2.2.1
 let src := i.2.2.2.1
 let pr := i.2.2.2.2.1
 let op := i.2.2.2.2.2.1
 let g1 := g.getD 1 0
 let tk := Zde i.2.2.2.2.2.2.1 (flOf r)
 bif i.1 == 2 then rSet r0 dst (bif src == 6 then g1 else rGet r src) else
 bif i.1 == 3 then rSet r0 dst g1 else
 bif i.1 == 4 then ZL r0 pr (Za8 g 1) else
 bif i.1 == 5 then wA r0 (g.getD 3 0) else
 bif i.1 == 7 then ZL r0 2 (Za8 g 3) else
 bif i.1 == 9 then wA r0 g1 else
 bif i.1 == 11 then (r0.1, r0.2.1, r0.2.2.1, r0.2.2.2.2.2.1, r0.2.2.2.2.2.2.1, r0.2.2.2.1, r0.2.2.2.2.1, r0.2.2.2.2.2.2.2) else
 bif i.1 == 12 then (let q := rDo c.1 op r.1 (bif src == 6 then g1 else rGet r src) (flOf r); wA (wF r0 q.2) q.1) else
 bif i.1 == 13 then (let q := rDo c.1 op r.1 g1 (flOf r); wA (wF r0 q.2) q.1) else
 bif i.1 == 14 then (let q := rInr c.1 (bif dst == 6 then g1 else rGet r dst) (flOf r); rSet (wF r0 q.2) dst q.1) else
 bif i.1 == 15 then (let q := rDcr c.1 (bif dst == 6 then g1 else rGet r dst) (flOf r); rSet (wF r0 q.2) dst q.1) else
 bif i.1 == 16 then (let q := rInx c.1 (ZaN r pr) (flOf r); ZL (wF r0 q.2) pr q.1) else
 bif i.1 == 17 then (let q := rDcx c.1 (ZaN r pr) (flOf r); ZL (wF r0 q.2) pr q.1) else
 bif i.1 == 18 then (let q := rDad c.1 (ZaN r 2) (ZaN r pr) (flOf r); ZL (wF r0 q.2) 2 q.1) else
 bif i.1 == 19 then (let q := rDaa c.1 r.1 (flOf r); wA (wF r0 q.2) q.1) else
 bif i.1 == 20 then wA r0 (notI .u8 r.1) else
 bif i.1 == 21 then wF r0 (fCY (flOf r) true) else
 bif i.1 == 22 then wF r0 (fCY (flOf r) (!(flOf r).2.2.2.2.2.2)) else
 bif i.1 == 23 then (let q := rRot op r.1 (flOf r).2.2.2.2.2.2; wA (wF r0 (fCY (flOf r) q.2)) q.1) else
 bif i.1 == 24 then (bif tk then wPC r0 (Za8 g 1) else r0) else
 bif i.1 == 25 then (bif tk then wPC (wSP r0 (IntKind.wrap .u16 (Zd1 r - 2))) (Za8 g 1) else r0) else
 bif i.1 == 26 then (bif tk then wPC (wSP r0 (IntKind.wrap .u16 (Zd1 r + 2))) (Za8 g 1) else r0) else
 bif i.1 == 27 then wPC (wSP r0 (IntKind.wrap .u16 (Zd1 r - 2))) (IntKind.wrap .u16 (IntKind.wrap .i64 (8 * i.2.2.2.2.2.2.2))) else
 bif i.1 == 28 then wPC r0 (ZaN r 2) else
 bif i.1 == 29 then wSP r0 (ZaN r 2) else
 bif i.1 == 30 then wSP r0 (IntKind.wrap .u16 (Zd1 r - 2)) else
 bif i.1 == 31 then (let q := bif pr == 3 then Zir c.1 r0 (Za8 g 1) else ZL r0 pr (Za8 g 1); wSP q (IntKind.wrap .u16 (Zd1 q + 2))) else
 bif i.1 == 32 then ZL r0 2 (Za8 g 1) else
 bif i.1 == 33 then wA r0 (g.getD 2 0) else
 bif i.1 == 40 then (let q := ZyC (ZaN r 2) (ZaN r 0); ZL (wF r0 q.2) 2 q.1) else
 bif i.1 == 41 then (let q := ZCs (ZaN r 2); ZL (wF r0 (fCY (flOf r) q.2)) 2 q.1) else
 bif i.1 == 42 then (let q := Zym (ZaN r 1) (flOf r).2.2.2.2.2.2; ZL (wF r0 (fVCY (flOf r) q.2.2 q.2.1)) 1 q.1) else
 bif i.1 == 43 then ZL r0 1 (IntKind.wrap .u16 (ZaN r 2 + IntKind.wrap .u16 g1)) else
 bif i.1 == 44 then ZL r0 1 (IntKind.wrap .u16 (Zd1 r + IntKind.wrap .u16 g1)) else
 bif i.1 == 45 then (bif tk then wPC (wSP r0 (IntKind.wrap .u16 (Zd1 r - 2))) 64 else r0) else
 bif i.1 == 47 then ZL r0 2 (Za8 g 1) else
 r0
def finI (c : CpuT) (inj : Bool) (g : List Int) (l : QT1) (i : InsT) : CpuT :=
 let r0 := wPC c.2.1 (ZK c inj i)
 let d : CpuT := (c.1, r0, c.2.2.1, false, false, c.2.2.2.2.2)
 bif i.1 == 38 then (let q := rRim d l; (q.2.1, wA q.2.2.1 q.1, q.2.2.2)) else
 bif i.1 == 39 then rSim d c.2.1.1 else
 (c.1, finR c c.2.1 r0 g i, bif i.1 == 35 then true else bif i.1 == 36 then false else c.2.2.1, i.1 == 35, i.1 == 37, c.2.2.2.2.2)
def finX (c : CpuT) (s : Int) (g : List Int) (l : QT1) : CpuT :=
 bif Za s then (c.1, wPC (wSP c.2.1 (IntKind.wrap .u16 (spOf c - 2))) (Zq s), c.2.2)
 else finI c (s == 5) g l (Zb c.1 (g.getD 0 0))
theorem ZHp (c : CpuT) (l) : (rRim c l).2 = (c.1, c.2.1, c.2.2.1, c.2.2.2.1, c.2.2.2.2.1, c.2.2.2.2.2.1, c.2.2.2.2.2.2.1, c.2.2.2.2.2.2.2.1, c.2.2.2.2.2.2.2.2.1, c.2.2.2.2.2.2.2.2.2.1, false, false, c.2.2.2.2.2.2.2.2.2.2.2.2) := by
 have h3 : ∀ b, Zac b 3 = true := fun b => by cases b <;> rfl
 have h4 : ∀ b, Zac b 4 = true := fun b => by cases b <;> rfl
 have h5 : ∀ b, Zac b 5 = true := fun b => by cases b <;> rfl
 have h6 : ∀ b, Zac b 6 = true := fun b => by cases b <;> rfl
 have h7 : ∀ b, Zac b 7 = true := fun b => by cases b <;> rfl
 simp only [rRim, ZCe, RT.val, h3, h4, h5, h6, h7, Bool.not_true, Bool.false_or, cond_true, getO]
theorem ZeZ (s) : Zd9 s = true ∧ ZfI s = bif (s.2.2.2.1.1 == 13 || s.2.2.2.1.2.2.2.1 == 6) then s.2.2.1.getD 1 0 else rGet s.1.2.1 s.2.2.2.1.2.2.2.1 := by
 simp only [Zd9, ZfI, ZfH, RT.val, qat1, Zas]
 cases (s.2.2.2.1.1 == 13 || s.2.2.2.1.2.2.2.1 == 6) <;> simp [okB, getO]
theorem bnat {x : Int} (h : inR .u8 x) : ∃ a : Nat, x = a ∧ a < 256 := by
 rw [Zj5] at h
 exact ⟨x.toNat, by omega, by omega⟩
theorem w16 {n : Nat} (h : n < 65536) : IntKind.wrap .u16 (n : Int) = n := Zh2 ⟨by simp [IntKind.min, IntKind.signed], by simp [IntKind.max, IntKind.signed, IntKind.bits]; omega⟩
theorem ZDn {h l : Int} (hh : inR .u8 h) (hl : inR .u8 l) : ZaH h l = 256 * h + l := by
 obtain ⟨a, rfl, ha⟩ := bnat hh
 obtain ⟨b, rfl, hb⟩ := bnat hl
 have e1 : shlI .u16 (IntKind.wrap .u16 (a : Int)) 8 = ((a * 256 : Nat) : Int) := by
  rw [w16 (by omega)]
  simp only [shlI]
  have : ((a : Int) * 2 ^ min (8 : Int).toNat u16.bits) = ((a * 256 : Nat) : Int) := by simp [IntKind.bits]
  rw [this, w16 (by omega)]
 have e2 : (BitVec.ofInt u16.bits ((a * 256 : Nat) : Int) ||| BitVec.ofInt u16.bits (b : Int)).toNat = a * 256 + b := by
  rw [BitVec.toNat_or, BitVec.toNat_ofInt, BitVec.toNat_ofInt]
  have k1 : (((a * 256 : Nat) : Int) % ((2 ^ u16.bits : Nat) : Int)).toNat = a * 256 := by simp [IntKind.bits]; omega
  have k2 : ((b : Int) % ((2 ^ u16.bits : Nat) : Int)).toNat = b := by simp [IntKind.bits]; omega
  rw [k1, k2]
  have := Nat.shiftLeft_add_eq_or_of_lt (i := 8) (b := b) (by omega) a
  rw [Nat.shiftLeft_eq] at this
  exact this.symm
 show orI .u16 (shlI .u16 (IntKind.wrap .u16 (a : Int)) 8) (IntKind.wrap .u16 (b : Int)) = _
 rw [e1, w16 (by omega)]
 simp only [orI]
 rw [e2, w16 (by omega)]
 omega
def Zci (k : Int) : Entry := .tree (ZQ (envX Tryz.prog [(182, ZpK k), (222, qAtE)] [] 255 8) Tryz.f178)
theorem ZdQ (k : Int) : Zc Tryz.prog 178 (Zci k) := ZaF (P := Tryz.prog) (n := 255) (k := 8) (l := [(182, ZpK k), (222, qAtE)]) (ol := []) ⟨(ZuG k), ZfM, trivial⟩ Tryz.func178 rfl (by kernel_rfl) Tryz.call178 trivial
def Zba : Entry := .tree (ZQ (envX Tryz.prog [(222, qAtE), (232, Zpm), (268, ZpA), (269, Za6), (270, Ziy)] [] 2597417327555236063515274458956831 8) Tryz.f224)
theorem ZdR : Zc Tryz.prog 224 Zba := ZaF (P := Tryz.prog) (n := 2597417327555236063515274458956831) (k := 8) (l := [(222, qAtE), (232, Zpm), (268, ZpA), (269, Za6), (270, Ziy)]) (ol := []) ⟨ZfM, Zmb, Zuh, ZcT, Zmc, trivial⟩ Tryz.func224 rfl (by kernel_rfl) Tryz.call224 trivial
def ZaK : Entry := .tree (ZQ (envX Tryz.prog [(222, qAtE), (231, Zd8), (232, Zpm), (268, ZpA), (269, Za6), (271, ZGb), (272, Zix), (273, Zux), (274, ZuJ), (275, ZzJ), (276, ZAb), (277, ZAf), (278, ZAh), (279, Zzf)] [] 7069140681974987581262622498806463579024171163532525608263727578473562367 8) Tryz.f225)
theorem Zc7 : Zc Tryz.prog 225 ZaK := ZaF (P := Tryz.prog) (n := 7069140681974987581262622498806463579024171163532525608263727578473562367) (k := 8) (l := [(222, qAtE), (231, Zd8), (232, Zpm), (268, ZpA), (269, Za6), (271, ZGb), (272, Zix), (273, Zux), (274, ZuJ), (275, ZzJ), (276, ZAb), (277, ZAf), (278, ZAh), (279, Zzf)]) (ol := []) ⟨ZfM, ZfG, Zmb, Zuh, ZcT, ZGa, Zq8, Zuw, ZuI, ZCT, ZC1, ZC3, ZC5, ZCI, trivial⟩ Tryz.func225 rfl (by kernel_rfl) Tryz.call225 trivial
def ZaJ : Entry := .tree (ZQ (envX Tryz.prog [(231, Zd8), (269, Za6), (270, Ziy), (280, Zfc), (281, ZiK)] [] 1300629477622019213679053869679119 8) Tryz.f226)
theorem Zc6 : Zc Tryz.prog 226 ZaJ := ZaF (P := Tryz.prog) (n := 1300629477622019213679053869679119) (k := 8) (l := [(231, Zd8), (269, Za6), (270, Ziy), (280, Zfc), (281, ZiK)]) (ol := []) ⟨ZfG, ZcT, Zmc, Ziv, Zrk, trivial⟩ Tryz.func226 rfl (by kernel_rfl) Tryz.call226 trivial
def ZaX : Entry := .tree (ZQ (envX Tryz.prog [(222, qAtE), (231, Zd8), (269, Za6), (283, Zsq), (284, Zsu), (285, Zrq)] [] 19808249554387950831669350527 8) Tryz.f229)
theorem ZdA : Zc Tryz.prog 229 ZaX := ZaF (P := Tryz.prog) (n := 19808249554387950831669350527) (k := 8) (l := [(222, qAtE), (231, Zd8), (269, Za6), (283, Zsq), (284, Zsu), (285, Zrq)]) (ol := []) ⟨ZfM, ZfG, ZcT, Zz4, ZAj, Zzl, trivial⟩ Tryz.func229 rfl (by kernel_rfl) Tryz.call229 trivial
def ZbM : Entry := .tree (ZQ (envX Tryz.prog [(223, ZfL), (224, Zba), (225, ZaK), (226, ZaJ), (227, Zzh), (228, Zy8), (229, ZaX)] [] 1299342484808491477133836286951679 8) Tryz.f179)
theorem Zdl : Zc Tryz.prog 179 ZbM := ZaF (P := Tryz.prog) (n := 1299342484808491477133836286951679) (k := 8) (l := [(223, ZfL), (224, Zba), (225, ZaK), (226, ZaJ), (227, Zzh), (228, Zy8), (229, ZaX)]) (ol := []) ⟨Zk2, ZdR, Zc7, Zc6, ZCK, ZCE, ZdA, trivial⟩ Tryz.func179 rfl (by kernel_rfl) Tryz.call179 trivial
abbrev Zh : List Sh := [Sh.agg ZbQ, Sh.one (R.int i64), Sh.one (R.sl (R.int u8)), Sh.agg (R.pair R.bool (R.pair R.bool rcF7))]
abbrev ZN : Rs := Rs.one (Sh.agg ZbQ)
def Zaf (k : Int) : List (FuncId × Entry) := [(176, ZgE), (177, Zpv), (178, Zci k), (179, ZbM)]
theorem ZCX (k : Int) : Zc8 Tryz.prog (Zaf k) := ⟨Zha, Zrg, (ZdQ k), Zdl, trivial⟩
def Zsn (c : TC) (s : Int) (g : List Int) (ln : QT1) : RT (Option TC) :=
 let x1 : QT0 := (c, s == 5, g, (0, 0, 0, 0, 0, 0, 0, 0), [])
 let x2 := qAtC x1 0
 let x3 := Zb c.1 (qAt x1 0)
 let x4 := !x2 || x3.1 == 1
 .br (Zd s) (.leaf (some ((c.1, (rgx c.2.1 c.2.1.2.2.2.2.2.2.2.1 (u16.wrap ((spOf c) - 2)) (Zq s)), c.2.2)))) (.br (!x4 || x2) (.br (x4) (.leaf (some ((c.1, (rgx c.2.1 c.2.1.2.2.2.2.2.2.2.1 (spOf c) (Zr (c, s == 5, g, (1, x3.2), []))), c.2.2.1, false, false, c.2.2.2.2.2)))) (.leaf none)) (.leaf none))
theorem Zz1 (a : HL Zh) : Zo (envX Tryz.prog (Zaf 1) [] 1023 8) Tryz.f111 Zh ZN a = Zsn a.1 a.2.1 a.2.2.1 a.2.2.2 := by kernel_rfl
def Zsj (c : TC) (s : Int) (g : List Int) (ln : QT1) : RT (Option TC) :=
 let x1 : QT0 := (c, s == 5, g, (0, 0, 0, 0, 0, 0, 0, 0), [])
 let x2 := qAtC x1 0
 let x3 := Zb c.1 (qAt x1 0)
 let x4 := !x2 || x3.1 == 5
 let x5 : QT0 := (c, s == 5, g, (5, x3.2), [])
 .br (Zd s) (.leaf (some ((c.1, (rgx c.2.1 c.2.1.2.2.2.2.2.2.2.1 (u16.wrap ((spOf c) - 2)) (Zq s)), c.2.2)))) (.br (!x4 || x2) (.br (x4) (.br (qAtC x5 3) (.leaf (some ((c.1, (qAt x5 3, c.2.1.2.1, c.2.1.2.2.1, c.2.1.2.2.2.1, c.2.1.2.2.2.2.1, c.2.1.2.2.2.2.2.1, c.2.1.2.2.2.2.2.2.1, c.2.1.2.2.2.2.2.2.2.1, spOf c, Zr x5), c.2.2.1, false, false, c.2.2.2.2.2)))) (.leaf none)) (.leaf none)) (.leaf none))
theorem ZzX (a : HL Zh) : Zo (envX Tryz.prog (Zaf 5) [] 1023 8) Tryz.f111 Zh ZN a = Zsj a.1 a.2.1 a.2.2.1 a.2.2.2 := by kernel_rfl
def Zsf (c : TC) (s : Int) (g : List Int) (ln : QT1) : RT (Option TC) :=
 let x1 : QT0 := (c, s == 5, g, (0, 0, 0, 0, 0, 0, 0, 0), [])
 let x2 := qAtC x1 0
 let x3 := Zb c.1 (qAt x1 0)
 let x4 := !x2 || x3.1 == 9
 let x5 : QT0 := (c, s == 5, g, (9, x3.2), [])
 .br (Zd s) (.leaf (some ((c.1, (rgx c.2.1 c.2.1.2.2.2.2.2.2.2.1 (u16.wrap ((spOf c) - 2)) (Zq s)), c.2.2)))) (.br (!x4 || x2) (.br (x4) (.br (qAtC x5 1) (.leaf (some ((c.1, (qAt x5 1, c.2.1.2.1, c.2.1.2.2.1, c.2.1.2.2.2.1, c.2.1.2.2.2.2.1, c.2.1.2.2.2.2.2.1, c.2.1.2.2.2.2.2.2.1, c.2.1.2.2.2.2.2.2.2.1, spOf c, Zr x5), c.2.2.1, false, false, c.2.2.2.2.2)))) (.leaf none)) (.leaf none)) (.leaf none))
theorem ZzT (a : HL Zh) : Zo (envX Tryz.prog (Zaf 9) [] 1023 8) Tryz.f111 Zh ZN a = Zsf a.1 a.2.1 a.2.2.1 a.2.2.2 := by kernel_rfl
def Znm (c : TC) (s : Int) (g : List Int) (ln : QT1) : RT (Option TC) :=
 let x1 : QT0 := (c, s == 5, g, (0, 0, 0, 0, 0, 0, 0, 0), [])
 let x2 := qAtC x1 0
 let x3 := Zb c.1 (qAt x1 0)
 let x4 := !x2 || x3.1 == 13
 let x5 := x3.2
 let x6 : QT0 := (c, s == 5, g, (13, x5), [])
 let x7 := rDo c.1 x5.2.2.2.2.1 c.2.1.1 (ZfI x6) c.2.1.2.2.2.2.2.2.2.1
 .br (Zd s) (.leaf (some ((c.1, (rgx c.2.1 c.2.1.2.2.2.2.2.2.2.1 (u16.wrap ((spOf c) - 2)) (Zq s)), c.2.2)))) (.br (!x4 || x2) (.br (x4) (.br (Zd9 x6) (.leaf (some ((c.1, (x7.1, c.2.1.2.1, c.2.1.2.2.1, c.2.1.2.2.2.1, c.2.1.2.2.2.2.1, c.2.1.2.2.2.2.2.1, c.2.1.2.2.2.2.2.2.1, x7.2, spOf c, Zr x6), c.2.2.1, false, false, c.2.2.2.2.2)))) (.leaf none)) (.leaf none)) (.leaf none))
theorem ZwM (a : HL Zh) : Zo (envX Tryz.prog (Zaf 13) [] 1023 8) Tryz.f111 Zh ZN a = Znm a.1 a.2.1 a.2.2.1 a.2.2.2 := by kernel_rfl
def Zni (c : TC) (s : Int) (g : List Int) (ln : QT1) : RT (Option TC) :=
 let x1 : QT0 := (c, s == 5, g, (0, 0, 0, 0, 0, 0, 0, 0), [])
 let x2 := qAtC x1 0
 let x3 := Zb c.1 (qAt x1 0)
 let x4 := !x2 || x3.1 == 17
 let x5 := x3.2
 let x6 : QT0 := (c, s == 5, g, (17, x5), [])
 let x7 := x5.2.2.2.1
 let x8 := rDcx c.1 (ZcE x6 x7) c.2.1.2.2.2.2.2.2.2.1
 .br (Zd s) (.leaf (some ((c.1, (rgx c.2.1 c.2.1.2.2.2.2.2.2.2.1 (u16.wrap ((spOf c) - 2)) (Zq s)), c.2.2)))) (.br (!x4 || x2) (.br (x4) (.leaf (some ((c.1, ZL (rgx c.2.1 x8.2 (spOf c) (Zr x6)) x7 x8.1, c.2.2.1, false, false, c.2.2.2.2.2)))) (.leaf none)) (.leaf none))
theorem ZwI (a : HL Zh) : Zo (envX Tryz.prog (Zaf 17) [] 1023 8) Tryz.f111 Zh ZN a = Zni a.1 a.2.1 a.2.2.1 a.2.2.2 := by kernel_rfl
def Zne (c : TC) (s : Int) (g : List Int) (ln : QT1) : RT (Option TC) :=
 let x1 : QT0 := (c, s == 5, g, (0, 0, 0, 0, 0, 0, 0, 0), [])
 let x2 := qAtC x1 0
 let x3 := Zb c.1 (qAt x1 0)
 let x4 := !x2 || x3.1 == 21
 let x5 := c.2.1.2.2.2.2.2.2.2.1.2.2.2
 let x6 := x5.2
 .br (Zd s) (.leaf (some ((c.1, (rgx c.2.1 c.2.1.2.2.2.2.2.2.2.1 (u16.wrap ((spOf c) - 2)) (Zq s)), c.2.2)))) (.br (!x4 || x2) (.br (x4) (.leaf (some ((c.1, (rgx c.2.1 ((c.2.1.2.2.2.2.2.2.2.1.1, c.2.1.2.2.2.2.2.2.2.1.2.1, c.2.1.2.2.2.2.2.2.2.1.2.2.1, x5.1, x6.1, x6.2.1, true)) (spOf c) (Zr (c, s == 5, g, (21, x3.2), []))), c.2.2.1, false, false, c.2.2.2.2.2)))) (.leaf none)) (.leaf none))
theorem ZwE (a : HL Zh) : Zo (envX Tryz.prog (Zaf 21) [] 1023 8) Tryz.f111 Zh ZN a = Zne a.1 a.2.1 a.2.2.1 a.2.2.2 := by kernel_rfl
def Zna (c : TC) (s : Int) (g : List Int) (ln : QT1) : RT (Option TC) :=
 let x1 := u16.wrap ((spOf c) - 2)
 let x2 : QT0 := (c, s == 5, g, (0, 0, 0, 0, 0, 0, 0, 0), [])
 let x3 := qAtC x2 0
 let x4 := Zb c.1 (qAt x2 0)
 let x5 := !x3 || x4.1 == 25
 let x6 : QT0 := (c, s == 5, g, (25, x4.2), [])
 let x7 := ZeY x6
 .br (Zd s) (.leaf (some ((c.1, (rgx c.2.1 c.2.1.2.2.2.2.2.2.2.1 x1 (Zq s)), c.2.2)))) (.br (!x5 || x3) (.br (x5) (.br (!x7 || ZbI x6 1) (.leaf (some ((c.1, (rgx c.2.1 c.2.1.2.2.2.2.2.2.2.1 (bif x7 then x1 else (spOf c)) (bif x7 then Zea x6 1 else Zr x6)), c.2.2.1, false, false, c.2.2.2.2.2)))) (.leaf none)) (.leaf none)) (.leaf none))
theorem ZwA (a : HL Zh) : Zo (envX Tryz.prog (Zaf 25) [] 1023 8) Tryz.f111 Zh ZN a = Zna a.1 a.2.1 a.2.2.1 a.2.2.2 := by kernel_rfl
def Zm6 (c : TC) (s : Int) (g : List Int) (ln : QT1) : RT (Option TC) :=
 let x1 : QT0 := (c, s == 5, g, (0, 0, 0, 0, 0, 0, 0, 0), [])
 let x2 := qAtC x1 0
 let x3 := Zb c.1 (qAt x1 0)
 let x4 := !x2 || x3.1 == 29
 let x5 : QT0 := (c, s == 5, g, (29, x3.2), [])
 .br (Zd s) (.leaf (some ((c.1, (rgx c.2.1 c.2.1.2.2.2.2.2.2.2.1 (u16.wrap ((spOf c) - 2)) (Zq s)), c.2.2)))) (.br (!x4 || x2) (.br (x4) (.leaf (some ((c.1, (rgx c.2.1 c.2.1.2.2.2.2.2.2.2.1 (ZcE x5 2) (Zr x5)), c.2.2.1, false, false, c.2.2.2.2.2)))) (.leaf none)) (.leaf none))
theorem Zww (a : HL Zh) : Zo (envX Tryz.prog (Zaf 29) [] 1023 8) Tryz.f111 Zh ZN a = Zm6 a.1 a.2.1 a.2.2.1 a.2.2.2 := by kernel_rfl
def Zm2 (c : TC) (s : Int) (g : List Int) (ln : QT1) : RT (Option TC) :=
 let x1 : QT0 := (c, s == 5, g, (0, 0, 0, 0, 0, 0, 0, 0), [])
 let x2 := qAtC x1 0
 let x3 := Zb c.1 (qAt x1 0)
 let x4 := !x2 || x3.1 == 33
 let x5 : QT0 := (c, s == 5, g, (33, x3.2), [])
 .br (Zd s) (.leaf (some ((c.1, (rgx c.2.1 c.2.1.2.2.2.2.2.2.2.1 (u16.wrap ((spOf c) - 2)) (Zq s)), c.2.2)))) (.br (!x4 || x2) (.br (x4) (.br (qAtC x5 2) (.leaf (some ((c.1, (qAt x5 2, c.2.1.2.1, c.2.1.2.2.1, c.2.1.2.2.2.1, c.2.1.2.2.2.2.1, c.2.1.2.2.2.2.2.1, c.2.1.2.2.2.2.2.2.1, c.2.1.2.2.2.2.2.2.2.1, spOf c, Zr x5), c.2.2.1, false, false, c.2.2.2.2.2)))) (.leaf none)) (.leaf none)) (.leaf none))
theorem Zws (a : HL Zh) : Zo (envX Tryz.prog (Zaf 33) [] 1023 8) Tryz.f111 Zh ZN a = Zm2 a.1 a.2.1 a.2.2.1 a.2.2.2 := by kernel_rfl
def ZmY (c : TC) (s : Int) (g : List Int) (ln : QT1) : RT (Option TC) :=
 let x1 : QT0 := (c, s == 5, g, (0, 0, 0, 0, 0, 0, 0, 0), [])
 let x2 := qAtC x1 0
 let x3 := Zb c.1 (qAt x1 0)
 let x4 := !x2 || x3.1 == 37
 .br (Zd s) (.leaf (some ((c.1, (rgx c.2.1 c.2.1.2.2.2.2.2.2.2.1 (u16.wrap ((spOf c) - 2)) (Zq s)), c.2.2)))) (.br (!x4 || x2) (.br (x4) (.leaf (some ((c.1, (rgx c.2.1 c.2.1.2.2.2.2.2.2.2.1 (spOf c) (Zr (c, s == 5, g, (37, x3.2), []))), c.2.2.1, false, true, c.2.2.2.2.2)))) (.leaf none)) (.leaf none))
theorem Zwo (a : HL Zh) : Zo (envX Tryz.prog (Zaf 37) [] 1023 8) Tryz.f111 Zh ZN a = ZmY a.1 a.2.1 a.2.2.1 a.2.2.2 := by kernel_rfl
def ZmU (c : TC) (s : Int) (g : List Int) (ln : QT1) : RT (Option TC) :=
 let x1 : QT0 := (c, s == 5, g, (0, 0, 0, 0, 0, 0, 0, 0), [])
 let x2 := qAtC x1 0
 let x3 := Zb c.1 (qAt x1 0)
 let x4 := !x2 || x3.1 == 41
 let x5 := c.2.1.2.2.2.2.2.2.2.1.2.2.2
 let x6 := x5.2
 let x7 : QT0 := (c, s == 5, g, (41, x3.2), [])
 let x8 := ZCs (ZcE x7 2)
 .br (Zd s) (.leaf (some ((c.1, (rgx c.2.1 c.2.1.2.2.2.2.2.2.2.1 (u16.wrap ((spOf c) - 2)) (Zq s)), c.2.2)))) (.br (!x4 || x2) (.br (x4) (.leaf (some ((c.1, ZL (rgx c.2.1 ((c.2.1.2.2.2.2.2.2.2.1.1, c.2.1.2.2.2.2.2.2.2.1.2.1, c.2.1.2.2.2.2.2.2.2.1.2.2.1, x5.1, x6.1, x6.2.1, x8.2)) (spOf c) (Zr x7)) 2 x8.1, c.2.2.1, false, false, c.2.2.2.2.2)))) (.leaf none)) (.leaf none))
theorem Zwk (a : HL Zh) : Zo (envX Tryz.prog (Zaf 41) [] 1023 8) Tryz.f111 Zh ZN a = ZmU a.1 a.2.1 a.2.2.1 a.2.2.2 := by kernel_rfl
def ZmQ (c : TC) (s : Int) (g : List Int) (ln : QT1) : RT (Option TC) :=
 let x1 := u16.wrap ((spOf c) - 2)
 let x2 : QT0 := (c, s == 5, g, (0, 0, 0, 0, 0, 0, 0, 0), [])
 let x3 := qAtC x2 0
 let x4 := Zb c.1 (qAt x2 0)
 let x5 := !x3 || x4.1 == 45
 let x6 : QT0 := (c, s == 5, g, (45, x4.2), [])
 let x7 := ZeY x6
 .br (Zd s) (.leaf (some ((c.1, (rgx c.2.1 c.2.1.2.2.2.2.2.2.2.1 x1 (Zq s)), c.2.2)))) (.br (!x5 || x3) (.br (x5) (.leaf (some ((c.1, (rgx c.2.1 c.2.1.2.2.2.2.2.2.2.1 (bif x7 then x1 else (spOf c)) (bif x7 then 64 else Zr x6)), c.2.2.1, false, false, c.2.2.2.2.2)))) (.leaf none)) (.leaf none))
theorem Zwg (a : HL Zh) : Zo (envX Tryz.prog (Zaf 45) [] 1023 8) Tryz.f111 Zh ZN a = ZmQ a.1 a.2.1 a.2.2.1 a.2.2.2 := by kernel_rfl
def Zsm (c : TC) (s : Int) (g : List Int) (ln : QT1) : RT (Option TC) :=
 let x1 : QT0 := (c, s == 5, g, (0, 0, 0, 0, 0, 0, 0, 0), [])
 let x2 := qAtC x1 0
 let x3 := Zb c.1 (qAt x1 0)
 let x4 := !x2 || x3.1 == 2
 let x5 := x3.2
 let x6 := x5.2
 let x7 := x6.2.1
 let x8 := x7 == 6
 let x9 : QT0 := (c, s == 5, g, (2, x5), [])
 .br (Zd s) (.leaf (some ((c.1, (rgx c.2.1 c.2.1.2.2.2.2.2.2.2.1 (u16.wrap ((spOf c) - 2)) (Zq s)), c.2.2)))) (.br (!x4 || x2) (.br (x4) (.br (!x8 || qAtC x9 1) (.leaf (some ((c.1, rSet (rgx c.2.1 c.2.1.2.2.2.2.2.2.2.1 (spOf c) (Zr x9)) x6.1 (bif x8 then qAt x9 1 else qReg x9 x7), c.2.2.1, false, false, c.2.2.2.2.2)))) (.leaf none)) (.leaf none)) (.leaf none))
theorem Zz0 (a : HL Zh) : Zo (envX Tryz.prog (Zaf 2) [] 1023 8) Tryz.f111 Zh ZN a = Zsm a.1 a.2.1 a.2.2.1 a.2.2.2 := by kernel_rfl
def Zsi (c : TC) (s : Int) (g : List Int) (ln : QT1) : RT (Option TC) :=
 let x1 : QT0 := (c, s == 5, g, (0, 0, 0, 0, 0, 0, 0, 0), [])
 let x2 := qAtC x1 0
 let x3 := Zb c.1 (qAt x1 0)
 let x4 := !x2 || x3.1 == 6
 .br (Zd s) (.leaf (some ((c.1, (rgx c.2.1 c.2.1.2.2.2.2.2.2.2.1 (u16.wrap ((spOf c) - 2)) (Zq s)), c.2.2)))) (.br (!x4 || x2) (.br (x4) (.leaf (some ((c.1, (rgx c.2.1 c.2.1.2.2.2.2.2.2.2.1 (spOf c) (Zr (c, s == 5, g, (6, x3.2), []))), c.2.2.1, false, false, c.2.2.2.2.2)))) (.leaf none)) (.leaf none))
theorem ZzW (a : HL Zh) : Zo (envX Tryz.prog (Zaf 6) [] 1023 8) Tryz.f111 Zh ZN a = Zsi a.1 a.2.1 a.2.2.1 a.2.2.2 := by kernel_rfl
def Znp (c : TC) (s : Int) (g : List Int) (ln : QT1) : RT (Option TC) :=
 let x1 : QT0 := (c, s == 5, g, (0, 0, 0, 0, 0, 0, 0, 0), [])
 let x2 := qAtC x1 0
 let x3 := Zb c.1 (qAt x1 0)
 let x4 := !x2 || x3.1 == 10
 .br (Zd s) (.leaf (some ((c.1, (rgx c.2.1 c.2.1.2.2.2.2.2.2.2.1 (u16.wrap ((spOf c) - 2)) (Zq s)), c.2.2)))) (.br (!x4 || x2) (.br (x4) (.leaf (some ((c.1, (rgx c.2.1 c.2.1.2.2.2.2.2.2.2.1 (spOf c) (Zr (c, s == 5, g, (10, x3.2), []))), c.2.2.1, false, false, c.2.2.2.2.2)))) (.leaf none)) (.leaf none))
theorem ZwP (a : HL Zh) : Zo (envX Tryz.prog (Zaf 10) [] 1023 8) Tryz.f111 Zh ZN a = Znp a.1 a.2.1 a.2.2.1 a.2.2.2 := by kernel_rfl
def Znl (c : TC) (s : Int) (g : List Int) (ln : QT1) : RT (Option TC) :=
 let x1 : QT0 := (c, s == 5, g, (0, 0, 0, 0, 0, 0, 0, 0), [])
 let x2 := qAtC x1 0
 let x3 := Zb c.1 (qAt x1 0)
 let x4 := !x2 || x3.1 == 14
 let x5 := x3.2
 let x6 := x5.2.1
 let x7 := x6 == 6
 let x8 : QT0 := (c, s == 5, g, (14, x5), [])
 let x9 := rInr c.1 (bif x7 then qAt x8 1 else qReg x8 x6) c.2.1.2.2.2.2.2.2.2.1
 .br (Zd s) (.leaf (some ((c.1, (rgx c.2.1 c.2.1.2.2.2.2.2.2.2.1 (u16.wrap ((spOf c) - 2)) (Zq s)), c.2.2)))) (.br (!x4 || x2) (.br (x4) (.br (!x7 || qAtC x8 1) (.leaf (some ((c.1, rSet (rgx c.2.1 x9.2 (spOf c) (Zr x8)) x6 x9.1, c.2.2.1, false, false, c.2.2.2.2.2)))) (.leaf none)) (.leaf none)) (.leaf none))
theorem ZwL (a : HL Zh) : Zo (envX Tryz.prog (Zaf 14) [] 1023 8) Tryz.f111 Zh ZN a = Znl a.1 a.2.1 a.2.2.1 a.2.2.2 := by kernel_rfl
def Znh (c : TC) (s : Int) (g : List Int) (ln : QT1) : RT (Option TC) :=
 let x1 : QT0 := (c, s == 5, g, (0, 0, 0, 0, 0, 0, 0, 0), [])
 let x2 := qAtC x1 0
 let x3 := Zb c.1 (qAt x1 0)
 let x4 := !x2 || x3.1 == 18
 let x5 := x3.2
 let x6 : QT0 := (c, s == 5, g, (18, x5), [])
 let x7 := rDad c.1 (ZcE x6 2) (ZcE x6 x5.2.2.2.1) c.2.1.2.2.2.2.2.2.2.1
 .br (Zd s) (.leaf (some ((c.1, (rgx c.2.1 c.2.1.2.2.2.2.2.2.2.1 (u16.wrap ((spOf c) - 2)) (Zq s)), c.2.2)))) (.br (!x4 || x2) (.br (x4) (.leaf (some ((c.1, ZL (rgx c.2.1 x7.2 (spOf c) (Zr x6)) 2 x7.1, c.2.2.1, false, false, c.2.2.2.2.2)))) (.leaf none)) (.leaf none))
theorem ZwH (a : HL Zh) : Zo (envX Tryz.prog (Zaf 18) [] 1023 8) Tryz.f111 Zh ZN a = Znh a.1 a.2.1 a.2.2.1 a.2.2.2 := by kernel_rfl
def Znd (c : TC) (s : Int) (g : List Int) (ln : QT1) : RT (Option TC) :=
 let x1 : QT0 := (c, s == 5, g, (0, 0, 0, 0, 0, 0, 0, 0), [])
 let x2 := qAtC x1 0
 let x3 := Zb c.1 (qAt x1 0)
 let x4 := !x2 || x3.1 == 22
 let x5 := c.2.1.2.2.2.2.2.2.2.1.2.2.2
 let x6 := x5.2
 let x7 := x6.2
 .br (Zd s) (.leaf (some ((c.1, (rgx c.2.1 c.2.1.2.2.2.2.2.2.2.1 (u16.wrap ((spOf c) - 2)) (Zq s)), c.2.2)))) (.br (!x4 || x2) (.br (x4) (.leaf (some ((c.1, (rgx c.2.1 ((c.2.1.2.2.2.2.2.2.2.1.1, c.2.1.2.2.2.2.2.2.2.1.2.1, c.2.1.2.2.2.2.2.2.2.1.2.2.1, x5.1, x6.1, x7.1, !x7.2)) (spOf c) (Zr (c, s == 5, g, (22, x3.2), []))), c.2.2.1, false, false, c.2.2.2.2.2)))) (.leaf none)) (.leaf none))
theorem ZwD (a : HL Zh) : Zo (envX Tryz.prog (Zaf 22) [] 1023 8) Tryz.f111 Zh ZN a = Znd a.1 a.2.1 a.2.2.1 a.2.2.2 := by kernel_rfl
def Zm9 (c : TC) (s : Int) (g : List Int) (ln : QT1) : RT (Option TC) :=
 let x1 : QT0 := (c, s == 5, g, (0, 0, 0, 0, 0, 0, 0, 0), [])
 let x2 := qAtC x1 0
 let x3 := Zb c.1 (qAt x1 0)
 let x4 := !x2 || x3.1 == 26
 let x5 : QT0 := (c, s == 5, g, (26, x3.2), [])
 let x6 := ZeY x5
 .br (Zd s) (.leaf (some ((c.1, (rgx c.2.1 c.2.1.2.2.2.2.2.2.2.1 (u16.wrap ((spOf c) - 2)) (Zq s)), c.2.2)))) (.br (!x4 || x2) (.br (x4) (.br (!x6 || ZbI x5 1) (.leaf (some ((c.1, (rgx c.2.1 c.2.1.2.2.2.2.2.2.2.1 (bif x6 then u16.wrap ((spOf c) + 2) else (spOf c)) (bif x6 then Zea x5 1 else Zr x5)), c.2.2.1, false, false, c.2.2.2.2.2)))) (.leaf none)) (.leaf none)) (.leaf none))
theorem Zwz (a : HL Zh) : Zo (envX Tryz.prog (Zaf 26) [] 1023 8) Tryz.f111 Zh ZN a = Zm9 a.1 a.2.1 a.2.2.1 a.2.2.2 := by kernel_rfl
def Zm5 (c : TC) (s : Int) (g : List Int) (ln : QT1) : RT (Option TC) :=
 let x1 := u16.wrap ((spOf c) - 2)
 let x2 : QT0 := (c, s == 5, g, (0, 0, 0, 0, 0, 0, 0, 0), [])
 let x3 := qAtC x2 0
 let x4 := Zb c.1 (qAt x2 0)
 let x5 := !x3 || x4.1 == 30
 .br (Zd s) (.leaf (some ((c.1, (rgx c.2.1 c.2.1.2.2.2.2.2.2.2.1 x1 (Zq s)), c.2.2)))) (.br (!x5 || x3) (.br (x5) (.leaf (some ((c.1, (rgx c.2.1 c.2.1.2.2.2.2.2.2.2.1 x1 (Zr (c, s == 5, g, (30, x4.2), []))), c.2.2.1, false, false, c.2.2.2.2.2)))) (.leaf none)) (.leaf none))
theorem Zwv (a : HL Zh) : Zo (envX Tryz.prog (Zaf 30) [] 1023 8) Tryz.f111 Zh ZN a = Zm5 a.1 a.2.1 a.2.2.1 a.2.2.2 := by kernel_rfl
def Zm1 (c : TC) (s : Int) (g : List Int) (ln : QT1) : RT (Option TC) :=
 let x1 : QT0 := (c, s == 5, g, (0, 0, 0, 0, 0, 0, 0, 0), [])
 let x2 := qAtC x1 0
 let x3 := Zb c.1 (qAt x1 0)
 let x4 := !x2 || x3.1 == 34
 .br (Zd s) (.leaf (some ((c.1, (rgx c.2.1 c.2.1.2.2.2.2.2.2.2.1 (u16.wrap ((spOf c) - 2)) (Zq s)), c.2.2)))) (.br (!x4 || x2) (.br (x4) (.leaf (some ((c.1, (rgx c.2.1 c.2.1.2.2.2.2.2.2.2.1 (spOf c) (Zr (c, s == 5, g, (34, x3.2), []))), c.2.2.1, false, false, c.2.2.2.2.2)))) (.leaf none)) (.leaf none))
theorem Zwr (a : HL Zh) : Zo (envX Tryz.prog (Zaf 34) [] 1023 8) Tryz.f111 Zh ZN a = Zm1 a.1 a.2.1 a.2.2.1 a.2.2.2 := by kernel_rfl
def ZmX (c : TC) (s : Int) (g : List Int) (ln : QT1) : RT (Option TC) :=
 let x1 : QT0 := (c, s == 5, g, (0, 0, 0, 0, 0, 0, 0, 0), [])
 let x2 := qAtC x1 0
 let x3 := Zb c.1 (qAt x1 0)
 let x4 := !x2 || x3.1 == 38
 let x5 := rRim (c.1, (rgx c.2.1 c.2.1.2.2.2.2.2.2.2.1 (spOf c) (Zr (c, s == 5, g, (38, x3.2), []))), c.2.2.1, 38 == 35, 38 == 37, c.2.2.2.2.2) ln
 let x6 := x5.2
 let x7 := x6.2
 let x8 := x7.2
 let x9 := x8.2.2.2
 let x10 := x9.2
 let x11 := x10.2
 let x12 := x11.2
 let x13 := x12.2
 .br (Zd s) (.leaf (some ((c.1, (rgx c.2.1 c.2.1.2.2.2.2.2.2.2.1 (u16.wrap ((spOf c) - 2)) (Zq s)), c.2.2)))) (.br (!x4 || x2) (.br (x4) (.leaf (some ((x6.1, (x5.1, x7.1.2), x8.1, false, false, x9.1, x10.1, x11.1, x12.1, x13.1, false, false, x13.2.2.2)))) (.leaf none)) (.leaf none))
theorem Zwn (a : HL Zh) : Zo (envX Tryz.prog (Zaf 38) [] 1023 8) Tryz.f111 Zh ZN a = ZmX a.1 a.2.1 a.2.2.1 a.2.2.2 := by kernel_rfl
def ZmT (c : TC) (s : Int) (g : List Int) (ln : QT1) : RT (Option TC) :=
 let x1 : QT0 := (c, s == 5, g, (0, 0, 0, 0, 0, 0, 0, 0), [])
 let x2 := qAtC x1 0
 let x3 := Zb c.1 (qAt x1 0)
 let x4 := !x2 || x3.1 == 42
 let x5 := c.2.1.2.2.2.2.2.2.2.1.2.2.2
 let x6 := x5.2
 let x7 : QT0 := (c, s == 5, g, (42, x3.2), [])
 let x8 := Zym (ZcE x7 1) x6.2.2
 let x9 := x8.2
 .br (Zd s) (.leaf (some ((c.1, (rgx c.2.1 c.2.1.2.2.2.2.2.2.2.1 (u16.wrap ((spOf c) - 2)) (Zq s)), c.2.2)))) (.br (!x4 || x2) (.br (x4) (.leaf (some ((c.1, ZL (rgx c.2.1 ((c.2.1.2.2.2.2.2.2.2.1.1, c.2.1.2.2.2.2.2.2.2.1.2.1, c.2.1.2.2.2.2.2.2.2.1.2.2.1, x5.1, x6.1, x9.2, x9.1)) (spOf c) (Zr x7)) 1 x8.1, c.2.2.1, false, false, c.2.2.2.2.2)))) (.leaf none)) (.leaf none))
theorem Zwj (a : HL Zh) : Zo (envX Tryz.prog (Zaf 42) [] 1023 8) Tryz.f111 Zh ZN a = ZmT a.1 a.2.1 a.2.2.1 a.2.2.2 := by kernel_rfl
def ZmP (c : TC) (s : Int) (g : List Int) (ln : QT1) : RT (Option TC) :=
 let x1 : QT0 := (c, s == 5, g, (0, 0, 0, 0, 0, 0, 0, 0), [])
 let x2 := qAtC x1 0
 let x3 := Zb c.1 (qAt x1 0)
 let x4 := !x2 || x3.1 == 46
 .br (Zd s) (.leaf (some ((c.1, (rgx c.2.1 c.2.1.2.2.2.2.2.2.2.1 (u16.wrap ((spOf c) - 2)) (Zq s)), c.2.2)))) (.br (!x4 || x2) (.br (x4) (.leaf (some ((c.1, (rgx c.2.1 c.2.1.2.2.2.2.2.2.2.1 (spOf c) (Zr (c, s == 5, g, (46, x3.2), []))), c.2.2.1, false, false, c.2.2.2.2.2)))) (.leaf none)) (.leaf none))
theorem Zwf (a : HL Zh) : Zo (envX Tryz.prog (Zaf 46) [] 1023 8) Tryz.f111 Zh ZN a = ZmP a.1 a.2.1 a.2.2.1 a.2.2.2 := by kernel_rfl
def Zsl (c : TC) (s : Int) (g : List Int) (ln : QT1) : RT (Option TC) :=
 let x1 : QT0 := (c, s == 5, g, (0, 0, 0, 0, 0, 0, 0, 0), [])
 let x2 := qAtC x1 0
 let x3 := Zb c.1 (qAt x1 0)
 let x4 := !x2 || x3.1 == 3
 let x5 := x3.2
 let x6 : QT0 := (c, s == 5, g, (3, x5), [])
 .br (Zd s) (.leaf (some ((c.1, (rgx c.2.1 c.2.1.2.2.2.2.2.2.2.1 (u16.wrap ((spOf c) - 2)) (Zq s)), c.2.2)))) (.br (!x4 || x2) (.br (x4) (.br (qAtC x6 1) (.leaf (some ((c.1, rSet (rgx c.2.1 c.2.1.2.2.2.2.2.2.2.1 (spOf c) (Zr x6)) x5.2.1 (qAt x6 1), c.2.2.1, false, false, c.2.2.2.2.2)))) (.leaf none)) (.leaf none)) (.leaf none))
theorem ZzZ (a : HL Zh) : Zo (envX Tryz.prog (Zaf 3) [] 1023 8) Tryz.f111 Zh ZN a = Zsl a.1 a.2.1 a.2.2.1 a.2.2.2 := by kernel_rfl
def Zsh (c : TC) (s : Int) (g : List Int) (ln : QT1) : RT (Option TC) :=
 let x1 : QT0 := (c, s == 5, g, (0, 0, 0, 0, 0, 0, 0, 0), [])
 let x2 := qAtC x1 0
 let x3 := Zb c.1 (qAt x1 0)
 let x4 := !x2 || x3.1 == 7
 let x5 : QT0 := (c, s == 5, g, (7, x3.2), [])
 .br (Zd s) (.leaf (some ((c.1, (rgx c.2.1 c.2.1.2.2.2.2.2.2.2.1 (u16.wrap ((spOf c) - 2)) (Zq s)), c.2.2)))) (.br (!x4 || x2) (.br (x4) (.br (ZbI x5 3) (.leaf (some ((c.1, ZL (rgx c.2.1 c.2.1.2.2.2.2.2.2.2.1 (spOf c) (Zr x5)) 2 (Zea x5 3), c.2.2.1, false, false, c.2.2.2.2.2)))) (.leaf none)) (.leaf none)) (.leaf none))
theorem ZzV (a : HL Zh) : Zo (envX Tryz.prog (Zaf 7) [] 1023 8) Tryz.f111 Zh ZN a = Zsh a.1 a.2.1 a.2.2.1 a.2.2.2 := by kernel_rfl
def Zno (c : TC) (s : Int) (g : List Int) (ln : QT1) : RT (Option TC) :=
 let x1 : QT0 := (c, s == 5, g, (0, 0, 0, 0, 0, 0, 0, 0), [])
 let x2 := qAtC x1 0
 let x3 := Zb c.1 (qAt x1 0)
 let x4 := !x2 || x3.1 == 11
 .br (Zd s) (.leaf (some ((c.1, (rgx c.2.1 c.2.1.2.2.2.2.2.2.2.1 (u16.wrap ((spOf c) - 2)) (Zq s)), c.2.2)))) (.br (!x4 || x2) (.br (x4) (.leaf (some ((c.1, (c.2.1.1, c.2.1.2.1, c.2.1.2.2.1, c.2.1.2.2.2.2.2.1, c.2.1.2.2.2.2.2.2.1, c.2.1.2.2.2.1, c.2.1.2.2.2.2.1, c.2.1.2.2.2.2.2.2.2.1, spOf c, Zr (c, s == 5, g, (11, x3.2), [])), c.2.2.1, false, false, c.2.2.2.2.2)))) (.leaf none)) (.leaf none))
theorem ZwO (a : HL Zh) : Zo (envX Tryz.prog (Zaf 11) [] 1023 8) Tryz.f111 Zh ZN a = Zno a.1 a.2.1 a.2.2.1 a.2.2.2 := by kernel_rfl
def Znk (c : TC) (s : Int) (g : List Int) (ln : QT1) : RT (Option TC) :=
 let x1 : QT0 := (c, s == 5, g, (0, 0, 0, 0, 0, 0, 0, 0), [])
 let x2 := qAtC x1 0
 let x3 := Zb c.1 (qAt x1 0)
 let x4 := !x2 || x3.1 == 15
 let x5 := x3.2
 let x6 := x5.2.1
 let x7 := x6 == 6
 let x8 : QT0 := (c, s == 5, g, (15, x5), [])
 let x9 := rDcr c.1 (bif x7 then qAt x8 1 else qReg x8 x6) c.2.1.2.2.2.2.2.2.2.1
 .br (Zd s) (.leaf (some ((c.1, (rgx c.2.1 c.2.1.2.2.2.2.2.2.2.1 (u16.wrap ((spOf c) - 2)) (Zq s)), c.2.2)))) (.br (!x4 || x2) (.br (x4) (.br (!x7 || qAtC x8 1) (.leaf (some ((c.1, rSet (rgx c.2.1 x9.2 (spOf c) (Zr x8)) x6 x9.1, c.2.2.1, false, false, c.2.2.2.2.2)))) (.leaf none)) (.leaf none)) (.leaf none))
theorem ZwK (a : HL Zh) : Zo (envX Tryz.prog (Zaf 15) [] 1023 8) Tryz.f111 Zh ZN a = Znk a.1 a.2.1 a.2.2.1 a.2.2.2 := by kernel_rfl
def Zng (c : TC) (s : Int) (g : List Int) (ln : QT1) : RT (Option TC) :=
 let x1 : QT0 := (c, s == 5, g, (0, 0, 0, 0, 0, 0, 0, 0), [])
 let x2 := qAtC x1 0
 let x3 := Zb c.1 (qAt x1 0)
 let x4 := !x2 || x3.1 == 19
 let x5 := rDaa c.1 c.2.1.1 c.2.1.2.2.2.2.2.2.2.1
 .br (Zd s) (.leaf (some ((c.1, (rgx c.2.1 c.2.1.2.2.2.2.2.2.2.1 (u16.wrap ((spOf c) - 2)) (Zq s)), c.2.2)))) (.br (!x4 || x2) (.br (x4) (.leaf (some ((c.1, (x5.1, c.2.1.2.1, c.2.1.2.2.1, c.2.1.2.2.2.1, c.2.1.2.2.2.2.1, c.2.1.2.2.2.2.2.1, c.2.1.2.2.2.2.2.2.1, x5.2, spOf c, Zr (c, s == 5, g, (19, x3.2), [])), c.2.2.1, false, false, c.2.2.2.2.2)))) (.leaf none)) (.leaf none))
theorem ZwG (a : HL Zh) : Zo (envX Tryz.prog (Zaf 19) [] 1023 8) Tryz.f111 Zh ZN a = Zng a.1 a.2.1 a.2.2.1 a.2.2.2 := by kernel_rfl
def Znc (c : TC) (s : Int) (g : List Int) (ln : QT1) : RT (Option TC) :=
 let x1 : QT0 := (c, s == 5, g, (0, 0, 0, 0, 0, 0, 0, 0), [])
 let x2 := qAtC x1 0
 let x3 := Zb c.1 (qAt x1 0)
 let x4 := !x2 || x3.1 == 23
 let x5 := x3.2
 let x6 := c.2.1.2.2.2.2.2.2.2.1.2.2.2
 let x7 := x6.2
 let x8 := x7.2
 let x9 := rRot x5.2.2.2.2.1 c.2.1.1 x8.2
 .br (Zd s) (.leaf (some ((c.1, (rgx c.2.1 c.2.1.2.2.2.2.2.2.2.1 (u16.wrap ((spOf c) - 2)) (Zq s)), c.2.2)))) (.br (!x4 || x2) (.br (x4) (.leaf (some ((c.1, (x9.1, c.2.1.2.1, c.2.1.2.2.1, c.2.1.2.2.2.1, c.2.1.2.2.2.2.1, c.2.1.2.2.2.2.2.1, c.2.1.2.2.2.2.2.2.1, (c.2.1.2.2.2.2.2.2.2.1.1, c.2.1.2.2.2.2.2.2.2.1.2.1, c.2.1.2.2.2.2.2.2.2.1.2.2.1, x6.1, x7.1, x8.1, x9.2), spOf c, Zr (c, s == 5, g, (23, x5), [])), c.2.2.1, false, false, c.2.2.2.2.2)))) (.leaf none)) (.leaf none))
theorem ZwC (a : HL Zh) : Zo (envX Tryz.prog (Zaf 23) [] 1023 8) Tryz.f111 Zh ZN a = Znc a.1 a.2.1 a.2.2.1 a.2.2.2 := by kernel_rfl
def Zm8 (c : TC) (s : Int) (g : List Int) (ln : QT1) : RT (Option TC) :=
 let x1 := u16.wrap ((spOf c) - 2)
 let x2 : QT0 := (c, s == 5, g, (0, 0, 0, 0, 0, 0, 0, 0), [])
 let x3 := qAtC x2 0
 let x4 := Zb c.1 (qAt x2 0)
 let x5 := !x3 || x4.1 == 27
 .br (Zd s) (.leaf (some ((c.1, (rgx c.2.1 c.2.1.2.2.2.2.2.2.2.1 x1 (Zq s)), c.2.2)))) (.br (!x5 || x3) (.br (x5) (.leaf (some ((c.1, (rgx c.2.1 c.2.1.2.2.2.2.2.2.2.1 x1 (u16.wrap (i64.wrap (8 * x4.2.2.2.2.2.2.2)))), c.2.2.1, false, false, c.2.2.2.2.2)))) (.leaf none)) (.leaf none))
theorem Zwy (a : HL Zh) : Zo (envX Tryz.prog (Zaf 27) [] 1023 8) Tryz.f111 Zh ZN a = Zm8 a.1 a.2.1 a.2.2.1 a.2.2.2 := by kernel_rfl
def Zm4 (c : TC) (s : Int) (g : List Int) (ln : QT1) : RT (Option TC) :=
 let x1 : QT0 := (c, s == 5, g, (0, 0, 0, 0, 0, 0, 0, 0), [])
 let x2 := qAtC x1 0
 let x3 := Zb c.1 (qAt x1 0)
 let x4 := !x2 || x3.1 == 31
 let x5 := x3.2
 let x6 := x5.2.2.2.1
 let x7 := x6 == 3
 let x8 : QT0 := (c, s == 5, g, (31, x5), [])
 let x9 := ZbI x8 1
 let x10 := !x7 || x9
 let x11 := !x10 || (x7 || x9)
 let x12 := !x11 || x10
 let x13 := !x12 || x11
 let x14 : TR := (rgx c.2.1 c.2.1.2.2.2.2.2.2.2.1 (spOf c) (Zr x8))
 let x15 := Zea x8 1
 let x16 := Zir c.1 x14 x15
 let x17 := ZL x14 x6 x15
 let x18 := x16.2
 let x19 := x17.2
 let x20 := x18.2
 let x21 := x19.2
 let x22 := x20.2
 let x23 := x21.2
 let x24 := x22.2
 let x25 := x23.2
 let x26 := x24.2
 let x27 := x25.2
 let x28 := x26.2
 let x29 := x27.2
 let x30 := x28.2
 let x31 := x30.1
 let x32 := x29.2
 let x33 := x32.1
 let x34 := x31.2
 let x35 := x33.2
 let x36 := x34.2
 let x37 := x35.2
 let x38 := x36.2
 let x39 := x37.2
 let x40 := x38.2
 let x41 := x39.2
 let x42 := x40.2
 let x43 := x41.2
 let x44 := x30.2
 let x45 := x32.2
 .br (Zd s) (.leaf (some ((c.1, (rgx c.2.1 c.2.1.2.2.2.2.2.2.2.1 (u16.wrap ((spOf c) - 2)) (Zq s)), c.2.2)))) (.br (!x4 || x2) (.br (x4) (.br (!x13 || x12) (.br (x13) (.leaf (some ((c.1, (bif x7 then x16.1 else x17.1, bif x7 then x18.1 else x19.1, bif x7 then x20.1 else x21.1, bif x7 then x22.1 else x23.1, bif x7 then x24.1 else x25.1, bif x7 then x26.1 else x27.1, bif x7 then x28.1 else x29.1, (bif x7 then x31.1 else x33.1, bif x7 then x34.1 else x35.1, bif x7 then x36.1 else x37.1, bif x7 then x38.1 else x39.1, bif x7 then x40.1 else x41.1, bif x7 then x42.1 else x43.1, bif x7 then x42.2 else x43.2), u16.wrap ((bif x7 then x44.1 else x45.1) + 2), bif x7 then x44.2 else x45.2), c.2.2.1, false, false, c.2.2.2.2.2)))) (.leaf none)) (.leaf none)) (.leaf none)) (.leaf none))
theorem Zwu (a : HL Zh) : Zo (envX Tryz.prog (Zaf 31) [] 1023 8) Tryz.f111 Zh ZN a = Zm4 a.1 a.2.1 a.2.2.1 a.2.2.2 := by kernel_rfl
def Zm0 (c : TC) (s : Int) (g : List Int) (ln : QT1) : RT (Option TC) :=
 let x1 : QT0 := (c, s == 5, g, (0, 0, 0, 0, 0, 0, 0, 0), [])
 let x2 := qAtC x1 0
 let x3 := Zb c.1 (qAt x1 0)
 let x4 := !x2 || x3.1 == 35
 .br (Zd s) (.leaf (some ((c.1, (rgx c.2.1 c.2.1.2.2.2.2.2.2.2.1 (u16.wrap ((spOf c) - 2)) (Zq s)), c.2.2)))) (.br (!x4 || x2) (.br (x4) (.leaf (some ((c.1, (rgx c.2.1 c.2.1.2.2.2.2.2.2.2.1 (spOf c) (Zr (c, s == 5, g, (35, x3.2), []))), true, true, false, c.2.2.2.2.2)))) (.leaf none)) (.leaf none))
theorem Zwq (a : HL Zh) : Zo (envX Tryz.prog (Zaf 35) [] 1023 8) Tryz.f111 Zh ZN a = Zm0 a.1 a.2.1 a.2.2.1 a.2.2.2 := by kernel_rfl
def ZmW (c : TC) (s : Int) (g : List Int) (ln : QT1) : RT (Option TC) :=
 let x1 : QT0 := (c, s == 5, g, (0, 0, 0, 0, 0, 0, 0, 0), [])
 let x2 := qAtC x1 0
 let x3 := Zb c.1 (qAt x1 0)
 let x4 := !x2 || x3.1 == 39
 let x5 := rSim (c.1, (rgx c.2.1 c.2.1.2.2.2.2.2.2.2.1 (spOf c) (Zr (c, s == 5, g, (39, x3.2), []))), c.2.2.1, 39 == 35, 39 == 37, c.2.2.2.2.2) c.2.1.1
 let x6 := x5.2
 let x7 := x6.2
 .br (Zd s) (.leaf (some ((c.1, (rgx c.2.1 c.2.1.2.2.2.2.2.2.2.1 (u16.wrap ((spOf c) - 2)) (Zq s)), c.2.2)))) (.br (!x4 || x2) (.br (x4) (.leaf (some ((x5.1, x6.1, x7.1, false, false, x7.2.2.2)))) (.leaf none)) (.leaf none))
theorem Zwm (a : HL Zh) : Zo (envX Tryz.prog (Zaf 39) [] 1023 8) Tryz.f111 Zh ZN a = ZmW a.1 a.2.1 a.2.2.1 a.2.2.2 := by kernel_rfl
def ZmS (c : TC) (s : Int) (g : List Int) (ln : QT1) : RT (Option TC) :=
 let x1 : QT0 := (c, s == 5, g, (0, 0, 0, 0, 0, 0, 0, 0), [])
 let x2 := qAtC x1 0
 let x3 := Zb c.1 (qAt x1 0)
 let x4 := !x2 || x3.1 == 43
 let x5 : QT0 := (c, s == 5, g, (43, x3.2), [])
 .br (Zd s) (.leaf (some ((c.1, (rgx c.2.1 c.2.1.2.2.2.2.2.2.2.1 (u16.wrap ((spOf c) - 2)) (Zq s)), c.2.2)))) (.br (!x4 || x2) (.br (x4) (.br (qAtC x5 1) (.leaf (some ((c.1, ZL (rgx c.2.1 c.2.1.2.2.2.2.2.2.2.1 (spOf c) (Zr x5)) 1 (u16.wrap (ZcE x5 2 + u16.wrap (qAt x5 1))), c.2.2.1, false, false, c.2.2.2.2.2)))) (.leaf none)) (.leaf none)) (.leaf none))
theorem Zwi (a : HL Zh) : Zo (envX Tryz.prog (Zaf 43) [] 1023 8) Tryz.f111 Zh ZN a = ZmS a.1 a.2.1 a.2.2.1 a.2.2.2 := by kernel_rfl
def ZmO (c : TC) (s : Int) (g : List Int) (ln : QT1) : RT (Option TC) :=
 let x1 : QT0 := (c, s == 5, g, (0, 0, 0, 0, 0, 0, 0, 0), [])
 let x2 := qAtC x1 0
 let x3 := Zb c.1 (qAt x1 0)
 let x4 := !x2 || x3.1 == 47
 let x5 : QT0 := (c, s == 5, g, (47, x3.2), [])
 .br (Zd s) (.leaf (some ((c.1, (rgx c.2.1 c.2.1.2.2.2.2.2.2.2.1 (u16.wrap ((spOf c) - 2)) (Zq s)), c.2.2)))) (.br (!x4 || x2) (.br (x4) (.br (ZbI x5 1) (.leaf (some ((c.1, ZL (rgx c.2.1 c.2.1.2.2.2.2.2.2.2.1 (spOf c) (Zr x5)) 2 (Zea x5 1), c.2.2.1, false, false, c.2.2.2.2.2)))) (.leaf none)) (.leaf none)) (.leaf none))
theorem Zwe (a : HL Zh) : Zo (envX Tryz.prog (Zaf 47) [] 1023 8) Tryz.f111 Zh ZN a = ZmO a.1 a.2.1 a.2.2.1 a.2.2.2 := by kernel_rfl
end
end Go.Proofs.YtghoimllhpjkjaaGreat
