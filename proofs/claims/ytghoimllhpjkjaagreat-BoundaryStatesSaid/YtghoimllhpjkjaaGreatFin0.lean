/-
  Contracts of functions; each found by the symbolic executor and checked by the kernel. Conditions: none.
-/
import Derived.Test.YtghoimllhpjkjaaGreatS3D
import Derived.Test.YtghoimllhpjkjaaGreatProg
import Derived.Test.YtghoimllhpjkjaaGreatNext2
import Derived.Test.YtghoimllhpjkjaaGreatPinsEq
open Go.IntKind (u8 u16 i64)
set_option linter.unusedSimpArgs false
open Go Go.S3 Go.Proofs
set_option linter.unusedVariables false
set_option maxRecDepth 100000
namespace Go.Proofs.YtghoimllhpjkjaaGreat
noncomputable section
def ZpH (c : TC) (s : Int) (g : List Int) : RT (Option (TY × Bool)) :=
 let x1 : QT1 := (c, s == 5, g, (0, 0, 0, 0, 0, 0, 0, 0), [])
 let x2 := qAtC x1 0
 let x3 := Za c.1 (qAt x1 0)
 let x4 := !x2 || x3.1 == 3
 let x5 := x3.2
 let x6 := x5.2.1 == 6
 let x7 : QT4 := (3, x5)
 let x8 : QT6 := ((pcOf c), 0, 4)
 let x9 : List TY := [] ++ [(1, x8)]
 let x10 : List TY := bif s == 5 then x9 ++ [(9, pcOf c, 0, 3)] else x9 ++ [(2, u16.wrap ((pcOf c) + u16.wrap 1), 0, 3)]
 let x11 : QT1 := (c, s == 5, g, x7, x10)
 let x12 : List TY := [] ++ [(12, pcOf c, 0, 6)] ++ [(5, u16.wrap ((spOf c) - 1), u8.wrap (shrI u16 (pcOf c) 8), 3)] ++ [(5, u16.wrap ((spOf c) - 2), u8.wrap (pcOf c), 3)]
 let x14 : List TY := [] ++ [(bif s == 5 then 8 else 1, x8)]
 let x16 : List TY := bif x6 then x10 ++ [(3, Zdb (c, s == 5, g, x7, x9) 2, qAt x11 1, 3)] else x10
 .br (!x4 || x2) (.br (x4) (.br (Zd s || (iN (List.length g) == 0 || (!x6 || qAtC x11 1))) (.br (Zd s) (fin3 g x12) (.br (iN (List.length g) == 0) (fin3 g x14) (fin3 g x16))) (.leaf none)) (.leaf none)) (.leaf none)
theorem ZAW (a : HL Zj) : Zg (envX Tryz.prog (ZW 3) [] 1125900980585471 8) Tryz.f113 Zj ZE a = ZpH a.1 a.2.1 a.2.2 := by kernel_rfl
def ZpD (c : TC) (s : Int) (g : List Int) : RT (Option (TY × Bool)) :=
 let x1 : QT1 := (c, s == 5, g, (0, 0, 0, 0, 0, 0, 0, 0), [])
 let x2 := qAtC x1 0
 let x3 := Za c.1 (qAt x1 0)
 let x4 := !x2 || x3.1 == 7
 let x5 : QT6 := ((pcOf c), 0, 4)
 let x6 : List TY := [] ++ [(1, x5)]
 let x7 : List TY := [(9, pcOf c, 0, 3)]
 let x8 : List TY := bif s == 5 then x6 ++ x7 else x6 ++ [(2, u16.wrap ((pcOf c) + u16.wrap 1), 0, 3)]
 let x9 : List TY := bif s == 5 then x8 ++ x7 else x8 ++ [(2, u16.wrap ((pcOf c) + u16.wrap (i64.wrap (1 + 1))), 0, 3)]
 let x10 : QT1 := (c, s == 5, g, (7, x3.2), x9)
 let x11 : List TY := [] ++ [(12, pcOf c, 0, 6)] ++ [(5, u16.wrap ((spOf c) - 1), u8.wrap (shrI u16 (pcOf c) 8), 3)] ++ [(5, u16.wrap ((spOf c) - 2), u8.wrap (pcOf c), 3)]
 let x13 : List TY := [] ++ [(bif s == 5 then 8 else 1, x5)]
 let x15 := ZeW x10 1
 let x16 : List TY := x9 ++ [(2, x15, 0, 3)] ++ [(2, u16.wrap (x15 + 1), 0, 3)]
 .br (!x4 || x2) (.br (x4) (.br (Zd s || (iN (List.length g) == 0 || Zb4 x10 1)) (.br (Zd s) (fin3 g x11) (.br (iN (List.length g) == 0) (fin3 g x13) (fin3 g x16))) (.leaf none)) (.leaf none)) (.leaf none)
theorem ZAS (a : HL Zj) : Zg (envX Tryz.prog (ZW 7) [] 1125900980585471 8) Tryz.f113 Zj ZE a = ZpD a.1 a.2.1 a.2.2 := by kernel_rfl
def Zk9 (c : TC) (s : Int) (g : List Int) : RT (Option (TY × Bool)) :=
 let x1 : QT1 := (c, s == 5, g, (0, 0, 0, 0, 0, 0, 0, 0), [])
 let x2 := qAtC x1 0
 let x3 := !x2 || (Za c.1 (qAt x1 0)).1 == 11
 let x4 : List TY := [] ++ [(12, pcOf c, 0, 6)] ++ [(5, u16.wrap ((spOf c) - 1), u8.wrap (shrI u16 (pcOf c) 8), 3)] ++ [(5, u16.wrap ((spOf c) - 2), u8.wrap (pcOf c), 3)]
 let x6 : QT6 := ((pcOf c), 0, 4)
 let x7 : List TY := [] ++ [(bif s == 5 then 8 else 1, x6)]
 let x9 : List TY := [] ++ [(1, x6)]
 .br (!x3 || x2) (.br (x3) (.br (Zd s) (fin3 g x4) (.br (iN (List.length g) == 0) (fin3 g x7) (fin3 g x9))) (.leaf none)) (.leaf none)
theorem Zv5 (a : HL Zj) : Zg (envX Tryz.prog (ZW 11) [] 1125900980585471 8) Tryz.f113 Zj ZE a = Zk9 a.1 a.2.1 a.2.2 := by kernel_rfl
def Zk5 (c : TC) (s : Int) (g : List Int) : RT (Option (TY × Bool)) :=
 let x1 : QT1 := (c, s == 5, g, (0, 0, 0, 0, 0, 0, 0, 0), [])
 let x2 := qAtC x1 0
 let x3 := Za c.1 (qAt x1 0)
 let x4 := !x2 || x3.1 == 15
 let x5 := x3.2
 let x6 := x5.2.1 == 6
 let x7 : QT4 := (15, x5)
 let x8 : QT6 := ((pcOf c), 0, 4)
 let x9 : List TY := [] ++ [(1, x8)]
 let x10 := Zdb (c, s == 5, g, x7, x9) 2
 let x11 : List TY := x9 ++ [(2, x10, 0, 3)]
 let x12 : QT1 := (c, s == 5, g, x7, x11)
 let x13 : List TY := [] ++ [(12, pcOf c, 0, 6)] ++ [(5, u16.wrap ((spOf c) - 1), u8.wrap (shrI u16 (pcOf c) 8), 3)] ++ [(5, u16.wrap ((spOf c) - 2), u8.wrap (pcOf c), 3)]
 let x15 : List TY := [] ++ [(bif s == 5 then 8 else 1, x8)]
 let x17 : List TY := bif x6 then x11 ++ [(3, x10, ZgD x12, 3)] else x9
 .br (!x4 || x2) (.br (x4) (.br (Zd s || (iN (List.length g) == 0 || (!x6 || ZeX x12))) (.br (Zd s) (fin3 g x13) (.br (iN (List.length g) == 0) (fin3 g x15) (fin3 g x17))) (.leaf none)) (.leaf none)) (.leaf none)
theorem Zv1 (a : HL Zj) : Zg (envX Tryz.prog (ZW 15) [] 1125900980585471 8) Tryz.f113 Zj ZE a = Zk5 a.1 a.2.1 a.2.2 := by kernel_rfl
def Zk1 (c : TC) (s : Int) (g : List Int) : RT (Option (TY × Bool)) :=
 let x1 : QT1 := (c, s == 5, g, (0, 0, 0, 0, 0, 0, 0, 0), [])
 let x2 := qAtC x1 0
 let x3 := !x2 || (Za c.1 (qAt x1 0)).1 == 19
 let x4 : List TY := [] ++ [(12, pcOf c, 0, 6)] ++ [(5, u16.wrap ((spOf c) - 1), u8.wrap (shrI u16 (pcOf c) 8), 3)] ++ [(5, u16.wrap ((spOf c) - 2), u8.wrap (pcOf c), 3)]
 let x6 : QT6 := ((pcOf c), 0, 4)
 let x7 : List TY := [] ++ [(bif s == 5 then 8 else 1, x6)]
 let x9 : List TY := [] ++ [(1, x6)]
 .br (!x3 || x2) (.br (x3) (.br (Zd s) (fin3 g x4) (.br (iN (List.length g) == 0) (fin3 g x7) (fin3 g x9))) (.leaf none)) (.leaf none)
theorem ZvX (a : HL Zj) : Zg (envX Tryz.prog (ZW 19) [] 1125900980585471 8) Tryz.f113 Zj ZE a = Zk1 a.1 a.2.1 a.2.2 := by kernel_rfl
def ZkX (c : TC) (s : Int) (g : List Int) : RT (Option (TY × Bool)) :=
 let x1 : QT1 := (c, s == 5, g, (0, 0, 0, 0, 0, 0, 0, 0), [])
 let x2 := qAtC x1 0
 let x3 := !x2 || (Za c.1 (qAt x1 0)).1 == 23
 let x4 : List TY := [] ++ [(12, pcOf c, 0, 6)] ++ [(5, u16.wrap ((spOf c) - 1), u8.wrap (shrI u16 (pcOf c) 8), 3)] ++ [(5, u16.wrap ((spOf c) - 2), u8.wrap (pcOf c), 3)]
 let x6 : QT6 := ((pcOf c), 0, 4)
 let x7 : List TY := [] ++ [(bif s == 5 then 8 else 1, x6)]
 let x9 : List TY := [] ++ [(1, x6)]
 .br (!x3 || x2) (.br (x3) (.br (Zd s) (fin3 g x4) (.br (iN (List.length g) == 0) (fin3 g x7) (fin3 g x9))) (.leaf none)) (.leaf none)
theorem ZvT (a : HL Zj) : Zg (envX Tryz.prog (ZW 23) [] 1125900980585471 8) Tryz.f113 Zj ZE a = ZkX a.1 a.2.1 a.2.2 := by kernel_rfl
def ZkT (c : TC) (s : Int) (g : List Int) : RT (Option (TY × Bool)) :=
 let x1 : QT1 := (c, s == 5, g, (0, 0, 0, 0, 0, 0, 0, 0), [])
 let x2 := qAtC x1 0
 let x3 := Za c.1 (qAt x1 0)
 let x4 := !x2 || x3.1 == 27
 let x5 := u16.wrap ((spOf c) - 1)
 let x6 := u16.wrap ((spOf c) - 2)
 let x7 : List TY := [] ++ [(12, pcOf c, 0, 6)] ++ [(5, x5, u8.wrap (shrI u16 (pcOf c) 8), 3)] ++ [(5, x6, u8.wrap (pcOf c), 3)]
 let x9 : QT6 := ((pcOf c), 0, 4)
 let x10 : List TY := [] ++ [(bif s == 5 then 8 else 1, x9)]
 let x12 : List TY := [] ++ [(1, x9)]
 let x13 := ZC (c, s == 5, g, (27, x3.2), x12)
 let x14 : List TY := x12 ++ [(5, x5, u8.wrap (shrI u16 x13 8), 3)] ++ [(5, x6, u8.wrap x13, 3)]
 .br (!x4 || x2) (.br (x4) (.br (Zd s) (fin3 g x7) (.br (iN (List.length g) == 0) (fin3 g x10) (fin3 g x14))) (.leaf none)) (.leaf none)
theorem ZvP (a : HL Zj) : Zg (envX Tryz.prog (ZW 27) [] 1125900980585471 8) Tryz.f113 Zj ZE a = ZkT a.1 a.2.1 a.2.2 := by kernel_rfl
def ZkP (c : TC) (s : Int) (g : List Int) : RT (Option (TY × Bool)) :=
 let x1 : QT1 := (c, s == 5, g, (0, 0, 0, 0, 0, 0, 0, 0), [])
 let x2 := qAtC x1 0
 let x3 := !x2 || (Za c.1 (qAt x1 0)).1 == 31
 let x4 : List TY := [] ++ [(12, pcOf c, 0, 6)] ++ [(5, u16.wrap ((spOf c) - 1), u8.wrap (shrI u16 (pcOf c) 8), 3)] ++ [(5, u16.wrap ((spOf c) - 2), u8.wrap (pcOf c), 3)]
 let x6 : QT6 := ((pcOf c), 0, 4)
 let x7 : List TY := [] ++ [(bif s == 5 then 8 else 1, x6)]
 let x9 : List TY := [] ++ [(1, x6)] ++ [(4, spOf c, 0, 3)] ++ [(4, u16.wrap ((spOf c) + 1), 0, 3)]
 .br (!x3 || x2) (.br (x3) (.br (Zd s) (fin3 g x4) (.br (iN (List.length g) == 0) (fin3 g x7) (fin3 g x9))) (.leaf none)) (.leaf none)
theorem ZvL (a : HL Zj) : Zg (envX Tryz.prog (ZW 31) [] 1125900980585471 8) Tryz.f113 Zj ZE a = ZkP a.1 a.2.1 a.2.2 := by kernel_rfl
def ZkL (c : TC) (s : Int) (g : List Int) : RT (Option (TY × Bool)) :=
 let x1 : QT1 := (c, s == 5, g, (0, 0, 0, 0, 0, 0, 0, 0), [])
 let x2 := qAtC x1 0
 let x3 := !x2 || (Za c.1 (qAt x1 0)).1 == 35
 let x4 : List TY := [] ++ [(12, pcOf c, 0, 6)] ++ [(5, u16.wrap ((spOf c) - 1), u8.wrap (shrI u16 (pcOf c) 8), 3)] ++ [(5, u16.wrap ((spOf c) - 2), u8.wrap (pcOf c), 3)]
 let x6 : QT6 := ((pcOf c), 0, 4)
 let x7 : List TY := [] ++ [(bif s == 5 then 8 else 1, x6)]
 let x9 : List TY := [] ++ [(1, x6)]
 .br (!x3 || x2) (.br (x3) (.br (Zd s) (fin3 g x4) (.br (iN (List.length g) == 0) (fin3 g x7) (fin3 g x9))) (.leaf none)) (.leaf none)
theorem ZvH (a : HL Zj) : Zg (envX Tryz.prog (ZW 35) [] 1125900980585471 8) Tryz.f113 Zj ZE a = ZkL a.1 a.2.1 a.2.2 := by kernel_rfl
def ZkH (c : TC) (s : Int) (g : List Int) : RT (Option (TY × Bool)) :=
 let x1 : QT1 := (c, s == 5, g, (0, 0, 0, 0, 0, 0, 0, 0), [])
 let x2 := qAtC x1 0
 let x3 := !x2 || (Za c.1 (qAt x1 0)).1 == 39
 let x4 : List TY := [] ++ [(12, pcOf c, 0, 6)] ++ [(5, u16.wrap ((spOf c) - 1), u8.wrap (shrI u16 (pcOf c) 8), 3)] ++ [(5, u16.wrap ((spOf c) - 2), u8.wrap (pcOf c), 3)]
 let x6 : QT6 := ((pcOf c), 0, 4)
 let x7 : List TY := [] ++ [(bif s == 5 then 8 else 1, x6)]
 let x9 : List TY := [] ++ [(1, x6)]
 .br (!x3 || x2) (.br (x3) (.br (Zd s) (fin3 g x4) (.br (iN (List.length g) == 0) (fin3 g x7) (fin3 g x9))) (.leaf none)) (.leaf none)
theorem ZvD (a : HL Zj) : Zg (envX Tryz.prog (ZW 39) [] 1125900980585471 8) Tryz.f113 Zj ZE a = ZkH a.1 a.2.1 a.2.2 := by kernel_rfl
def ZkD (c : TC) (s : Int) (g : List Int) : RT (Option (TY × Bool)) :=
 let x1 : QT1 := (c, s == 5, g, (0, 0, 0, 0, 0, 0, 0, 0), [])
 let x2 := qAtC x1 0
 let x3 := !x2 || (Za c.1 (qAt x1 0)).1 == 43
 let x4 : List TY := [] ++ [(12, pcOf c, 0, 6)] ++ [(5, u16.wrap ((spOf c) - 1), u8.wrap (shrI u16 (pcOf c) 8), 3)] ++ [(5, u16.wrap ((spOf c) - 2), u8.wrap (pcOf c), 3)]
 let x6 : QT6 := ((pcOf c), 0, 4)
 let x7 : List TY := [] ++ [(bif s == 5 then 8 else 1, x6)]
 let x9 : List TY := [] ++ [(1, x6)]
 let x10 : QT6 := ((pcOf c), 0, 3)
 let x11 : List TY := (bif s == 5 then x9 ++ [(9, x10)] else x9 ++ [(2, u16.wrap ((pcOf c) + u16.wrap 1), 0, 3)]) ++ [(11, x10)]
 .br (!x3 || x2) (.br (x3) (.br (Zd s) (fin3 g x4) (.br (iN (List.length g) == 0) (fin3 g x7) (fin3 g x11))) (.leaf none)) (.leaf none)
theorem Zvz (a : HL Zj) : Zg (envX Tryz.prog (ZW 43) [] 1125900980585471 8) Tryz.f113 Zj ZE a = ZkD a.1 a.2.1 a.2.2 := by kernel_rfl
def Zkz (c : TC) (s : Int) (g : List Int) : RT (Option (TY × Bool)) :=
 let x1 : QT1 := (c, s == 5, g, (0, 0, 0, 0, 0, 0, 0, 0), [])
 let x2 := qAtC x1 0
 let x3 := Za c.1 (qAt x1 0)
 let x4 := !x2 || x3.1 == 47
 let x5 : List TY := [] ++ [(12, pcOf c, 0, 6)] ++ [(5, u16.wrap ((spOf c) - 1), u8.wrap (shrI u16 (pcOf c) 8), 3)] ++ [(5, u16.wrap ((spOf c) - 2), u8.wrap (pcOf c), 3)]
 let x7 : QT6 := ((pcOf c), 0, 4)
 let x8 : List TY := [] ++ [(bif s == 5 then 8 else 1, x7)]
 let x10 : List TY := [] ++ [(1, x7)]
 let x11 := Zdb (c, s == 5, g, (47, x3.2), x10) 1
 let x12 : List TY := x10 ++ [(2, x11, 0, 3)] ++ [(2, u16.wrap (x11 + 1), 0, 3)]
 .br (!x4 || x2) (.br (x4) (.br (Zd s) (fin3 g x5) (.br (iN (List.length g) == 0) (fin3 g x8) (fin3 g x12))) (.leaf none)) (.leaf none)
theorem Zvv (a : HL Zj) : Zg (envX Tryz.prog (ZW 47) [] 1125900980585471 8) Tryz.f113 Zj ZE a = Zkz a.1 a.2.1 a.2.2 := by kernel_rfl
def Zos (c : TC) (s : Int) (g : List Int) : RT (Option (TY × Bool)) :=
 let x1 : List TY := [(12, pcOf c, 0, 6)] ++ [(5, u16.wrap ((spOf c) - 1), u8.wrap (shrI u16 (pcOf c) 8), 3)] ++ [(5, u16.wrap ((spOf c) - 2), u8.wrap (pcOf c), 3)]
 let x3 : List TY := [(bif s == 5 then 8 else 1, pcOf c, 0, 4)]
 let x4 : List TY := [(9, pcOf c, 0, 3)]
 let x5 : List TY := x3 ++ x4
 let x6 : List TY := [(2, u16.wrap ((pcOf c) + u16.wrap (i64.wrap (1 + 1))), 0, 3)]
 let x7 : List TY := bif s == 5 then x5 ++ x4 else x5 ++ x6
 let x9 : List TY := x3 ++ [(2, u16.wrap ((pcOf c) + u16.wrap 1), 0, 3)]
 let x10 : List TY := bif s == 5 then x9 ++ x4 else x9 ++ x6
 .br (Zb s || (!decide (iN (List.length g) > 0) || (!Zf 0 (List.length g) || (Za c.1 (R.get (R.int u8) g 0)).1 == 4))) (.br (Zb s || (!decide (iN (List.length g) > 0) || Zf 0 (List.length g))) (.br (Zb s) (fin3 g x1) (.br (decide (iN (List.length g) > 0)) (.br (s == 5) (fin3 g x7) (fin3 g x10)) (fin3 g x3))) (.leaf none)) (.leaf none)
theorem ZzU (a : HL Zi) : Zg (envX Tryz.prog (ZU 4) [] 2047 8) Tryz.f42 Zi ZD a = Zos a.1 a.2.1 a.2.2 := by kernel_rfl
def Zoo (c : TC) (s : Int) (g : List Int) : RT (Option (TY × Bool)) :=
 let x1 : List TY := [(bif s == 5 then 8 else 1, pcOf c, 0, 4)]
 let x2 : List TY := [(9, pcOf c, 0, 3)]
 let x3 : List TY := x1 ++ x2
 let x4 : List TY := [(2, u16.wrap ((pcOf c) + u16.wrap (i64.wrap (1 + 1))), 0, 3)]
 let x5 : List TY := bif s == 5 then x3 ++ x2 else x3 ++ x4
 let x6 : QT3 := (c, s == 5, g, x5)
 let x7 := ZbD x6 1
 let x8 : List TY := x5 ++ [(3, ZdD x6 1, c.2.1.2.2.2.2.2.2.1, 3)]
 let x9 : QT3 := (c, s == 5, g, x8)
 let x10 := !s == 5 || (!x7 || ZbD x9 1)
 let x11 := !x10
 let x12 := !s == 5 || x7
 let x13 := !x12
 let x14 : List TY := x1 ++ [(2, u16.wrap ((pcOf c) + u16.wrap 1), 0, 3)]
 let x15 : List TY := bif s == 5 then x14 ++ x2 else x14 ++ x4
 let x16 : QT3 := (c, s == 5, g, x15)
 let x17 := ZbD x16 1
 let x18 : List TY := x15 ++ [(3, ZdD x16 1, c.2.1.2.2.2.2.2.2.1, 3)]
 let x19 : QT3 := (c, s == 5, g, x18)
 let x20 := s == 5 || (!x17 || ZbD x19 1)
 let x21 : List TY := [(12, pcOf c, 0, 6)] ++ [(5, u16.wrap ((spOf c) - 1), u8.wrap (shrI u16 (pcOf c) 8), 3)] ++ [(5, u16.wrap ((spOf c) - 2), u8.wrap (pcOf c), 3)]
 let x23 : List TY := x8 ++ [(3, u16.wrap (ZdD x9 1 + 1), c.2.1.2.2.2.2.2.1, 3)]
 let x25 : List TY := x18 ++ [(3, u16.wrap (ZdD x19 1 + 1), c.2.1.2.2.2.2.2.1, 3)]
 .br (Zb s || (!decide (iN (List.length g) > 0) || (!Zf 0 (List.length g) || (!(Za c.1 (R.get (R.int u8) g 0)).1 == 8 || (x11 || (x13 || (!x20 || (s == 5 || x17)))))))) (.br (Zb s || (!decide (iN (List.length g) > 0) || (!Zf 0 (List.length g) || (!(Za c.1 (R.get (R.int u8) g 0)).1 == 8 || (x11 || (x13 || x20)))))) (.br (Zb s || (!decide (iN (List.length g) > 0) || (!Zf 0 (List.length g) || (!(Za c.1 (R.get (R.int u8) g 0)).1 == 8 || (x11 || x12))))) (.br (Zb s || (!decide (iN (List.length g) > 0) || (!Zf 0 (List.length g) || (!(Za c.1 (R.get (R.int u8) g 0)).1 == 8 || x10)))) (.br (Zb s || (!decide (iN (List.length g) > 0) || (!Zf 0 (List.length g) || (Za c.1 (R.get (R.int u8) g 0)).1 == 8))) (.br (Zb s || (!decide (iN (List.length g) > 0) || Zf 0 (List.length g))) (.br (Zb s) (fin3 g x21) (.br (decide (iN (List.length g) > 0)) (.br (s == 5) (fin3 g x23) (fin3 g x25)) (fin3 g x1))) (.leaf none)) (.leaf none)) (.leaf none)) (.leaf none)) (.leaf none)) (.leaf none)
theorem ZzQ (a : HL Zi) : Zg (envX Tryz.prog (ZU 8) [] 2047 8) Tryz.f42 Zi ZD a = Zoo a.1 a.2.1 a.2.2 := by kernel_rfl
def Zj8 (c : TC) (s : Int) (g : List Int) : RT (Option (TY × Bool)) :=
 let x1 : List TY := [(12, pcOf c, 0, 6)] ++ [(5, u16.wrap ((spOf c) - 1), u8.wrap (shrI u16 (pcOf c) 8), 3)] ++ [(5, u16.wrap ((spOf c) - 2), u8.wrap (pcOf c), 3)]
 let x3 : List TY := [(bif s == 5 then 8 else 1, pcOf c, 0, 4)]
 let x4 : List TY := x3 ++ [(2, Z7 c.2.1 2, 0, 3)]
 let x6 : Nat := List.length x3
 let x7 := decide (iN (List.length g) ≥ iN x6)
 let x8 := Zf (iN (List.length g)) x6
 let x9 : TY × Bool := (R.get (RY) x3 (iN (List.length g)), true)
 .br (Zb s || (!decide (iN (List.length g) > 0) || (!Zf 0 (List.length g) || (Za c.1 (R.get (R.int u8) g 0)).1 == 12))) (.br (Zb s || (!decide (iN (List.length g) > 0) || Zf 0 (List.length g))) (.br (Zb s) (fin3 g x1) (.br (decide (iN (List.length g) > 0)) (.br ((Za c.1 (R.get (R.int u8) g 0)).2.2.2.1 == 6) (fin3 g x4) (.br (x7) (.leaf (some (((0, 0, 0, 0), false)))) (.br (x8) (.leaf (some (x9))) (.leaf none)))) (.br (x7) (.leaf (some (((0, 0, 0, 0), false)))) (.br (x8) (.leaf (some (x9))) (.leaf none))))) (.leaf none)) (.leaf none)
theorem ZuN (a : HL Zi) : Zg (envX Tryz.prog (ZU 12) [] 2047 8) Tryz.f42 Zi ZD a = Zj8 a.1 a.2.1 a.2.2 := by kernel_rfl
def Zj4 (c : TC) (s : Int) (g : List Int) : RT (Option (TY × Bool)) :=
 let x1 : List TY := [(12, pcOf c, 0, 6)] ++ [(5, u16.wrap ((spOf c) - 1), u8.wrap (shrI u16 (pcOf c) 8), 3)] ++ [(5, u16.wrap ((spOf c) - 2), u8.wrap (pcOf c), 3)]
 let x3 : List TY := [(bif s == 5 then 8 else 1, pcOf c, 0, 4)]
 .br (Zb s || (!decide (iN (List.length g) > 0) || (!Zf 0 (List.length g) || (Za c.1 (R.get (R.int u8) g 0)).1 == 16))) (.br (Zb s || (!decide (iN (List.length g) > 0) || Zf 0 (List.length g))) (.br (Zb s) (fin3 g x1) (fin3 g x3)) (.leaf none)) (.leaf none)
theorem ZuJ (a : HL Zi) : Zg (envX Tryz.prog (ZU 16) [] 2047 8) Tryz.f42 Zi ZD a = Zj4 a.1 a.2.1 a.2.2 := by kernel_rfl
def Zj0 (c : TC) (s : Int) (g : List Int) : RT (Option (TY × Bool)) :=
 let x1 : List TY := [(12, pcOf c, 0, 6)] ++ [(5, u16.wrap ((spOf c) - 1), u8.wrap (shrI u16 (pcOf c) 8), 3)] ++ [(5, u16.wrap ((spOf c) - 2), u8.wrap (pcOf c), 3)]
 let x3 : List TY := [(bif s == 5 then 8 else 1, pcOf c, 0, 4)]
 .br (Zb s || (!decide (iN (List.length g) > 0) || (!Zf 0 (List.length g) || (Za c.1 (R.get (R.int u8) g 0)).1 == 20))) (.br (Zb s || (!decide (iN (List.length g) > 0) || Zf 0 (List.length g))) (.br (Zb s) (fin3 g x1) (fin3 g x3)) (.leaf none)) (.leaf none)
theorem ZuF (a : HL Zi) : Zg (envX Tryz.prog (ZU 20) [] 2047 8) Tryz.f42 Zi ZD a = Zj0 a.1 a.2.1 a.2.2 := by kernel_rfl
def ZjW (c : TC) (s : Int) (g : List Int) : RT (Option (TY × Bool)) :=
 let x1 : List TY := [(12, pcOf c, 0, 6)] ++ [(5, u16.wrap ((spOf c) - 1), u8.wrap (shrI u16 (pcOf c) 8), 3)] ++ [(5, u16.wrap ((spOf c) - 2), u8.wrap (pcOf c), 3)]
 let x3 : List TY := [(bif s == 5 then 8 else 1, pcOf c, 0, 4)]
 let x4 : List TY := [(9, pcOf c, 0, 3)]
 let x5 : List TY := x3 ++ x4
 let x7 : List TY := x3 ++ [(2, u16.wrap ((pcOf c) + u16.wrap 1), 0, 3)]
 let x9 : List TY := [(2, u16.wrap ((pcOf c) + u16.wrap (i64.wrap (1 + 1))), 0, 3)]
 let x10 : List TY := bif s == 5 then x5 ++ x4 else x5 ++ x9
 let x12 : List TY := bif s == 5 then x7 ++ x4 else x7 ++ x9
 .br (Zb s || (!decide (iN (List.length g) > 0) || (!Zf 0 (List.length g) || (Za c.1 (R.get (R.int u8) g 0)).1 == 24))) (.br (Zb s || (!decide (iN (List.length g) > 0) || Zf 0 (List.length g))) (.br (Zb s) (fin3 g x1) (.br (decide (iN (List.length g) > 0)) (.br (rOn c.1 && !Zdx (c, s == 5, g, x3) (24, (Za c.1 (R.get (R.int u8) g 0)).2)) (.br (s == 5) (fin3 g x5) (fin3 g x7)) (.br (s == 5) (fin3 g x10) (fin3 g x12))) (fin3 g x3))) (.leaf none)) (.leaf none)
theorem ZuB (a : HL Zi) : Zg (envX Tryz.prog (ZU 24) [] 2047 8) Tryz.f42 Zi ZD a = ZjW a.1 a.2.1 a.2.2 := by kernel_rfl
def ZjS (c : TC) (s : Int) (g : List Int) : RT (Option (TY × Bool)) :=
 let x1 : List TY := [(12, pcOf c, 0, 6)] ++ [(5, u16.wrap ((spOf c) - 1), u8.wrap (shrI u16 (pcOf c) 8), 3)] ++ [(5, u16.wrap ((spOf c) - 2), u8.wrap (pcOf c), 3)]
 let x3 : List TY := [(bif s == 5 then 8 else 1, pcOf c, 0, 4)]
 .br (Zb s || (!decide (iN (List.length g) > 0) || (!Zf 0 (List.length g) || (Za c.1 (R.get (R.int u8) g 0)).1 == 28))) (.br (Zb s || (!decide (iN (List.length g) > 0) || Zf 0 (List.length g))) (.br (Zb s) (fin3 g x1) (fin3 g x3)) (.leaf none)) (.leaf none)
theorem Zux (a : HL Zi) : Zg (envX Tryz.prog (ZU 28) [] 2047 8) Tryz.f42 Zi ZD a = ZjS a.1 a.2.1 a.2.2 := by kernel_rfl
def ZjO (c : TC) (s : Int) (g : List Int) : RT (Option (TY × Bool)) :=
 let x1 : List TY := [(12, pcOf c, 0, 6)] ++ [(5, u16.wrap ((spOf c) - 1), u8.wrap (shrI u16 (pcOf c) 8), 3)] ++ [(5, u16.wrap ((spOf c) - 2), u8.wrap (pcOf c), 3)]
 let x3 : List TY := [(bif s == 5 then 8 else 1, pcOf c, 0, 4)]
 let x4 := u16.wrap ((spOf c) + 1)
 let x5 : List TY := x3 ++ [(4, spOf c, 0, 3)] ++ [(4, x4, 0, 3)] ++ [(5, x4, c.2.1.2.2.2.2.2.1, 3)] ++ [(5, spOf c, c.2.1.2.2.2.2.2.2.1, 3)]
 let x6 := i64.wrap (iN (List.length x5) - 1)
 let x7 : QT18 := R.get (RY) x5 x6
 let x8 := x7.2
 let x9 : List TY := bif !rOn c.1 then setI x5 x6 (x7.1, x8.1, x8.2.1, 5) else x5
 .br (Zb s || (!decide (iN (List.length g) > 0) || (!Zf 0 (List.length g) || (Za c.1 (R.get (R.int u8) g 0)).1 == 32))) (.br (Zb s || (!decide (iN (List.length g) > 0) || Zf 0 (List.length g))) (.br (Zb s) (fin3 g x1) (.br (decide (iN (List.length g) > 0)) (fin3 g x9) (fin3 g x3))) (.leaf none)) (.leaf none)
theorem Zut (a : HL Zi) : Zg (envX Tryz.prog (ZU 32) [] 2047 8) Tryz.f42 Zi ZD a = ZjO a.1 a.2.1 a.2.2 := by kernel_rfl
def ZjK (c : TC) (s : Int) (g : List Int) : RT (Option (TY × Bool)) :=
 let x1 : List TY := [(12, pcOf c, 0, 6)] ++ [(5, u16.wrap ((spOf c) - 1), u8.wrap (shrI u16 (pcOf c) 8), 3)] ++ [(5, u16.wrap ((spOf c) - 2), u8.wrap (pcOf c), 3)]
 let x3 : List TY := [(bif s == 5 then 8 else 1, pcOf c, 0, 4)]
 .br (Zb s || (!decide (iN (List.length g) > 0) || (!Zf 0 (List.length g) || (Za c.1 (R.get (R.int u8) g 0)).1 == 36))) (.br (Zb s || (!decide (iN (List.length g) > 0) || Zf 0 (List.length g))) (.br (Zb s) (fin3 g x1) (fin3 g x3)) (.leaf none)) (.leaf none)
theorem Zup (a : HL Zi) : Zg (envX Tryz.prog (ZU 36) [] 2047 8) Tryz.f42 Zi ZD a = ZjK a.1 a.2.1 a.2.2 := by kernel_rfl
def ZjG (c : TC) (s : Int) (g : List Int) : RT (Option (TY × Bool)) :=
 let x1 : List TY := [(12, pcOf c, 0, 6)] ++ [(5, u16.wrap ((spOf c) - 1), u8.wrap (shrI u16 (pcOf c) 8), 3)] ++ [(5, u16.wrap ((spOf c) - 2), u8.wrap (pcOf c), 3)]
 let x3 : List TY := [(bif s == 5 then 8 else 1, pcOf c, 0, 4)]
 let x4 : List TY := [(11, pcOf c, 0, 3)]
 let x5 : List TY := x3 ++ x4 ++ x4
 .br (Zb s || (!decide (iN (List.length g) > 0) || (!Zf 0 (List.length g) || (Za c.1 (R.get (R.int u8) g 0)).1 == 40))) (.br (Zb s || (!decide (iN (List.length g) > 0) || Zf 0 (List.length g))) (.br (Zb s) (fin3 g x1) (.br (decide (iN (List.length g) > 0)) (fin3 g x5) (fin3 g x3))) (.leaf none)) (.leaf none)
theorem Zul (a : HL Zi) : Zg (envX Tryz.prog (ZU 40) [] 2047 8) Tryz.f42 Zi ZD a = ZjG a.1 a.2.1 a.2.2 := by kernel_rfl
def ZjC (c : TC) (s : Int) (g : List Int) : RT (Option (TY × Bool)) :=
 let x1 : List TY := [(12, pcOf c, 0, 6)] ++ [(5, u16.wrap ((spOf c) - 1), u8.wrap (shrI u16 (pcOf c) 8), 3)] ++ [(5, u16.wrap ((spOf c) - 2), u8.wrap (pcOf c), 3)]
 let x3 : List TY := [(bif s == 5 then 8 else 1, pcOf c, 0, 4)]
 let x4 : QT6 := ((pcOf c), 0, 3)
 let x5 : List TY := [(11, x4)]
 let x6 : List TY := x3 ++ [(9, x4)] ++ x5
 let x8 : List TY := x3 ++ [(2, u16.wrap ((pcOf c) + u16.wrap 1), 0, 3)] ++ x5
 .br (Zb s || (!decide (iN (List.length g) > 0) || (!Zf 0 (List.length g) || (Za c.1 (R.get (R.int u8) g 0)).1 == 44))) (.br (Zb s || (!decide (iN (List.length g) > 0) || Zf 0 (List.length g))) (.br (Zb s) (fin3 g x1) (.br (decide (iN (List.length g) > 0)) (.br (s == 5) (fin3 g x6) (fin3 g x8)) (fin3 g x3))) (.leaf none)) (.leaf none)
theorem Zuh (a : HL Zi) : Zg (envX Tryz.prog (ZU 44) [] 2047 8) Tryz.f42 Zi ZD a = ZjC a.1 a.2.1 a.2.2 := by kernel_rfl
def ZpG (c : TC) (s : Int) (g : List Int) : RT (Option (TY × Bool)) :=
 let x1 : QT1 := (c, s == 5, g, (0, 0, 0, 0, 0, 0, 0, 0), [])
 let x2 := qAtC x1 0
 let x3 := Za c.1 (qAt x1 0)
 let x4 := !x2 || x3.1 == 4
 let x5 : QT6 := ((pcOf c), 0, 4)
 let x6 : List TY := [] ++ [(1, x5)]
 let x7 : List TY := [(9, pcOf c, 0, 3)]
 let x8 : List TY := bif s == 5 then x6 ++ x7 else x6 ++ [(2, u16.wrap ((pcOf c) + u16.wrap 1), 0, 3)]
 let x9 : List TY := bif s == 5 then x8 ++ x7 else x8 ++ [(2, u16.wrap ((pcOf c) + u16.wrap (i64.wrap (1 + 1))), 0, 3)]
 let x10 : List TY := [] ++ [(12, pcOf c, 0, 6)] ++ [(5, u16.wrap ((spOf c) - 1), u8.wrap (shrI u16 (pcOf c) 8), 3)] ++ [(5, u16.wrap ((spOf c) - 2), u8.wrap (pcOf c), 3)]
 let x12 : List TY := [] ++ [(bif s == 5 then 8 else 1, x5)]
 .br (!x4 || x2) (.br (x4) (.br (Zd s || (iN (List.length g) == 0 || Zb4 (c, s == 5, g, (4, x3.2), x9) 1)) (.br (Zd s) (fin3 g x10) (.br (iN (List.length g) == 0) (fin3 g x12) (fin3 g x9))) (.leaf none)) (.leaf none)) (.leaf none)
theorem ZAV (a : HL Zj) : Zg (envX Tryz.prog (ZW 4) [] 1125900980585471 8) Tryz.f113 Zj ZE a = ZpG a.1 a.2.1 a.2.2 := by kernel_rfl
def ZpC (c : TC) (s : Int) (g : List Int) : RT (Option (TY × Bool)) :=
 let x1 : QT1 := (c, s == 5, g, (0, 0, 0, 0, 0, 0, 0, 0), [])
 let x2 := qAtC x1 0
 let x3 := Za c.1 (qAt x1 0)
 let x4 := !x2 || x3.1 == 8
 let x5 : QT6 := ((pcOf c), 0, 4)
 let x6 : List TY := [] ++ [(1, x5)]
 let x7 : List TY := [(9, pcOf c, 0, 3)]
 let x8 : List TY := bif s == 5 then x6 ++ x7 else x6 ++ [(2, u16.wrap ((pcOf c) + u16.wrap 1), 0, 3)]
 let x9 : List TY := bif s == 5 then x8 ++ x7 else x8 ++ [(2, u16.wrap ((pcOf c) + u16.wrap (i64.wrap (1 + 1))), 0, 3)]
 let x10 : QT1 := (c, s == 5, g, (8, x3.2), x9)
 let x11 : List TY := [] ++ [(12, pcOf c, 0, 6)] ++ [(5, u16.wrap ((spOf c) - 1), u8.wrap (shrI u16 (pcOf c) 8), 3)] ++ [(5, u16.wrap ((spOf c) - 2), u8.wrap (pcOf c), 3)]
 let x13 : List TY := [] ++ [(bif s == 5 then 8 else 1, x5)]
 let x15 := ZeW x10 1
 let x16 : List TY := x9 ++ [(3, x15, c.2.1.2.2.2.2.2.2.1, 3)] ++ [(3, u16.wrap (x15 + 1), c.2.1.2.2.2.2.2.1, 3)]
 .br (!x4 || x2) (.br (x4) (.br (Zd s || (iN (List.length g) == 0 || Zb4 x10 1)) (.br (Zd s) (fin3 g x11) (.br (iN (List.length g) == 0) (fin3 g x13) (fin3 g x16))) (.leaf none)) (.leaf none)) (.leaf none)
theorem ZAR (a : HL Zj) : Zg (envX Tryz.prog (ZW 8) [] 1125900980585471 8) Tryz.f113 Zj ZE a = ZpC a.1 a.2.1 a.2.2 := by kernel_rfl
def Zk8 (c : TC) (s : Int) (g : List Int) : RT (Option (TY × Bool)) :=
 let x1 : QT1 := (c, s == 5, g, (0, 0, 0, 0, 0, 0, 0, 0), [])
 let x2 := qAtC x1 0
 let x3 := Za c.1 (qAt x1 0)
 let x4 := !x2 || x3.1 == 12
 let x5 : List TY := [] ++ [(12, pcOf c, 0, 6)] ++ [(5, u16.wrap ((spOf c) - 1), u8.wrap (shrI u16 (pcOf c) 8), 3)] ++ [(5, u16.wrap ((spOf c) - 2), u8.wrap (pcOf c), 3)]
 let x7 : QT6 := ((pcOf c), 0, 4)
 let x8 : List TY := [] ++ [(bif s == 5 then 8 else 1, x7)]
 let x10 := x3.2
 let x11 : List TY := [] ++ [(1, x7)]
 let x12 : List TY := bif x10.2.2.1 == 6 then x11 ++ [(2, Zdb (c, s == 5, g, (12, x10), x11) 2, 0, 3)] else x11
 .br (!x4 || x2) (.br (x4) (.br (Zd s) (fin3 g x5) (.br (iN (List.length g) == 0) (fin3 g x8) (fin3 g x12))) (.leaf none)) (.leaf none)
theorem Zv4 (a : HL Zj) : Zg (envX Tryz.prog (ZW 12) [] 1125900980585471 8) Tryz.f113 Zj ZE a = Zk8 a.1 a.2.1 a.2.2 := by kernel_rfl
def Zk4 (c : TC) (s : Int) (g : List Int) : RT (Option (TY × Bool)) :=
 let x1 : QT1 := (c, s == 5, g, (0, 0, 0, 0, 0, 0, 0, 0), [])
 let x2 := qAtC x1 0
 let x3 := !x2 || (Za c.1 (qAt x1 0)).1 == 16
 let x4 : List TY := [] ++ [(12, pcOf c, 0, 6)] ++ [(5, u16.wrap ((spOf c) - 1), u8.wrap (shrI u16 (pcOf c) 8), 3)] ++ [(5, u16.wrap ((spOf c) - 2), u8.wrap (pcOf c), 3)]
 let x6 : QT6 := ((pcOf c), 0, 4)
 let x7 : List TY := [] ++ [(bif s == 5 then 8 else 1, x6)]
 let x9 : List TY := [] ++ [(1, x6)]
 .br (!x3 || x2) (.br (x3) (.br (Zd s) (fin3 g x4) (.br (iN (List.length g) == 0) (fin3 g x7) (fin3 g x9))) (.leaf none)) (.leaf none)
theorem Zv0 (a : HL Zj) : Zg (envX Tryz.prog (ZW 16) [] 1125900980585471 8) Tryz.f113 Zj ZE a = Zk4 a.1 a.2.1 a.2.2 := by kernel_rfl
def Zk0 (c : TC) (s : Int) (g : List Int) : RT (Option (TY × Bool)) :=
 let x1 : QT1 := (c, s == 5, g, (0, 0, 0, 0, 0, 0, 0, 0), [])
 let x2 := qAtC x1 0
 let x3 := !x2 || (Za c.1 (qAt x1 0)).1 == 20
 let x4 : List TY := [] ++ [(12, pcOf c, 0, 6)] ++ [(5, u16.wrap ((spOf c) - 1), u8.wrap (shrI u16 (pcOf c) 8), 3)] ++ [(5, u16.wrap ((spOf c) - 2), u8.wrap (pcOf c), 3)]
 let x6 : QT6 := ((pcOf c), 0, 4)
 let x7 : List TY := [] ++ [(bif s == 5 then 8 else 1, x6)]
 let x9 : List TY := [] ++ [(1, x6)]
 .br (!x3 || x2) (.br (x3) (.br (Zd s) (fin3 g x4) (.br (iN (List.length g) == 0) (fin3 g x7) (fin3 g x9))) (.leaf none)) (.leaf none)
theorem ZvW (a : HL Zj) : Zg (envX Tryz.prog (ZW 20) [] 1125900980585471 8) Tryz.f113 Zj ZE a = Zk0 a.1 a.2.1 a.2.2 := by kernel_rfl
def ZkW (c : TC) (s : Int) (g : List Int) : RT (Option (TY × Bool)) :=
 let x1 : QT1 := (c, s == 5, g, (0, 0, 0, 0, 0, 0, 0, 0), [])
 let x2 := qAtC x1 0
 let x3 := Za c.1 (qAt x1 0)
 let x4 := !x2 || x3.1 == 24
 let x5 : List TY := [] ++ [(12, pcOf c, 0, 6)] ++ [(5, u16.wrap ((spOf c) - 1), u8.wrap (shrI u16 (pcOf c) 8), 3)] ++ [(5, u16.wrap ((spOf c) - 2), u8.wrap (pcOf c), 3)]
 let x7 : QT6 := ((pcOf c), 0, 4)
 let x8 : List TY := [] ++ [(bif s == 5 then 8 else 1, x7)]
 let x10 : List TY := [] ++ [(1, x7)]
 let x11 : List TY := [(9, pcOf c, 0, 3)]
 let x12 : List TY := bif s == 5 then x10 ++ x11 else x10 ++ [(2, u16.wrap ((pcOf c) + u16.wrap 1), 0, 3)]
 let x13 : List TY := bif !ZfI (c, s == 5, g, (24, x3.2), x10) && c.1 == 2 then x12 else bif s == 5 then x12 ++ x11 else x12 ++ [(2, u16.wrap ((pcOf c) + u16.wrap (i64.wrap (1 + 1))), 0, 3)]
 .br (!x4 || x2) (.br (x4) (.br (Zd s) (fin3 g x5) (.br (iN (List.length g) == 0) (fin3 g x8) (fin3 g x13))) (.leaf none)) (.leaf none)
theorem ZvS (a : HL Zj) : Zg (envX Tryz.prog (ZW 24) [] 1125900980585471 8) Tryz.f113 Zj ZE a = ZkW a.1 a.2.1 a.2.2 := by kernel_rfl
def ZkS (c : TC) (s : Int) (g : List Int) : RT (Option (TY × Bool)) :=
 let x1 : QT1 := (c, s == 5, g, (0, 0, 0, 0, 0, 0, 0, 0), [])
 let x2 := qAtC x1 0
 let x3 := !x2 || (Za c.1 (qAt x1 0)).1 == 28
 let x4 : List TY := [] ++ [(12, pcOf c, 0, 6)] ++ [(5, u16.wrap ((spOf c) - 1), u8.wrap (shrI u16 (pcOf c) 8), 3)] ++ [(5, u16.wrap ((spOf c) - 2), u8.wrap (pcOf c), 3)]
 let x6 : QT6 := ((pcOf c), 0, 4)
 let x7 : List TY := [] ++ [(bif s == 5 then 8 else 1, x6)]
 let x9 : List TY := [] ++ [(1, x6)]
 .br (!x3 || x2) (.br (x3) (.br (Zd s) (fin3 g x4) (.br (iN (List.length g) == 0) (fin3 g x7) (fin3 g x9))) (.leaf none)) (.leaf none)
theorem ZvO (a : HL Zj) : Zg (envX Tryz.prog (ZW 28) [] 1125900980585471 8) Tryz.f113 Zj ZE a = ZkS a.1 a.2.1 a.2.2 := by kernel_rfl
def ZkO (c : TC) (s : Int) (g : List Int) : RT (Option (TY × Bool)) :=
 let x1 : QT1 := (c, s == 5, g, (0, 0, 0, 0, 0, 0, 0, 0), [])
 let x2 := qAtC x1 0
 let x3 := !x2 || (Za c.1 (qAt x1 0)).1 == 32
 let x4 : List TY := [] ++ [(12, pcOf c, 0, 6)] ++ [(5, u16.wrap ((spOf c) - 1), u8.wrap (shrI u16 (pcOf c) 8), 3)] ++ [(5, u16.wrap ((spOf c) - 2), u8.wrap (pcOf c), 3)]
 let x6 : QT6 := ((pcOf c), 0, 4)
 let x7 : List TY := [] ++ [(bif s == 5 then 8 else 1, x6)]
 let x9 := u16.wrap ((spOf c) + 1)
 let x10 : List TY := [] ++ [(1, x6)] ++ [(4, spOf c, 0, 3)] ++ [(4, x9, 0, 3)] ++ [(5, x9, c.2.1.2.2.2.2.2.1, 3)] ++ [(5, spOf c, c.2.1.2.2.2.2.2.2.1, 3)]
 let x11 := i64.wrap (iN (List.length x10) - 1)
 let x12 : QT18 := R.get (RY) x10 x11
 let x13 := x12.2
 let x14 : List TY := bif c.1 != 2 then setI x10 x11 (x12.1, x13.1, x13.2.1, 5) else x10
 .br (!x3 || x2) (.br (x3) (.br (Zd s) (fin3 g x4) (.br (iN (List.length g) == 0) (fin3 g x7) (fin3 g x14))) (.leaf none)) (.leaf none)
theorem ZvK (a : HL Zj) : Zg (envX Tryz.prog (ZW 32) [] 1125900980585471 8) Tryz.f113 Zj ZE a = ZkO a.1 a.2.1 a.2.2 := by kernel_rfl
def ZkK (c : TC) (s : Int) (g : List Int) : RT (Option (TY × Bool)) :=
 let x1 : QT1 := (c, s == 5, g, (0, 0, 0, 0, 0, 0, 0, 0), [])
 let x2 := qAtC x1 0
 let x3 := !x2 || (Za c.1 (qAt x1 0)).1 == 36
 let x4 : List TY := [] ++ [(12, pcOf c, 0, 6)] ++ [(5, u16.wrap ((spOf c) - 1), u8.wrap (shrI u16 (pcOf c) 8), 3)] ++ [(5, u16.wrap ((spOf c) - 2), u8.wrap (pcOf c), 3)]
 let x6 : QT6 := ((pcOf c), 0, 4)
 let x7 : List TY := [] ++ [(bif s == 5 then 8 else 1, x6)]
 let x9 : List TY := [] ++ [(1, x6)]
 .br (!x3 || x2) (.br (x3) (.br (Zd s) (fin3 g x4) (.br (iN (List.length g) == 0) (fin3 g x7) (fin3 g x9))) (.leaf none)) (.leaf none)
theorem ZvG (a : HL Zj) : Zg (envX Tryz.prog (ZW 36) [] 1125900980585471 8) Tryz.f113 Zj ZE a = ZkK a.1 a.2.1 a.2.2 := by kernel_rfl
def ZkG (c : TC) (s : Int) (g : List Int) : RT (Option (TY × Bool)) :=
 let x1 : QT1 := (c, s == 5, g, (0, 0, 0, 0, 0, 0, 0, 0), [])
 let x2 := qAtC x1 0
 let x3 := !x2 || (Za c.1 (qAt x1 0)).1 == 40
 let x4 : List TY := [] ++ [(12, pcOf c, 0, 6)] ++ [(5, u16.wrap ((spOf c) - 1), u8.wrap (shrI u16 (pcOf c) 8), 3)] ++ [(5, u16.wrap ((spOf c) - 2), u8.wrap (pcOf c), 3)]
 let x6 : QT6 := ((pcOf c), 0, 4)
 let x7 : List TY := [] ++ [(bif s == 5 then 8 else 1, x6)]
 let x9 : List TY := [(11, pcOf c, 0, 3)]
 let x10 : List TY := [] ++ [(1, x6)] ++ x9 ++ x9
 .br (!x3 || x2) (.br (x3) (.br (Zd s) (fin3 g x4) (.br (iN (List.length g) == 0) (fin3 g x7) (fin3 g x10))) (.leaf none)) (.leaf none)
theorem ZvC (a : HL Zj) : Zg (envX Tryz.prog (ZW 40) [] 1125900980585471 8) Tryz.f113 Zj ZE a = ZkG a.1 a.2.1 a.2.2 := by kernel_rfl
def ZkC (c : TC) (s : Int) (g : List Int) : RT (Option (TY × Bool)) :=
 let x1 : QT1 := (c, s == 5, g, (0, 0, 0, 0, 0, 0, 0, 0), [])
 let x2 := qAtC x1 0
 let x3 := !x2 || (Za c.1 (qAt x1 0)).1 == 44
 let x4 : List TY := [] ++ [(12, pcOf c, 0, 6)] ++ [(5, u16.wrap ((spOf c) - 1), u8.wrap (shrI u16 (pcOf c) 8), 3)] ++ [(5, u16.wrap ((spOf c) - 2), u8.wrap (pcOf c), 3)]
 let x6 : QT6 := ((pcOf c), 0, 4)
 let x7 : List TY := [] ++ [(bif s == 5 then 8 else 1, x6)]
 let x9 : List TY := [] ++ [(1, x6)]
 let x10 : QT6 := ((pcOf c), 0, 3)
 let x11 : List TY := (bif s == 5 then x9 ++ [(9, x10)] else x9 ++ [(2, u16.wrap ((pcOf c) + u16.wrap 1), 0, 3)]) ++ [(11, x10)]
 .br (!x3 || x2) (.br (x3) (.br (Zd s) (fin3 g x4) (.br (iN (List.length g) == 0) (fin3 g x7) (fin3 g x11))) (.leaf none)) (.leaf none)
theorem Zvy (a : HL Zj) : Zg (envX Tryz.prog (ZW 44) [] 1125900980585471 8) Tryz.f113 Zj ZE a = ZkC a.1 a.2.1 a.2.2 := by kernel_rfl
def Zov (c : TC) (s : Int) (g : List Int) : RT (Option (TY × Bool)) :=
 let x1 : List TY := [(12, pcOf c, 0, 6)] ++ [(5, u16.wrap ((spOf c) - 1), u8.wrap (shrI u16 (pcOf c) 8), 3)] ++ [(5, u16.wrap ((spOf c) - 2), u8.wrap (pcOf c), 3)]
 let x3 : List TY := [(bif s == 5 then 8 else 1, pcOf c, 0, 4)]
 .br (Zb s || (!decide (iN (List.length g) > 0) || (!Zf 0 (List.length g) || (Za c.1 (R.get (R.int u8) g 0)).1 == 1))) (.br (Zb s || (!decide (iN (List.length g) > 0) || Zf 0 (List.length g))) (.br (Zb s) (fin3 g x1) (fin3 g x3)) (.leaf none)) (.leaf none)
theorem ZzX (a : HL Zi) : Zg (envX Tryz.prog (ZU 1) [] 2047 8) Tryz.f42 Zi ZD a = Zov a.1 a.2.1 a.2.2 := by kernel_rfl
def Zor (c : TC) (s : Int) (g : List Int) : RT (Option (TY × Bool)) :=
 let x1 : List TY := [(bif s == 5 then 8 else 1, pcOf c, 0, 4)]
 let x2 : List TY := [(9, pcOf c, 0, 3)]
 let x3 : List TY := x1 ++ x2
 let x4 : List TY := [(2, u16.wrap ((pcOf c) + u16.wrap (i64.wrap (1 + 1))), 0, 3)]
 let x5 : List TY := bif s == 5 then x3 ++ x2 else x3 ++ x4
 let x6 : QT3 := (c, s == 5, g, x5)
 let x7 := !s == 5 || ZbD x6 1
 let x8 : List TY := x1 ++ [(2, u16.wrap ((pcOf c) + u16.wrap 1), 0, 3)]
 let x9 : List TY := bif s == 5 then x8 ++ x2 else x8 ++ x4
 let x10 : QT3 := (c, s == 5, g, x9)
 let x11 : List TY := [(12, pcOf c, 0, 6)] ++ [(5, u16.wrap ((spOf c) - 1), u8.wrap (shrI u16 (pcOf c) 8), 3)] ++ [(5, u16.wrap ((spOf c) - 2), u8.wrap (pcOf c), 3)]
 let x13 : List TY := x5 ++ [(2, ZdD x6 1, 0, 3)]
 let x15 : List TY := x9 ++ [(2, ZdD x10 1, 0, 3)]
 .br (Zb s || (!decide (iN (List.length g) > 0) || (!Zf 0 (List.length g) || (!(Za c.1 (R.get (R.int u8) g 0)).1 == 5 || (!x7 || (s == 5 || ZbD x10 1)))))) (.br (Zb s || (!decide (iN (List.length g) > 0) || (!Zf 0 (List.length g) || (!(Za c.1 (R.get (R.int u8) g 0)).1 == 5 || x7)))) (.br (Zb s || (!decide (iN (List.length g) > 0) || (!Zf 0 (List.length g) || (Za c.1 (R.get (R.int u8) g 0)).1 == 5))) (.br (Zb s || (!decide (iN (List.length g) > 0) || Zf 0 (List.length g))) (.br (Zb s) (fin3 g x11) (.br (decide (iN (List.length g) > 0)) (.br (s == 5) (fin3 g x13) (fin3 g x15)) (fin3 g x1))) (.leaf none)) (.leaf none)) (.leaf none)) (.leaf none)
theorem ZzT (a : HL Zi) : Zg (envX Tryz.prog (ZU 5) [] 2047 8) Tryz.f42 Zi ZD a = Zor a.1 a.2.1 a.2.2 := by kernel_rfl
def Zon (c : TC) (s : Int) (g : List Int) : RT (Option (TY × Bool)) :=
 let x1 : List TY := [(12, pcOf c, 0, 6)] ++ [(5, u16.wrap ((spOf c) - 1), u8.wrap (shrI u16 (pcOf c) 8), 3)] ++ [(5, u16.wrap ((spOf c) - 2), u8.wrap (pcOf c), 3)]
 let x3 : List TY := [(bif s == 5 then 8 else 1, pcOf c, 0, 4)]
 let x4 : List TY := x3 ++ [(2, Z7 c.2.1 (Za c.1 (R.get (R.int u8) g 0)).2.2.2.2.1, 0, 3)]
 .br (Zb s || (!decide (iN (List.length g) > 0) || (!Zf 0 (List.length g) || (Za c.1 (R.get (R.int u8) g 0)).1 == 9))) (.br (Zb s || (!decide (iN (List.length g) > 0) || Zf 0 (List.length g))) (.br (Zb s) (fin3 g x1) (.br (decide (iN (List.length g) > 0)) (fin3 g x4) (fin3 g x3))) (.leaf none)) (.leaf none)
theorem ZzP (a : HL Zi) : Zg (envX Tryz.prog (ZU 9) [] 2047 8) Tryz.f42 Zi ZD a = Zon a.1 a.2.1 a.2.2 := by kernel_rfl
def Zj7 (c : TC) (s : Int) (g : List Int) : RT (Option (TY × Bool)) :=
 let x1 : List TY := [(12, pcOf c, 0, 6)] ++ [(5, u16.wrap ((spOf c) - 1), u8.wrap (shrI u16 (pcOf c) 8), 3)] ++ [(5, u16.wrap ((spOf c) - 2), u8.wrap (pcOf c), 3)]
 let x3 : List TY := [(bif s == 5 then 8 else 1, pcOf c, 0, 4)]
 let x4 : List TY := x3 ++ [(9, pcOf c, 0, 3)]
 let x6 : List TY := x3 ++ [(2, u16.wrap ((pcOf c) + u16.wrap 1), 0, 3)]
 .br (Zb s || (!decide (iN (List.length g) > 0) || (!Zf 0 (List.length g) || (Za c.1 (R.get (R.int u8) g 0)).1 == 13))) (.br (Zb s || (!decide (iN (List.length g) > 0) || Zf 0 (List.length g))) (.br (Zb s) (fin3 g x1) (.br (decide (iN (List.length g) > 0)) (.br (s == 5) (fin3 g x4) (fin3 g x6)) (fin3 g x3))) (.leaf none)) (.leaf none)
theorem ZuM (a : HL Zi) : Zg (envX Tryz.prog (ZU 13) [] 2047 8) Tryz.f42 Zi ZD a = Zj7 a.1 a.2.1 a.2.2 := by kernel_rfl
def Zj3 (c : TC) (s : Int) (g : List Int) : RT (Option (TY × Bool)) :=
 let x1 : List TY := [(12, pcOf c, 0, 6)] ++ [(5, u16.wrap ((spOf c) - 1), u8.wrap (shrI u16 (pcOf c) 8), 3)] ++ [(5, u16.wrap ((spOf c) - 2), u8.wrap (pcOf c), 3)]
 let x3 : List TY := [(bif s == 5 then 8 else 1, pcOf c, 0, 4)]
 .br (Zb s || (!decide (iN (List.length g) > 0) || (!Zf 0 (List.length g) || (Za c.1 (R.get (R.int u8) g 0)).1 == 17))) (.br (Zb s || (!decide (iN (List.length g) > 0) || Zf 0 (List.length g))) (.br (Zb s) (fin3 g x1) (fin3 g x3)) (.leaf none)) (.leaf none)
theorem ZuI (a : HL Zi) : Zg (envX Tryz.prog (ZU 17) [] 2047 8) Tryz.f42 Zi ZD a = Zj3 a.1 a.2.1 a.2.2 := by kernel_rfl
def ZjZ (c : TC) (s : Int) (g : List Int) : RT (Option (TY × Bool)) :=
 let x1 : List TY := [(12, pcOf c, 0, 6)] ++ [(5, u16.wrap ((spOf c) - 1), u8.wrap (shrI u16 (pcOf c) 8), 3)] ++ [(5, u16.wrap ((spOf c) - 2), u8.wrap (pcOf c), 3)]
 let x3 : List TY := [(bif s == 5 then 8 else 1, pcOf c, 0, 4)]
 .br (Zb s || (!decide (iN (List.length g) > 0) || (!Zf 0 (List.length g) || (Za c.1 (R.get (R.int u8) g 0)).1 == 21))) (.br (Zb s || (!decide (iN (List.length g) > 0) || Zf 0 (List.length g))) (.br (Zb s) (fin3 g x1) (fin3 g x3)) (.leaf none)) (.leaf none)
theorem ZuE (a : HL Zi) : Zg (envX Tryz.prog (ZU 21) [] 2047 8) Tryz.f42 Zi ZD a = ZjZ a.1 a.2.1 a.2.2 := by kernel_rfl
def ZjV (c : TC) (s : Int) (g : List Int) : RT (Option (TY × Bool)) :=
 let x1 := u16.wrap ((spOf c) - 1)
 let x2 := u16.wrap ((spOf c) - 2)
 let x3 : List TY := [(12, pcOf c, 0, 6)] ++ [(5, x1, u8.wrap (shrI u16 (pcOf c) 8), 3)] ++ [(5, x2, u8.wrap (pcOf c), 3)]
 let x5 : List TY := [(bif s == 5 then 8 else 1, pcOf c, 0, 4)]
 let x6 : List TY := [(9, pcOf c, 0, 3)]
 let x7 : List TY := x5 ++ x6
 let x8 : QT3 := (c, s == 5, g, x7)
 let x9 := Zy x8 (Za c.1 (R.get (R.int u8) g 0)).2.1
 let x10 : List TY := bif Zdx x8 (25, (Za c.1 (R.get (R.int u8) g 0)).2) then x7 ++ [(5, x1, u8.wrap (shrI u16 x9 8), 3)] ++ [(5, x2, u8.wrap x9, 3)] else x7
 let x12 : List TY := x5 ++ [(2, u16.wrap ((pcOf c) + u16.wrap 1), 0, 3)]
 let x13 : QT3 := (c, s == 5, g, x12)
 let x14 := Zy x13 (Za c.1 (R.get (R.int u8) g 0)).2.1
 let x15 : List TY := bif Zdx x13 (25, (Za c.1 (R.get (R.int u8) g 0)).2) then x12 ++ [(5, x1, u8.wrap (shrI u16 x14 8), 3)] ++ [(5, x2, u8.wrap x14, 3)] else x12
 let x17 : List TY := [(2, u16.wrap ((pcOf c) + u16.wrap (i64.wrap (1 + 1))), 0, 3)]
 let x18 : List TY := bif s == 5 then x7 ++ x6 else x7 ++ x17
 let x19 : QT3 := (c, s == 5, g, x18)
 let x20 := Zy x19 (Za c.1 (R.get (R.int u8) g 0)).2.1
 let x21 : List TY := bif Zdx x19 (25, (Za c.1 (R.get (R.int u8) g 0)).2) then x18 ++ [(5, x1, u8.wrap (shrI u16 x20 8), 3)] ++ [(5, x2, u8.wrap x20, 3)] else x18
 let x23 : List TY := bif s == 5 then x12 ++ x6 else x12 ++ x17
 let x24 : QT3 := (c, s == 5, g, x23)
 let x25 := Zy x24 (Za c.1 (R.get (R.int u8) g 0)).2.1
 let x26 : List TY := bif Zdx x24 (25, (Za c.1 (R.get (R.int u8) g 0)).2) then x23 ++ [(5, x1, u8.wrap (shrI u16 x25 8), 3)] ++ [(5, x2, u8.wrap x25, 3)] else x23
 .br (Zb s || (!decide (iN (List.length g) > 0) || (!Zf 0 (List.length g) || (Za c.1 (R.get (R.int u8) g 0)).1 == 25))) (.br (Zb s || (!decide (iN (List.length g) > 0) || Zf 0 (List.length g))) (.br (Zb s) (fin3 g x3) (.br (decide (iN (List.length g) > 0)) (.br (rOn c.1 && !Zdx (c, s == 5, g, x5) (25, (Za c.1 (R.get (R.int u8) g 0)).2)) (.br (s == 5) (fin3 g x10) (fin3 g x15)) (.br (s == 5) (fin3 g x21) (fin3 g x26))) (fin3 g x5))) (.leaf none)) (.leaf none)
theorem ZuA (a : HL Zi) : Zg (envX Tryz.prog (ZU 25) [] 2047 8) Tryz.f42 Zi ZD a = ZjV a.1 a.2.1 a.2.2 := by kernel_rfl
def ZjR (c : TC) (s : Int) (g : List Int) : RT (Option (TY × Bool)) :=
 let x1 : List TY := [(12, pcOf c, 0, 6)] ++ [(5, u16.wrap ((spOf c) - 1), u8.wrap (shrI u16 (pcOf c) 8), 3)] ++ [(5, u16.wrap ((spOf c) - 2), u8.wrap (pcOf c), 3)]
 let x3 : List TY := [(bif s == 5 then 8 else 1, pcOf c, 0, 4)]
 .br (Zb s || (!decide (iN (List.length g) > 0) || (!Zf 0 (List.length g) || (Za c.1 (R.get (R.int u8) g 0)).1 == 29))) (.br (Zb s || (!decide (iN (List.length g) > 0) || Zf 0 (List.length g))) (.br (Zb s) (fin3 g x1) (fin3 g x3)) (.leaf none)) (.leaf none)
theorem Zuw (a : HL Zi) : Zg (envX Tryz.prog (ZU 29) [] 2047 8) Tryz.f42 Zi ZD a = ZjR a.1 a.2.1 a.2.2 := by kernel_rfl
def ZjN (c : TC) (s : Int) (g : List Int) : RT (Option (TY × Bool)) :=
 let x1 : List TY := [(bif s == 5 then 8 else 1, pcOf c, 0, 4)]
 let x2 : List TY := x1 ++ [(9, pcOf c, 0, 3)]
 let x3 : QT3 := (c, s == 5, g, x2)
 let x4 := mAtC x3 1
 let x5 := !x4 || x4
 let x6 := !s == 5 || (!x5 || x4)
 let x7 := !x6
 let x8 := !s == 5 || x5
 let x9 := !x8
 let x10 : List TY := x1 ++ [(2, u16.wrap ((pcOf c) + u16.wrap 1), 0, 3)]
 let x11 : QT3 := (c, s == 5, g, x10)
 let x12 := mAtC x11 1
 let x13 := !x12 || x12
 let x14 := s == 5 || (!x13 || x12)
 let x15 : List TY := [(12, pcOf c, 0, 6)] ++ [(5, u16.wrap ((spOf c) - 1), u8.wrap (shrI u16 (pcOf c) 8), 3)] ++ [(5, u16.wrap ((spOf c) - 2), u8.wrap (pcOf c), 3)]
 let x17 := mAt x3 1
 let x18 : List TY := x2 ++ [(6, Zb3 x17 x17, 0, 3)]
 let x20 := mAt x11 1
 let x21 : List TY := x10 ++ [(6, Zb3 x20 x20, 0, 3)]
 .br (Zb s || (!decide (iN (List.length g) > 0) || (!Zf 0 (List.length g) || (!(Za c.1 (R.get (R.int u8) g 0)).1 == 33 || (x7 || (x9 || (!x14 || (s == 5 || x13)))))))) (.br (Zb s || (!decide (iN (List.length g) > 0) || (!Zf 0 (List.length g) || (!(Za c.1 (R.get (R.int u8) g 0)).1 == 33 || (x7 || (x9 || x14)))))) (.br (Zb s || (!decide (iN (List.length g) > 0) || (!Zf 0 (List.length g) || (!(Za c.1 (R.get (R.int u8) g 0)).1 == 33 || (x7 || x8))))) (.br (Zb s || (!decide (iN (List.length g) > 0) || (!Zf 0 (List.length g) || (!(Za c.1 (R.get (R.int u8) g 0)).1 == 33 || x6)))) (.br (Zb s || (!decide (iN (List.length g) > 0) || (!Zf 0 (List.length g) || (Za c.1 (R.get (R.int u8) g 0)).1 == 33))) (.br (Zb s || (!decide (iN (List.length g) > 0) || Zf 0 (List.length g))) (.br (Zb s) (fin3 g x15) (.br (decide (iN (List.length g) > 0)) (.br (s == 5) (fin3 g x18) (fin3 g x21)) (fin3 g x1))) (.leaf none)) (.leaf none)) (.leaf none)) (.leaf none)) (.leaf none)) (.leaf none)
theorem Zus (a : HL Zi) : Zg (envX Tryz.prog (ZU 33) [] 2047 8) Tryz.f42 Zi ZD a = ZjN a.1 a.2.1 a.2.2 := by kernel_rfl
def ZjJ (c : TC) (s : Int) (g : List Int) : RT (Option (TY × Bool)) :=
 let x1 : List TY := [(12, pcOf c, 0, 6)] ++ [(5, u16.wrap ((spOf c) - 1), u8.wrap (shrI u16 (pcOf c) 8), 3)] ++ [(5, u16.wrap ((spOf c) - 2), u8.wrap (pcOf c), 3)]
 let x3 : List TY := [(bif s == 5 then 8 else 1, pcOf c, 0, 4)]
 let x4 : List TY := x3 ++ [(10, pcOf c, 0, 3)]
 let x6 : Nat := List.length x3
 let x7 := decide (iN (List.length g) ≥ iN x6)
 let x8 := Zf (iN (List.length g)) x6
 let x9 : TY × Bool := (R.get (RY) x3 (iN (List.length g)), true)
 .br (Zb s || (!decide (iN (List.length g) > 0) || (!Zf 0 (List.length g) || (Za c.1 (R.get (R.int u8) g 0)).1 == 37))) (.br (Zb s || (!decide (iN (List.length g) > 0) || Zf 0 (List.length g))) (.br (Zb s) (fin3 g x1) (.br (decide (iN (List.length g) > 0)) (.br (!rOn c.1) (fin3 g x4) (.br (x7) (.leaf (some (((0, 0, 0, 0), false)))) (.br (x8) (.leaf (some (x9))) (.leaf none)))) (.br (x7) (.leaf (some (((0, 0, 0, 0), false)))) (.br (x8) (.leaf (some (x9))) (.leaf none))))) (.leaf none)) (.leaf none)
theorem Zuo (a : HL Zi) : Zg (envX Tryz.prog (ZU 37) [] 2047 8) Tryz.f42 Zi ZD a = ZjJ a.1 a.2.1 a.2.2 := by kernel_rfl
def ZjF (c : TC) (s : Int) (g : List Int) : RT (Option (TY × Bool)) :=
 let x1 : List TY := [(12, pcOf c, 0, 6)] ++ [(5, u16.wrap ((spOf c) - 1), u8.wrap (shrI u16 (pcOf c) 8), 3)] ++ [(5, u16.wrap ((spOf c) - 2), u8.wrap (pcOf c), 3)]
 let x3 : List TY := [(bif s == 5 then 8 else 1, pcOf c, 0, 4)]
 let x4 : List TY := x3 ++ [(11, pcOf c, 0, 3)]
 .br (Zb s || (!decide (iN (List.length g) > 0) || (!Zf 0 (List.length g) || (Za c.1 (R.get (R.int u8) g 0)).1 == 41))) (.br (Zb s || (!decide (iN (List.length g) > 0) || Zf 0 (List.length g))) (.br (Zb s) (fin3 g x1) (.br (decide (iN (List.length g) > 0)) (fin3 g x4) (fin3 g x3))) (.leaf none)) (.leaf none)
theorem Zuk (a : HL Zi) : Zg (envX Tryz.prog (ZU 41) [] 2047 8) Tryz.f42 Zi ZD a = ZjF a.1 a.2.1 a.2.2 := by kernel_rfl
def ZjB (c : TC) (s : Int) (g : List Int) : RT (Option (TY × Bool)) :=
 let x1 := u16.wrap ((spOf c) - 1)
 let x2 := u16.wrap ((spOf c) - 2)
 let x3 : List TY := [(12, pcOf c, 0, 6)] ++ [(5, x1, u8.wrap (shrI u16 (pcOf c) 8), 3)] ++ [(5, x2, u8.wrap (pcOf c), 3)]
 let x5 : List TY := [(bif s == 5 then 8 else 1, pcOf c, 0, 4)]
 let x6 : QT3 := (c, s == 5, g, x5)
 let x7 := Zy x6 (Za c.1 (R.get (R.int u8) g 0)).2.1
 let x8 : List TY := x5 ++ [(5, x1, u8.wrap (shrI u16 x7 8), 3)] ++ [(5, x2, u8.wrap x7, 3)]
 let x10 : Nat := List.length x5
 let x11 := decide (iN (List.length g) ≥ iN x10)
 let x12 := Zf (iN (List.length g)) x10
 let x13 : TY × Bool := (R.get (RY) x5 (iN (List.length g)), true)
 .br (Zb s || (!decide (iN (List.length g) > 0) || (!Zf 0 (List.length g) || (Za c.1 (R.get (R.int u8) g 0)).1 == 45))) (.br (Zb s || (!decide (iN (List.length g) > 0) || Zf 0 (List.length g))) (.br (Zb s) (fin3 g x3) (.br (decide (iN (List.length g) > 0)) (.br (Zdx x6 (45, (Za c.1 (R.get (R.int u8) g 0)).2)) (fin3 g x8) (.br (x11) (.leaf (some (((0, 0, 0, 0), false)))) (.br (x12) (.leaf (some (x13))) (.leaf none)))) (.br (x11) (.leaf (some (((0, 0, 0, 0), false)))) (.br (x12) (.leaf (some (x13))) (.leaf none))))) (.leaf none)) (.leaf none)
theorem Zug (a : HL Zi) : Zg (envX Tryz.prog (ZU 45) [] 2047 8) Tryz.f42 Zi ZD a = ZjB a.1 a.2.1 a.2.2 := by kernel_rfl
theorem nx_2 (c) (s : Int) (g : List Int) (n : Int) (hk : (Za c.1 (g.getD 0 0)).1 = n) : (n = 4 → (ZpG c s g).val = some (Zt c s g)) ∧ (n = 8 → (ZpC c s g).val = some (Zt c s g)) ∧ (n = 13 → (Zk7 c s g).val = some (Zt c s g)) ∧ (n = 19 → (Zk1 c s g).val = some (Zt c s g)) ∧ (n = 23 → (ZkX c s g).val = some (Zt c s g)) ∧ (n = 31 → (ZkP c s g).val = some (Zt c s g)) ∧ (n = 36 → (ZkK c s g).val = some (Zt c s g)) ∧ (n = 41 → (ZkF c s g).val = some (Zt c s g)) ∧ (n = 46 → (ZkA c s g).val = some (Zt c s g)) ∧ (n = 4 → (Zos c s g).val = some (Zt c s g)) ∧ (n = 8 → (Zoo c s g).val = some (Zt c s g)) ∧ (n = 13 → (Zj7 c s g).val = some (Zt c s g)) ∧ (n = 19 → (Zj1 c s g).val = some (Zt c s g)) ∧ (n = 23 → (ZjX c s g).val = some (Zt c s g)) ∧ (n = 31 → (ZjP c s g).val = some (Zt c s g)) ∧ (n = 36 → (ZjK c s g).val = some (Zt c s g)) ∧ (n = 41 → (ZjF c s g).val = some (Zt c s g)) ∧ (n = 46 → (ZjA c s g).val = some (Zt c s g)) := by
 refine ⟨?_, ?_, ?_, ?_, ?_, ?_, ?_, ?_, ?_, ?_, ?_, ?_, ?_, ?_, ?_, ?_, ?_, ?_⟩
 all_goals intro e; subst e
 all_goals simp only [ZpG, ZpC, Zk7, Zk1, ZkX, ZkP, ZkK, ZkF, ZkA, Zos, Zoo, Zj7, Zj1, ZjX, ZjP, ZjK, ZjF, ZjA, RT.val, fin3, pk]
 all_goals simp only [qat0, mat0, qat1, mat1, rg0, hk, Zs, ZR, Z4, ZF, ZG, Zv, Zx, ZaD, ZaF, ZaE, Zr, ZaR, Zt, Ziz, ZI, Za1]
 all_goals generalize Zb s = bi
 all_goals generalize (s == 5) = bs
 all_goals cases g with
 | nil => cases bi <;> cases bs <;> simp [ZlH, Zbh, pcOf, spOf, Zcd]
 | cons o t =>
  simp only [List.getD_cons_zero] at hk
  simp only [len0, List.getD_cons_zero, ZiF, hk, Zca, Za1, ZI, Zev, bne]
  generalize Za c.1 o = i at hk ⊢
  cases bi <;> cases bs <;> simp [Zbi, Zcd, popX, pcOf, spOf, opC, Zhs, ZdI, ZaS, Zf8, Zbp, setI, R.get]
theorem nx_4 (c) (s : Int) (g : List Int) (n : Int) (hk : (Za c.1 (g.getD 0 0)).1 = n) : (n = 6 → (ZpE c s g).val = some (Zt c s g)) ∧ (n = 10 → (Zla c s g).val = some (Zt c s g)) ∧ (n = 17 → (Zk3 c s g).val = some (Zt c s g)) ∧ (n = 21 → (ZkZ c s g).val = some (Zt c s g)) ∧ (n = 28 → (ZkS c s g).val = some (Zt c s g)) ∧ (n = 34 → (ZkM c s g).val = some (Zt c s g)) ∧ (n = 39 → (ZkH c s g).val = some (Zt c s g)) ∧ (n = 43 → (ZkD c s g).val = some (Zt c s g)) ∧ (n = 6 → (Zoq c s g).val = some (Zt c s g)) ∧ (n = 10 → (Zka c s g).val = some (Zt c s g)) ∧ (n = 17 → (Zj3 c s g).val = some (Zt c s g)) ∧ (n = 21 → (ZjZ c s g).val = some (Zt c s g)) ∧ (n = 28 → (ZjS c s g).val = some (Zt c s g)) ∧ (n = 34 → (ZjM c s g).val = some (Zt c s g)) ∧ (n = 39 → (ZjH c s g).val = some (Zt c s g)) ∧ (n = 43 → (ZjD c s g).val = some (Zt c s g)) := by
 refine ⟨?_, ?_, ?_, ?_, ?_, ?_, ?_, ?_, ?_, ?_, ?_, ?_, ?_, ?_, ?_, ?_⟩
 all_goals intro e; subst e
 all_goals simp only [ZpE, Zla, Zk3, ZkZ, ZkS, ZkM, ZkH, ZkD, Zoq, Zka, Zj3, ZjZ, ZjS, ZjM, ZjH, ZjD, RT.val, fin3, pk]
 all_goals simp only [qat0, mat0, qat1, mat1, rg0, hk, Zs, ZR, Z4, ZF, ZG, Zv, Zx, ZaD, ZaF, ZaE, Zr, ZaR, Zt, Ziz, ZI, Za1]
 all_goals generalize Zb s = bi
 all_goals generalize (s == 5) = bs
 all_goals cases g with
 | nil => cases bi <;> cases bs <;> simp [ZlH, Zbh, pcOf, spOf, Zcd]
 | cons o t =>
  simp only [List.getD_cons_zero] at hk
  simp only [len0, List.getD_cons_zero, ZiF, hk, Zca, Za1, ZI, Zev, bne]
  generalize Za c.1 o = i at hk ⊢
  cases bi <;> cases bs <;> simp [Zbi, Zcd, popX, pcOf, spOf, opC, Zhs, ZdI, ZaS, Zf8, Zbp, setI, R.get]
theorem nx_6 (c) (s : Int) (g : List Int) (n : Int) (hk : (Za c.1 (g.getD 0 0)).1 = n) : (n = 3 → (ZpH c s g).val = some (Zt c s g)) ∧ (n = 14 → (Zk6 c s g).val = some (Zt c s g)) ∧ (n = 15 → (Zk5 c s g).val = some (Zt c s g)) ∧ (n = 3 → (Zot c s g).val = some (Zt c s g)) ∧ (n = 14 → (Zj6 c s g).val = some (Zt c s g)) ∧ (n = 15 → (Zj5 c s g).val = some (Zt c s g)) := by
 refine ⟨?_, ?_, ?_, ?_, ?_, ?_⟩
 all_goals intro e; subst e
 all_goals simp only [ZpH, Zk6, Zk5, Zot, Zj6, Zj5, RT.val, fin3, pk]
 all_goals simp only [qat0, mat0, qat1, mat1, rg0, hk, Zs, ZR, Z4, ZF, ZG, Zv, Zx, ZaD, ZaF, ZaE, Zr, ZaR, Zt, Ziz, ZI, Za1]
 all_goals generalize Zb s = bi
 all_goals generalize (s == 5) = bs
 all_goals cases g with
 | nil => cases bi <;> cases bs <;> simp [ZlH, Zbh, pcOf, spOf, Zcd]
 | cons o t =>
  simp only [List.getD_cons_zero] at hk
  simp only [len0, List.getD_cons_zero, ZiF, hk, Zca, Za1, ZI, Zev, bne]
  generalize Za c.1 o = i at hk ⊢
  generalize (i.2.2.1 == 6) = b0
  cases b0 <;> cases bi <;> cases bs <;> simp [Zbi, Zcd, popX, pcOf, spOf, opC, Zhs, ZdI, ZaS, Zf8, Zbp, setI, R.get]
theorem nx_8 (c) (s : Int) (g : List Int) (n : Int) (hk : (Za c.1 (g.getD 0 0)).1 = n) : (n = 24 → (ZkW c s g).val = some (Zt c s g)) ∧ (n = 25 → (ZkV c s g).val = some (Zt c s g)) ∧ (n = 24 → (ZjW c s g).val = some (Zt c s g)) ∧ (n = 25 → (ZjV c s g).val = some (Zt c s g)) := by
 refine ⟨?_, ?_, ?_, ?_⟩
 all_goals intro e; subst e
 all_goals simp only [ZkW, ZkV, ZjW, ZjV, RT.val, fin3, pk]
 all_goals simp only [qat0, mat0, qat1, mat1, rg0, hk, Zs, ZR, Z4, ZF, ZG, Zv, Zx, ZaD, ZaF, ZaE, Zr, ZaR, Zt, Ziz, ZI, Za1]
 all_goals generalize Zb s = bi
 all_goals generalize (s == 5) = bs
 all_goals cases g with
 | nil => cases bi <;> cases bs <;> simp [ZlH, Zbh, pcOf, spOf, Zcd]
 | cons o t =>
  simp only [List.getD_cons_zero] at hk
  simp only [len0, List.getD_cons_zero, ZiF, hk, Zca, Za1, ZI, Zev, bne]
  generalize Za c.1 o = i at hk ⊢
  generalize Zdu _ _ = b0
  generalize (c.1 == 2) = b1
  cases b0 <;> cases b1 <;> cases bi <;> cases bs <;> simp [Zbi, Zcd, popX, pcOf, spOf, opC, Zhs, ZdI, ZaS, Zf8, Zbp, setI, R.get]
theorem ZNT (c) (s : Int) (g : List Int) (n : Int) (hk : (Za c.1 (g.getD 0 0)).1 = n) : (n = 30 → (ZkQ c s g).val = some (Zt c s g)) ∧ (n = 30 → (ZjQ c s g).val = some (Zt c s g)) := by
 refine ⟨?_, ?_⟩
 all_goals intro e; subst e
 all_goals simp only [ZkQ, ZjQ, RT.val, fin3, pk]
 all_goals simp only [qat0, mat0, qat1, mat1, rg0, hk, Zs, ZR, Z4, ZF, ZG, Zv, Zx, ZaD, ZaF, ZaE, Zr, ZaR, Zt, Ziz, ZI, Za1]
 all_goals generalize Zb s = bi
 all_goals generalize (s == 5) = bs
 all_goals cases g with
 | nil => cases bi <;> cases bs <;> simp [ZlH, Zbh, pcOf, spOf, Zcd]
 | cons o t =>
  simp only [List.getD_cons_zero] at hk
  simp only [len0, List.getD_cons_zero, ZiF, hk, Zca, Za1, ZI, Zev, bne]
  generalize Za c.1 o = i at hk ⊢
  generalize (i.2.2.2.2.1 == 3) = b0
  cases b0 <;> cases bi <;> cases bs <;> simp [Zbi, Zcd, popX, pcOf, spOf, opC, Zhs, ZdI, ZaS, Zf8, Zbp, setI, R.get]
theorem nx_1 (c) (s : Int) (g : List Int) (n : Int) (hk : (Za c.1 (g.getD 0 0)).1 = n) : (n = 1 → (ZpJ c s g).val = some (Zt c s g)) ∧ (n = 7 → (ZpD c s g).val = some (Zt c s g)) ∧ (n = 11 → (Zk9 c s g).val = some (Zt c s g)) ∧ (n = 18 → (Zk2 c s g).val = some (Zt c s g)) ∧ (n = 22 → (ZkY c s g).val = some (Zt c s g)) ∧ (n = 29 → (ZkR c s g).val = some (Zt c s g)) ∧ (n = 35 → (ZkL c s g).val = some (Zt c s g)) ∧ (n = 40 → (ZkG c s g).val = some (Zt c s g)) ∧ (n = 44 → (ZkC c s g).val = some (Zt c s g)) ∧ (n = 1 → (Zov c s g).val = some (Zt c s g)) ∧ (n = 7 → (Zop c s g).val = some (Zt c s g)) ∧ (n = 11 → (Zj9 c s g).val = some (Zt c s g)) ∧ (n = 18 → (Zj2 c s g).val = some (Zt c s g)) ∧ (n = 22 → (ZjY c s g).val = some (Zt c s g)) ∧ (n = 29 → (ZjR c s g).val = some (Zt c s g)) ∧ (n = 35 → (ZjL c s g).val = some (Zt c s g)) ∧ (n = 40 → (ZjG c s g).val = some (Zt c s g)) ∧ (n = 44 → (ZjC c s g).val = some (Zt c s g)) := by
 refine ⟨?_, ?_, ?_, ?_, ?_, ?_, ?_, ?_, ?_, ?_, ?_, ?_, ?_, ?_, ?_, ?_, ?_, ?_⟩
 all_goals intro e; subst e
 all_goals simp only [ZpJ, ZpD, Zk9, Zk2, ZkY, ZkR, ZkL, ZkG, ZkC, Zov, Zop, Zj9, Zj2, ZjY, ZjR, ZjL, ZjG, ZjC, RT.val, fin3, pk]
 all_goals simp only [qat0, mat0, qat1, mat1, rg0, hk, Zs, ZR, Z4, ZF, ZG, Zv, Zx, ZaD, ZaF, ZaE, Zr, ZaR, Zt, Ziz, ZI, Za1]
 all_goals generalize Zb s = bi
 all_goals generalize (s == 5) = bs
 all_goals cases g with
 | nil => cases bi <;> cases bs <;> simp [ZlH, Zbh, pcOf, spOf, Zcd]
 | cons o t =>
  simp only [List.getD_cons_zero] at hk
  simp only [len0, List.getD_cons_zero, ZiF, hk, Zca, Za1, ZI, Zev, bne]
  generalize Za c.1 o = i at hk ⊢
  cases bi <;> cases bs <;> simp [Zbi, Zcd, popX, pcOf, spOf, opC, Zhs, ZdI, ZaS, Zf8, Zbp, setI, R.get]
theorem nx_3 (c) (s : Int) (g : List Int) (n : Int) (hk : (Za c.1 (g.getD 0 0)).1 = n) : (n = 5 → (ZpF c s g).val = some (Zt c s g)) ∧ (n = 9 → (ZpB c s g).val = some (Zt c s g)) ∧ (n = 16 → (Zk4 c s g).val = some (Zt c s g)) ∧ (n = 20 → (Zk0 c s g).val = some (Zt c s g)) ∧ (n = 27 → (ZkT c s g).val = some (Zt c s g)) ∧ (n = 33 → (ZkN c s g).val = some (Zt c s g)) ∧ (n = 38 → (ZkI c s g).val = some (Zt c s g)) ∧ (n = 42 → (ZkE c s g).val = some (Zt c s g)) ∧ (n = 47 → (Zkz c s g).val = some (Zt c s g)) ∧ (n = 5 → (Zor c s g).val = some (Zt c s g)) ∧ (n = 9 → (Zon c s g).val = some (Zt c s g)) ∧ (n = 16 → (Zj4 c s g).val = some (Zt c s g)) ∧ (n = 20 → (Zj0 c s g).val = some (Zt c s g)) ∧ (n = 27 → (ZjT c s g).val = some (Zt c s g)) ∧ (n = 33 → (ZjN c s g).val = some (Zt c s g)) ∧ (n = 38 → (ZjI c s g).val = some (Zt c s g)) ∧ (n = 42 → (ZjE c s g).val = some (Zt c s g)) ∧ (n = 47 → (Zjz c s g).val = some (Zt c s g)) := by
 refine ⟨?_, ?_, ?_, ?_, ?_, ?_, ?_, ?_, ?_, ?_, ?_, ?_, ?_, ?_, ?_, ?_, ?_, ?_⟩
 all_goals intro e; subst e
 all_goals simp only [ZpF, ZpB, Zk4, Zk0, ZkT, ZkN, ZkI, ZkE, Zkz, Zor, Zon, Zj4, Zj0, ZjT, ZjN, ZjI, ZjE, Zjz, RT.val, fin3, pk]
 all_goals simp only [qat0, mat0, qat1, mat1, rg0, hk, Zs, ZR, Z4, ZF, ZG, Zv, Zx, ZaD, ZaF, ZaE, Zr, ZaR, Zt, Ziz, ZI, Za1]
 all_goals generalize Zb s = bi
 all_goals generalize (s == 5) = bs
 all_goals cases g with
 | nil => cases bi <;> cases bs <;> simp [ZlH, Zbh, pcOf, spOf, Zcd]
 | cons o t =>
  simp only [List.getD_cons_zero] at hk
  simp only [len0, List.getD_cons_zero, ZiF, hk, Zca, Za1, ZI, Zev, bne]
  generalize Za c.1 o = i at hk ⊢
  cases bi <;> cases bs <;> simp [Zbi, Zcd, popX, pcOf, spOf, opC, Zhs, ZdI, ZaS, Zf8, Zbp, setI, R.get]
theorem nx_5 (c) (s : Int) (g : List Int) (n : Int) (hk : (Za c.1 (g.getD 0 0)).1 = n) : (n = 2 → (ZpI c s g).val = some (Zt c s g)) ∧ (n = 2 → (Zou c s g).val = some (Zt c s g)) := by
 refine ⟨?_, ?_⟩
 all_goals intro e; subst e
 all_goals simp only [ZpI, Zou, RT.val, fin3, pk]
 all_goals simp only [qat0, mat0, qat1, mat1, rg0, hk, Zs, ZR, Z4, ZF, ZG, Zv, Zx, ZaD, ZaF, ZaE, Zr, ZaR, Zt, Ziz, ZI, Za1]
 all_goals generalize Zb s = bi
 all_goals generalize (s == 5) = bs
 all_goals cases g with
 | nil => cases bi <;> cases bs <;> simp [ZlH, Zbh, pcOf, spOf, Zcd]
 | cons o t =>
  simp only [List.getD_cons_zero] at hk
  simp only [len0, List.getD_cons_zero, ZiF, hk, Zca, Za1, ZI, Zev, bne]
  generalize Za c.1 o = i at hk ⊢
  generalize (i.2.2.2.1 == 6) = b0
  generalize (i.2.2.1 == 6) = b1
  cases b0 <;> cases b1 <;> cases bi <;> cases bs <;> simp [Zbi, Zcd, popX, pcOf, spOf, opC, Zhs, ZdI, ZaS, Zf8, Zbp, setI, R.get]
theorem nx_7 (c) (s : Int) (g : List Int) (n : Int) (hk : (Za c.1 (g.getD 0 0)).1 = n) : (n = 12 → (Zk8 c s g).val = some (Zt c s g)) ∧ (n = 12 → (Zj8 c s g).val = some (Zt c s g)) := by
 refine ⟨?_, ?_⟩
 all_goals intro e; subst e
 all_goals simp only [Zk8, Zj8, RT.val, fin3, pk]
 all_goals simp only [qat0, mat0, qat1, mat1, rg0, hk, Zs, ZR, Z4, ZF, ZG, Zv, Zx, ZaD, ZaF, ZaE, Zr, ZaR, Zt, Ziz, ZI, Za1]
 all_goals generalize Zb s = bi
 all_goals generalize (s == 5) = bs
 all_goals cases g with
 | nil => cases bi <;> cases bs <;> simp [ZlH, Zbh, pcOf, spOf, Zcd]
 | cons o t =>
  simp only [List.getD_cons_zero] at hk
  simp only [len0, List.getD_cons_zero, ZiF, hk, Zca, Za1, ZI, Zev, bne]
  generalize Za c.1 o = i at hk ⊢
  generalize (i.2.2.2.1 == 6) = b0
  cases b0 <;> cases bi <;> cases bs <;> simp [Zbi, Zcd, popX, pcOf, spOf, opC, Zhs, ZdI, ZaS, Zf8, Zbp, setI, R.get]
theorem nx_9 (c) (s : Int) (g : List Int) (n : Int) (hk : (Za c.1 (g.getD 0 0)).1 = n) : (n = 26 → (ZkU c s g).val = some (Zt c s g)) ∧ (n = 45 → (ZkB c s g).val = some (Zt c s g)) ∧ (n = 26 → (ZjU c s g).val = some (Zt c s g)) ∧ (n = 45 → (ZjB c s g).val = some (Zt c s g)) := by
 refine ⟨?_, ?_, ?_, ?_⟩
 all_goals intro e; subst e
 all_goals simp only [ZkU, ZkB, ZjU, ZjB, RT.val, fin3, pk]
 all_goals simp only [qat0, mat0, qat1, mat1, rg0, hk, Zs, ZR, Z4, ZF, ZG, Zv, Zx, ZaD, ZaF, ZaE, Zr, ZaR, Zt, Ziz, ZI, Za1]
 all_goals generalize Zb s = bi
 all_goals generalize (s == 5) = bs
 all_goals cases g with
 | nil => cases bi <;> cases bs <;> simp [ZlH, Zbh, pcOf, spOf, Zcd]
 | cons o t =>
  simp only [List.getD_cons_zero] at hk
  simp only [len0, List.getD_cons_zero, ZiF, hk, Zca, Za1, ZI, Zev, bne]
  generalize Za c.1 o = i at hk ⊢
  generalize Zdu _ _ = b0
  cases b0 <;> cases bi <;> cases bs <;> simp [Zbi, Zcd, popX, pcOf, spOf, opC, Zhs, ZdI, ZaS, Zf8, Zbp, setI, R.get]
theorem ZIE (c) (s : Int) (g : List Int) (n : Int) (hk : (Za c.1 (g.getD 0 0)).1 = n) : (n = 32 → (ZkO c s g).val = some (Zt c s g)) ∧ (n = 37 → (ZkJ c s g).val = some (Zt c s g)) ∧ (n = 32 → (ZjO c s g).val = some (Zt c s g)) ∧ (n = 37 → (ZjJ c s g).val = some (Zt c s g)) := by
 refine ⟨?_, ?_, ?_, ?_⟩
 all_goals intro e; subst e
 all_goals simp only [ZkO, ZkJ, ZjO, ZjJ, RT.val, fin3, pk]
 all_goals simp only [qat0, mat0, qat1, mat1, rg0, hk, Zs, ZR, Z4, ZF, ZG, Zv, Zx, ZaD, ZaF, ZaE, Zr, ZaR, Zt, Ziz, ZI, Za1]
 all_goals generalize Zb s = bi
 all_goals generalize (s == 5) = bs
 all_goals cases g with
 | nil => cases bi <;> cases bs <;> simp [ZlH, Zbh, pcOf, spOf, Zcd]
 | cons o t =>
  simp only [List.getD_cons_zero] at hk
  simp only [len0, List.getD_cons_zero, ZiF, hk, Zca, Za1, ZI, Zev, bne]
  generalize Za c.1 o = i at hk ⊢
  generalize (c.1 == 2) = b0
  cases b0 <;> cases bi <;> cases bs <;> simp [Zbi, Zcd, popX, pcOf, spOf, opC, Zhs, ZdI, ZaS, Zf8, Zbp, setI, R.get]
theorem ZIl (a : HL Zj) (h : okHL Zj a) : ∃ l, Zc0 Tryz.prog l ∧ (Zg (envX Tryz.prog l [] 1125900980585471 8) Tryz.f113 Zj ZE a).val = some (Zt a.1 a.2.1 a.2.2) := by
 have hk := ZqU a.1.1 _ (ZqX h.2.2)
 refine ⟨ZW (Za a.1.1 (a.2.2.getD 0 0)).1, ZE2 _, ?_⟩
 rcases ZqT hk.1 hk.2 with e | e | e | e | e | e | e | e | e | e | e | e | e | e | e | e | e | e | e | e | e | e | e | e | e | e | e | e | e | e | e | e | e | e | e | e | e | e | e | e | e | e | e | e | e | e | e
 ·rw [e, ZAY a, ((nx_1 a.1 a.2.1 a.2.2 _ e).1 rfl)]
 ·rw [e, ZAX a, ((nx_5 a.1 a.2.1 a.2.2 _ e).1 rfl)]
 ·rw [e, ZAW a, ((nx_6 a.1 a.2.1 a.2.2 _ e).1 rfl)]
 ·rw [e, ZAV a, ((nx_2 a.1 a.2.1 a.2.2 _ e).1 rfl)]
 ·rw [e, ZAU a, ((nx_3 a.1 a.2.1 a.2.2 _ e).1 rfl)]
 ·rw [e, ZAT a, ((nx_4 a.1 a.2.1 a.2.2 _ e).1 rfl)]
 ·rw [e, ZAS a, ((nx_1 a.1 a.2.1 a.2.2 _ e).2.1 rfl)]
 ·rw [e, ZAR a, ((nx_2 a.1 a.2.1 a.2.2 _ e).2.1 rfl)]
 ·rw [e, ZAQ a, ((nx_3 a.1 a.2.1 a.2.2 _ e).2.1 rfl)]
 ·rw [e, Zv6 a, ((nx_4 a.1 a.2.1 a.2.2 _ e).2.1 rfl)]
 ·rw [e, Zv5 a, ((nx_1 a.1 a.2.1 a.2.2 _ e).2.2.1 rfl)]
 ·rw [e, Zv4 a, ((nx_7 a.1 a.2.1 a.2.2 _ e).1 rfl)]
 ·rw [e, Zv3 a, ((nx_2 a.1 a.2.1 a.2.2 _ e).2.2.1 rfl)]
 ·rw [e, Zv2 a, ((nx_6 a.1 a.2.1 a.2.2 _ e).2.1 rfl)]
 ·rw [e, Zv1 a, ((nx_6 a.1 a.2.1 a.2.2 _ e).2.2.1 rfl)]
 ·rw [e, Zv0 a, ((nx_3 a.1 a.2.1 a.2.2 _ e).2.2.1 rfl)]
 ·rw [e, ZvZ a, ((nx_4 a.1 a.2.1 a.2.2 _ e).2.2.1 rfl)]
 ·rw [e, ZvY a, ((nx_1 a.1 a.2.1 a.2.2 _ e).2.2.2.1 rfl)]
 ·rw [e, ZvX a, ((nx_2 a.1 a.2.1 a.2.2 _ e).2.2.2.1 rfl)]
 ·rw [e, ZvW a, ((nx_3 a.1 a.2.1 a.2.2 _ e).2.2.2.1 rfl)]
 ·rw [e, ZvV a, ((nx_4 a.1 a.2.1 a.2.2 _ e).2.2.2.1 rfl)]
 ·rw [e, ZvU a, ((nx_1 a.1 a.2.1 a.2.2 _ e).2.2.2.2.1 rfl)]
 ·rw [e, ZvT a, ((nx_2 a.1 a.2.1 a.2.2 _ e).2.2.2.2.1 rfl)]
 ·rw [e, ZvS a, ((nx_8 a.1 a.2.1 a.2.2 _ e).1 rfl)]
 ·rw [e, ZvR a, ((nx_8 a.1 a.2.1 a.2.2 _ e).2.1 rfl)]
 ·rw [e, ZvQ a, ((nx_9 a.1 a.2.1 a.2.2 _ e).1 rfl)]
 ·rw [e, ZvP a, ((nx_3 a.1 a.2.1 a.2.2 _ e).2.2.2.2.1 rfl)]
 ·rw [e, ZvO a, ((nx_4 a.1 a.2.1 a.2.2 _ e).2.2.2.2.1 rfl)]
 ·rw [e, ZvN a, ((nx_1 a.1 a.2.1 a.2.2 _ e).2.2.2.2.2.1 rfl)]
 ·rw [e, ZvM a, ((ZNT a.1 a.2.1 a.2.2 _ e).1 rfl)]
 ·rw [e, ZvL a, ((nx_2 a.1 a.2.1 a.2.2 _ e).2.2.2.2.2.1 rfl)]
 ·rw [e, ZvK a, ((ZIE a.1 a.2.1 a.2.2 _ e).1 rfl)]
 ·rw [e, ZvJ a, ((nx_3 a.1 a.2.1 a.2.2 _ e).2.2.2.2.2.1 rfl)]
 ·rw [e, ZvI a, ((nx_4 a.1 a.2.1 a.2.2 _ e).2.2.2.2.2.1 rfl)]
 ·rw [e, ZvH a, ((nx_1 a.1 a.2.1 a.2.2 _ e).2.2.2.2.2.2.1 rfl)]
 ·rw [e, ZvG a, ((nx_2 a.1 a.2.1 a.2.2 _ e).2.2.2.2.2.2.1 rfl)]
 ·rw [e, ZvF a, ((ZIE a.1 a.2.1 a.2.2 _ e).2.1 rfl)]
 ·rw [e, ZvE a, ((nx_3 a.1 a.2.1 a.2.2 _ e).2.2.2.2.2.2.1 rfl)]
 ·rw [e, ZvD a, ((nx_4 a.1 a.2.1 a.2.2 _ e).2.2.2.2.2.2.1 rfl)]
 ·rw [e, ZvC a, ((nx_1 a.1 a.2.1 a.2.2 _ e).2.2.2.2.2.2.2.1 rfl)]
 ·rw [e, ZvB a, ((nx_2 a.1 a.2.1 a.2.2 _ e).2.2.2.2.2.2.2.1 rfl)]
 ·rw [e, ZvA a, ((nx_3 a.1 a.2.1 a.2.2 _ e).2.2.2.2.2.2.2.1 rfl)]
 ·rw [e, Zvz a, ((nx_4 a.1 a.2.1 a.2.2 _ e).2.2.2.2.2.2.2.1 rfl)]
 ·rw [e, Zvy a, ((nx_1 a.1 a.2.1 a.2.2 _ e).2.2.2.2.2.2.2.2.1 rfl)]
 ·rw [e, Zvx a, ((nx_9 a.1 a.2.1 a.2.2 _ e).2.1 rfl)]
 ·rw [e, Zvw a, ((nx_2 a.1 a.2.1 a.2.2 _ e).2.2.2.2.2.2.2.2.1 rfl)]
 ·rw [e, Zvv a, ((nx_3 a.1 a.2.1 a.2.2 _ e).2.2.2.2.2.2.2.2.1 rfl)]
def Zyu : Entry := Zk Zj ZE (fun _ => none) (fun a => Zt a.1 a.2.1 a.2.2)
theorem Zyt : Zc Tryz.prog 113 Zyu := ZiS Tryz.func113 rfl (by kernel_rfl) Tryz.call113 fun a h _ => ZIl a h
theorem ZHR (a : HL Zi) (h : okHL Zi a) : ∃ l, Zc0 Tryz.prog l ∧ (Zg (envX Tryz.prog l [] 2047 8) Tryz.f42 Zi ZD a).val = some (Zt a.1 a.2.1 a.2.2) := by
 have hk := ZqU a.1.1 _ (ZqX h.2.2)
 refine ⟨ZU (Za a.1.1 (a.2.2.getD 0 0)).1, ZDG _, ?_⟩
 rcases ZqT hk.1 hk.2 with e | e | e | e | e | e | e | e | e | e | e | e | e | e | e | e | e | e | e | e | e | e | e | e | e | e | e | e | e | e | e | e | e | e | e | e | e | e | e | e | e | e | e | e | e | e | e
 ·rw [e, ZzX a, ((nx_1 a.1 a.2.1 a.2.2 _ e).2.2.2.2.2.2.2.2.2.1 rfl)]
 ·rw [e, ZzW a, ((nx_5 a.1 a.2.1 a.2.2 _ e).2 rfl)]
 ·rw [e, ZzV a, ((nx_6 a.1 a.2.1 a.2.2 _ e).2.2.2.1 rfl)]
 ·rw [e, ZzU a, ((nx_2 a.1 a.2.1 a.2.2 _ e).2.2.2.2.2.2.2.2.2.1 rfl)]
 ·rw [e, ZzT a, ((nx_3 a.1 a.2.1 a.2.2 _ e).2.2.2.2.2.2.2.2.2.1 rfl)]
 ·rw [e, ZzS a, ((nx_4 a.1 a.2.1 a.2.2 _ e).2.2.2.2.2.2.2.2.1 rfl)]
 ·rw [e, ZzR a, ((nx_1 a.1 a.2.1 a.2.2 _ e).2.2.2.2.2.2.2.2.2.2.1 rfl)]
 ·rw [e, ZzQ a, ((nx_2 a.1 a.2.1 a.2.2 _ e).2.2.2.2.2.2.2.2.2.2.1 rfl)]
 ·rw [e, ZzP a, ((nx_3 a.1 a.2.1 a.2.2 _ e).2.2.2.2.2.2.2.2.2.2.1 rfl)]
 ·rw [e, ZuP a, ((nx_4 a.1 a.2.1 a.2.2 _ e).2.2.2.2.2.2.2.2.2.1 rfl)]
 ·rw [e, ZuO a, ((nx_1 a.1 a.2.1 a.2.2 _ e).2.2.2.2.2.2.2.2.2.2.2.1 rfl)]
 ·rw [e, ZuN a, ((nx_7 a.1 a.2.1 a.2.2 _ e).2 rfl)]
 ·rw [e, ZuM a, ((nx_2 a.1 a.2.1 a.2.2 _ e).2.2.2.2.2.2.2.2.2.2.2.1 rfl)]
 ·rw [e, ZuL a, ((nx_6 a.1 a.2.1 a.2.2 _ e).2.2.2.2.1 rfl)]
 ·rw [e, ZuK a, ((nx_6 a.1 a.2.1 a.2.2 _ e).2.2.2.2.2 rfl)]
 ·rw [e, ZuJ a, ((nx_3 a.1 a.2.1 a.2.2 _ e).2.2.2.2.2.2.2.2.2.2.2.1 rfl)]
 ·rw [e, ZuI a, ((nx_4 a.1 a.2.1 a.2.2 _ e).2.2.2.2.2.2.2.2.2.2.1 rfl)]
 ·rw [e, ZuH a, ((nx_1 a.1 a.2.1 a.2.2 _ e).2.2.2.2.2.2.2.2.2.2.2.2.1 rfl)]
 ·rw [e, ZuG a, ((nx_2 a.1 a.2.1 a.2.2 _ e).2.2.2.2.2.2.2.2.2.2.2.2.1 rfl)]
 ·rw [e, ZuF a, ((nx_3 a.1 a.2.1 a.2.2 _ e).2.2.2.2.2.2.2.2.2.2.2.2.1 rfl)]
 ·rw [e, ZuE a, ((nx_4 a.1 a.2.1 a.2.2 _ e).2.2.2.2.2.2.2.2.2.2.2.1 rfl)]
 ·rw [e, ZuD a, ((nx_1 a.1 a.2.1 a.2.2 _ e).2.2.2.2.2.2.2.2.2.2.2.2.2.1 rfl)]
 ·rw [e, ZuC a, ((nx_2 a.1 a.2.1 a.2.2 _ e).2.2.2.2.2.2.2.2.2.2.2.2.2.1 rfl)]
 ·rw [e, ZuB a, ((nx_8 a.1 a.2.1 a.2.2 _ e).2.2.1 rfl)]
 ·rw [e, ZuA a, ((nx_8 a.1 a.2.1 a.2.2 _ e).2.2.2 rfl)]
 ·rw [e, Zuz a, ((nx_9 a.1 a.2.1 a.2.2 _ e).2.2.1 rfl)]
 ·rw [e, Zuy a, ((nx_3 a.1 a.2.1 a.2.2 _ e).2.2.2.2.2.2.2.2.2.2.2.2.2.1 rfl)]
 ·rw [e, Zux a, ((nx_4 a.1 a.2.1 a.2.2 _ e).2.2.2.2.2.2.2.2.2.2.2.2.1 rfl)]
 ·rw [e, Zuw a, ((nx_1 a.1 a.2.1 a.2.2 _ e).2.2.2.2.2.2.2.2.2.2.2.2.2.2.1 rfl)]
 ·rw [e, Zuv a, ((ZNT a.1 a.2.1 a.2.2 _ e).2 rfl)]
 ·rw [e, Zuu a, ((nx_2 a.1 a.2.1 a.2.2 _ e).2.2.2.2.2.2.2.2.2.2.2.2.2.2.1 rfl)]
 ·rw [e, Zut a, ((ZIE a.1 a.2.1 a.2.2 _ e).2.2.1 rfl)]
 ·rw [e, Zus a, ((nx_3 a.1 a.2.1 a.2.2 _ e).2.2.2.2.2.2.2.2.2.2.2.2.2.2.1 rfl)]
 ·rw [e, Zur a, ((nx_4 a.1 a.2.1 a.2.2 _ e).2.2.2.2.2.2.2.2.2.2.2.2.2.1 rfl)]
 ·rw [e, Zuq a, ((nx_1 a.1 a.2.1 a.2.2 _ e).2.2.2.2.2.2.2.2.2.2.2.2.2.2.2.1 rfl)]
 ·rw [e, Zup a, ((nx_2 a.1 a.2.1 a.2.2 _ e).2.2.2.2.2.2.2.2.2.2.2.2.2.2.2.1 rfl)]
 ·rw [e, Zuo a, ((ZIE a.1 a.2.1 a.2.2 _ e).2.2.2 rfl)]
 ·rw [e, Zun a, ((nx_3 a.1 a.2.1 a.2.2 _ e).2.2.2.2.2.2.2.2.2.2.2.2.2.2.2.1 rfl)]
 ·rw [e, Zum a, ((nx_4 a.1 a.2.1 a.2.2 _ e).2.2.2.2.2.2.2.2.2.2.2.2.2.2.1 rfl)]
 ·rw [e, Zul a, ((nx_1 a.1 a.2.1 a.2.2 _ e).2.2.2.2.2.2.2.2.2.2.2.2.2.2.2.2.1 rfl)]
 ·rw [e, Zuk a, ((nx_2 a.1 a.2.1 a.2.2 _ e).2.2.2.2.2.2.2.2.2.2.2.2.2.2.2.2.1 rfl)]
 ·rw [e, Zuj a, ((nx_3 a.1 a.2.1 a.2.2 _ e).2.2.2.2.2.2.2.2.2.2.2.2.2.2.2.2.1 rfl)]
 ·rw [e, Zui a, ((nx_4 a.1 a.2.1 a.2.2 _ e).2.2.2.2.2.2.2.2.2.2.2.2.2.2.2 rfl)]
 ·rw [e, Zuh a, ((nx_1 a.1 a.2.1 a.2.2 _ e).2.2.2.2.2.2.2.2.2.2.2.2.2.2.2.2.2 rfl)]
 ·rw [e, Zug a, ((nx_9 a.1 a.2.1 a.2.2 _ e).2.2.2 rfl)]
 ·rw [e, Zuf a, ((nx_2 a.1 a.2.1 a.2.2 _ e).2.2.2.2.2.2.2.2.2.2.2.2.2.2.2.2.2 rfl)]
 ·rw [e, Zue a, ((nx_3 a.1 a.2.1 a.2.2 _ e).2.2.2.2.2.2.2.2.2.2.2.2.2.2.2.2.2 rfl)]
def ZxX : Entry := Zk Zi ZD (fun _ => none) (fun a => Zt a.1 a.2.1 a.2.2)
theorem ZxW : Zc Tryz.prog 42 ZxX := ZiS Tryz.func42 rfl (by kernel_rfl) Tryz.call42 fun a h _ => ZHR a h
def wPC (r : RegT) (v : Int) : RegT := (r.1, r.2.1, r.2.2.1, r.2.2.2.1, r.2.2.2.2.1, r.2.2.2.2.2.1, r.2.2.2.2.2.2.1, r.2.2.2.2.2.2.2.1, r.2.2.2.2.2.2.2.2.1, v)
def wSP (r : RegT) (v : Int) : RegT := (r.1, r.2.1, r.2.2.1, r.2.2.2.1, r.2.2.2.2.1, r.2.2.2.2.2.1, r.2.2.2.2.2.2.1, r.2.2.2.2.2.2.2.1, v, r.2.2.2.2.2.2.2.2.2)
def wA (r : RegT) (v : Int) : RegT := (v, r.2)
def wF (r : RegT) (f : FlgT) : RegT := (r.1, r.2.1, r.2.2.1, r.2.2.2.1, r.2.2.2.2.1, r.2.2.2.2.2.1, r.2.2.2.2.2.2.1, f, r.2.2.2.2.2.2.2.2)
def fCY (f : FlgT) (b : Bool) : FlgT := (f.1, f.2.1, f.2.2.1, f.2.2.2.1, f.2.2.2.2.1, f.2.2.2.2.2.1, b)
def fVCY (f : FlgT) (v b : Bool) : FlgT := (f.1, f.2.1, f.2.2.1, f.2.2.2.1, f.2.2.2.2.1, v, b)
def Zcb (r : RegT) : Int := r.2.2.2.2.2.2.2.2.1
def flOf (r : RegT) : FlgT := r.2.2.2.2.2.2.2.1
def finR (c : CpuT) (r r0 : RegT) (g : List Int) (i : InsT) : RegT :=
 let dst := i.2.2.1
 let src := i.2.2.2.1
 let pr := i.2.2.2.2.1
 let op := i.2.2.2.2.2.1
 let g1 := g.getD 1 0
 let tk := Zdu i.2.2.2.2.2.2.1 (flOf r)
 bif i.1 == 2 then rSet r0 dst (bif src == 6 then g1 else rGet r src) else
 bif i.1 == 3 then rSet r0 dst g1 else
 bif i.1 == 4 then Zp r0 pr (ZaS g 1) else
 bif i.1 == 5 then wA r0 (g.getD 3 0) else
 bif i.1 == 7 then Zp r0 2 (ZaS g 3) else
 bif i.1 == 9 then wA r0 g1 else
 bif i.1 == 11 then (r0.1, r0.2.1, r0.2.2.1, r0.2.2.2.2.2.1, r0.2.2.2.2.2.2.1, r0.2.2.2.1, r0.2.2.2.2.1, r0.2.2.2.2.2.2.2) else
 bif i.1 == 12 then (let q := rDo c.1 op r.1 (bif src == 6 then g1 else rGet r src) (flOf r); wA (wF r0 q.2) q.1) else
 bif i.1 == 13 then (let q := rDo c.1 op r.1 g1 (flOf r); wA (wF r0 q.2) q.1) else
 bif i.1 == 14 then (let q := rInr c.1 (bif dst == 6 then g1 else rGet r dst) (flOf r); rSet (wF r0 q.2) dst q.1) else
 bif i.1 == 15 then (let q := rDcr c.1 (bif dst == 6 then g1 else rGet r dst) (flOf r); rSet (wF r0 q.2) dst q.1) else
 bif i.1 == 16 then (let q := rInx c.1 (Z7 r pr) (flOf r); Zp (wF r0 q.2) pr q.1) else
 bif i.1 == 17 then (let q := rDcx c.1 (Z7 r pr) (flOf r); Zp (wF r0 q.2) pr q.1) else
 bif i.1 == 18 then (let q := rDad c.1 (Z7 r 2) (Z7 r pr) (flOf r); Zp (wF r0 q.2) 2 q.1) else
 bif i.1 == 19 then (let q := rDaa c.1 r.1 (flOf r); wA (wF r0 q.2) q.1) else
 bif i.1 == 20 then wA r0 (notI .u8 r.1) else
 bif i.1 == 21 then wF r0 (fCY (flOf r) true) else
 bif i.1 == 22 then wF r0 (fCY (flOf r) (!(flOf r).2.2.2.2.2.2)) else
 bif i.1 == 23 then (let q := rRot op r.1 (flOf r).2.2.2.2.2.2; wA (wF r0 (fCY (flOf r) q.2)) q.1) else
 bif i.1 == 24 then (bif tk then wPC r0 (ZaS g 1) else r0) else
 bif i.1 == 25 then (bif tk then wPC (wSP r0 (IntKind.wrap .u16 (Zcb r - 2))) (ZaS g 1) else r0) else
 bif i.1 == 26 then (bif tk then wPC (wSP r0 (IntKind.wrap .u16 (Zcb r + 2))) (ZaS g 1) else r0) else
 bif i.1 == 27 then wPC (wSP r0 (IntKind.wrap .u16 (Zcb r - 2))) (IntKind.wrap .u16 (IntKind.wrap .i64 (8 * i.2.2.2.2.2.2.2))) else
 bif i.1 == 28 then wPC r0 (Z7 r 2) else
 bif i.1 == 29 then wSP r0 (Z7 r 2) else
 bif i.1 == 30 then wSP r0 (IntKind.wrap .u16 (Zcb r - 2)) else
 bif i.1 == 31 then (let q := bif pr == 3 then ZeR c.1 r0 (ZaS g 1) else Zp r0 pr (ZaS g 1); wSP q (IntKind.wrap .u16 (Zcb q + 2))) else
 bif i.1 == 32 then Zp r0 2 (ZaS g 1) else
 bif i.1 == 33 then wA r0 (g.getD 2 0) else
 bif i.1 == 40 then (let q := Zr7 (Z7 r 2) (Z7 r 0); Zp (wF r0 q.2) 2 q.1) else
 bif i.1 == 41 then (let q := Zpc (Z7 r 2); Zp (wF r0 (fCY (flOf r) q.2)) 2 q.1) else
 bif i.1 == 42 then (let q := Zr1 (Z7 r 1) (flOf r).2.2.2.2.2.2; Zp (wF r0 (fVCY (flOf r) q.2.2 q.2.1)) 1 q.1) else
 bif i.1 == 43 then Zp r0 1 (IntKind.wrap .u16 (Z7 r 2 + IntKind.wrap .u16 g1)) else
 bif i.1 == 44 then Zp r0 1 (IntKind.wrap .u16 (Zcb r + IntKind.wrap .u16 g1)) else
 bif i.1 == 45 then (bif tk then wPC (wSP r0 (IntKind.wrap .u16 (Zcb r - 2))) 64 else r0) else
 bif i.1 == 47 then Zp r0 2 (ZaS g 1) else
 r0
def finI (c : CpuT) (inj : Bool) (g : List Int) (l : QT0) (i : InsT) : CpuT :=
 let r0 := wPC c.2.1 (ZI c inj i)
 let d : CpuT := (c.1, r0, c.2.2.1, false, false, c.2.2.2.2.2)
 bif i.1 == 38 then (let q := rRim d l; (q.2.1, wA q.2.2.1 q.1, q.2.2.2)) else
 bif i.1 == 39 then rSim d c.2.1.1 else
 (c.1, finR c c.2.1 r0 g i, bif i.1 == 35 then true else bif i.1 == 36 then false else c.2.2.1, i.1 == 35, i.1 == 37, c.2.2.2.2.2)
def finX (c : CpuT) (s : Int) (g : List Int) (l : QT0) : CpuT :=
 bif Zb s then (c.1, wPC (wSP c.2.1 (IntKind.wrap .u16 (spOf c - 2))) (Zh s), c.2.2)
 else finI c (s == 5) g l (Za c.1 (g.getD 0 0))
theorem ZJA (c : CpuT) (l) : (rRim c l).2 = (c.1, c.2.1, c.2.2.1, c.2.2.2.1, c.2.2.2.2.1, c.2.2.2.2.2.1, c.2.2.2.2.2.2.1, c.2.2.2.2.2.2.2.1, c.2.2.2.2.2.2.2.2.1, c.2.2.2.2.2.2.2.2.2.1, false, false, c.2.2.2.2.2.2.2.2.2.2.2.2) := by
 have h3 : ∀ b, Zaj b 3 = true := fun b => by cases b <;> rfl
 have h4 : ∀ b, Zaj b 4 = true := fun b => by cases b <;> rfl
 have h5 : ∀ b, Zaj b 5 = true := fun b => by cases b <;> rfl
 have h6 : ∀ b, Zaj b 6 = true := fun b => by cases b <;> rfl
 have h7 : ∀ b, Zaj b 7 = true := fun b => by cases b <;> rfl
 simp only [rRim, ZDp, RT.val, h3, h4, h5, h6, h7, Bool.not_true, Bool.false_or, cond_true, getO]
theorem ZbN (s) : ZeV s = true ∧ ZgB s = bif (s.2.2.2.1.1 == 13 || s.2.2.2.1.2.2.2.1 == 6) then s.2.2.1.getD 1 0 else rGet s.1.2.1 s.2.2.2.1.2.2.2.1 := by
 simp only [ZeV, ZgB, ZgA, RT.val, qat1, Z4]
 cases (s.2.2.2.1.1 == 13 || s.2.2.2.1.2.2.2.1 == 6) <;> simp [okB, getO]
theorem ZeK (r : RegT) (f : FlgT) (pc n v : Int) : rSet (r.1, r.2.1, r.2.2.1, r.2.2.2.1, r.2.2.2.2.1, r.2.2.2.2.2.1, r.2.2.2.2.2.2.1, f, r.2.2.2.2.2.2.2.2.1, pc) n v =
  ((rSet r n v).1, (rSet r n v).2.1, (rSet r n v).2.2.1, (rSet r n v).2.2.2.1, (rSet r n v).2.2.2.2.1, (rSet r n v).2.2.2.2.2.1, (rSet r n v).2.2.2.2.2.2.1, f, (rSet r n v).2.2.2.2.2.2.2.2.1, pc) := rfl
theorem ZeM (r : RegT) (n v : Int) : (rSet r n v).2.2.2.2.2.2.2.1 = r.2.2.2.2.2.2.2.1 := rfl
theorem ZeL (r : RegT) (n v : Int) : (rSet r n v).2.2.2.2.2.2.2.2 = r.2.2.2.2.2.2.2.2 := rfl
theorem Zia (r : RegT) (f : FlgT) (pc n v : Int) : Zp (r.1, r.2.1, r.2.2.1, r.2.2.2.1, r.2.2.2.2.1, r.2.2.2.2.2.1, r.2.2.2.2.2.2.1, f, r.2.2.2.2.2.2.2.2.1, pc) n v =
  ((Zp r n v).1, (Zp r n v).2.1, (Zp r n v).2.2.1, (Zp r n v).2.2.2.1, (Zp r n v).2.2.2.2.1, (Zp r n v).2.2.2.2.2.1, (Zp r n v).2.2.2.2.2.2.1, f, (Zp r n v).2.2.2.2.2.2.2.2.1, pc) := by
 simp only [Zp, ZeP, RT.val]
 cases (andI i64 n 3 == 3) <;> rfl
theorem Zib (r : RegT) (n v : Int) : (Zp r n v).2.2.2.2.2.2.2.1 = r.2.2.2.2.2.2.2.1 := by
 simp only [Zp, ZeP, RT.val]
 cases (andI i64 n 3 == 3) <;> rfl
theorem ZK9 (r : RegT) (f : FlgT) (sp pc n : Int) : ZuR (r.1, r.2.1, r.2.2.1, r.2.2.2.1, r.2.2.2.2.1, r.2.2.2.2.2.1, r.2.2.2.2.2.2.1, f, sp, pc) n = ZuR r n := rfl
theorem Zds (r : RegT) (f : FlgT) (pc n : Int) : Z7 (r.1, r.2.1, r.2.2.1, r.2.2.2.1, r.2.2.2.2.1, r.2.2.2.2.2.1, r.2.2.2.2.2.2.1, f, r.2.2.2.2.2.2.2.2.1, pc) n = Z7 r n := by
 simp only [Z7, ZmV, RT.val, rGet, ZuS, ZK9]
theorem bnat {x : Int} (h : inR .u8 x) : ∃ a : Nat, x = a ∧ a < 256 := by
 rw [ZfK] at h
 exact ⟨x.toNat, by omega, by omega⟩
theorem w16 {n : Nat} (h : n < 65536) : IntKind.wrap .u16 (n : Int) = n := Zi9 ⟨by simp [IntKind.min, IntKind.signed], by simp [IntKind.max, IntKind.signed, IntKind.bits]; omega⟩
theorem Zza {h l : Int} (hh : inR .u8 h) (hl : inR .u8 l) : Zb3 h l = 256 * h + l := by
 obtain ⟨a, rfl, ha⟩ := bnat hh
 obtain ⟨b, rfl, hb⟩ := bnat hl
 have e1 : shlI .u16 (IntKind.wrap .u16 (a : Int)) 8 = ((a * 256 : Nat) : Int) := by
  rw [w16 (by omega)]
  simp only [shlI]
  have : ((a : Int) * 2 ^ min (8 : Int).toNat u16.bits) = ((a * 256 : Nat) : Int) := by simp [IntKind.bits]
  rw [this, w16 (by omega)]
 have e2 : (BitVec.ofInt u16.bits ((a * 256 : Nat) : Int) ||| BitVec.ofInt u16.bits (b : Int)).toNat = a * 256 + b := by
  rw [BitVec.toNat_or, BitVec.toNat_ofInt, BitVec.toNat_ofInt]
  have k1 : (((a * 256 : Nat) : Int) % ((2 ^ u16.bits : Nat) : Int)).toNat = a * 256 := by simp [IntKind.bits]; omega
  have k2 : ((b : Int) % ((2 ^ u16.bits : Nat) : Int)).toNat = b := by simp [IntKind.bits]; omega
  rw [k1, k2]
  have := Nat.shiftLeft_add_eq_or_of_lt (i := 8) (b := b) (by omega) a
  rw [Nat.shiftLeft_eq] at this
  exact this.symm
 show orI .u16 (shlI .u16 (IntKind.wrap .u16 (a : Int)) 8) (IntKind.wrap .u16 (b : Int)) = _
 rw [e1, w16 (by omega)]
 simp only [orI]
 rw [e2, w16 (by omega)]
 omega
theorem ZMC {h l : Int} (hh : inR .u8 h) (hl : inR .u8 l) : IntKind.wrap .u8 (Zb3 h l) = l := by
 rw [Zza hh hl]
 rw [ZfK] at hl
 simp [IntKind.wrap, IntKind.signed, IntKind.bits]; omega
theorem ZMD {h l : Int} (hh : inR .u8 h) (hl : inR .u8 l) : IntKind.wrap .u8 (shrI .u16 (Zb3 h l) 8) = h := by
 rw [Zza hh hl]
 rw [ZfK] at hl hh
 have : shrI .u16 (256 * h + l) 8 = h := by
  simp only [shrI]
  have : ((2 : Int) ^ min (8 : Int).toNat u16.bits) = 256 := by decide
  rw [this, Int.fdiv_eq_ediv_of_nonneg _ (by decide)]; omega
 rw [this]
 simp [IntKind.wrap, IntKind.signed, IntKind.bits]; omega
theorem Zdr (r : RegT) {h l : Int} (hh : inR .u8 h) (hl : inR .u8 l) : Zp r 2 (Zb3 h l) = (r.1, r.2.1, r.2.2.1, r.2.2.2.1, r.2.2.2.2.1, h, l, r.2.2.2.2.2.2.2) := by
 have e : Zp r 2 (Zb3 h l) = (r.1, r.2.1, r.2.2.1, r.2.2.2.1, r.2.2.2.2.1, IntKind.wrap .u8 (shrI .u16 (Zb3 h l) 8), IntKind.wrap .u8 (Zb3 h l), r.2.2.2.2.2.2.2) := by
  generalize Zb3 h l = v
  rfl
 rw [e, ZMC hh hl, ZMD hh hl]
theorem Zig (x : Int) : IntKind.wrap .u8 (255 - x) = notI .u8 x := by
 have e : notI .u8 x = IntKind.wrap .u8 ((~~~ (BitVec.ofInt 8 x)).toNat : Int) := by
  show IntKind.wrap .u8 (((BitVec.ofInt 8 255) ^^^ (BitVec.ofInt 8 x)).toNat : Int) = _
  have : BitVec.ofInt 8 255 = BitVec.allOnes 8 := by decide
  rw [this, BitVec.allOnes_xor]
 have h1 : (BitVec.ofInt 8 x).toNat = (x % 256).toNat := BitVec.toNat_ofInt ..
 have h2 : ((x % 256).toNat : Int) = x % 256 := by omega
 rw [e, BitVec.toNat_not, h1]
 have h3 : ((2 ^ 8 - 1 - (x % 256).toNat : Nat) : Int) = 255 - x % 256 := by omega
 rw [h3]
 simp [IntKind.wrap, IntKind.signed, IntKind.bits]
def ZcJ (k : Int) : Entry := .tree (ZS (envX Tryz.prog [(182, Zsy k), (222, qAtE)] [] 255 8) Tryz.f178)
theorem Zey (k : Int) : Zc Tryz.prog 178 (ZcJ k) := Zak (P := Tryz.prog) (n := 255) (k := 8) (l := [(182, Zsy k), (222, qAtE)]) (ol := []) ⟨(ZyJ k), ZgF, trivial⟩ Tryz.func178 rfl (by kernel_rfl) Tryz.call178 trivial
def Zbw : Entry := .tree (ZS (envX Tryz.prog [(222, qAtE), (232, Zsb), (268, Zso), (269, Zbt), (270, Zkj)] [] 2597417327555236063515274458956831 8) Tryz.f224)
theorem Zez : Zc Tryz.prog 224 Zbw := Zak (P := Tryz.prog) (n := 2597417327555236063515274458956831) (k := 8) (l := [(222, qAtE), (232, Zsb), (268, Zso), (269, Zbt), (270, Zkj)]) (ol := []) ⟨ZgF, Zpd, Zyk, Zdv, Zpe, trivial⟩ Tryz.func224 rfl (by kernel_rfl) Tryz.call224 trivial
def Za6 : Entry := .tree (ZS (envX Tryz.prog [(222, qAtE), (231, ZeU), (232, Zsb), (268, Zso), (269, Zbt), (271, ZMe), (272, Zki), (273, ZyC), (274, ZyM), (275, ZFc), (276, ZFC), (277, ZFG), (278, ZFI), (279, ZEG)] [] 7069140681974987581262622498806463579024171163532525608263727578473562367 8) Tryz.f225)
theorem ZdF : Zc Tryz.prog 225 Za6 := Zak (P := Tryz.prog) (n := 7069140681974987581262622498806463579024171163532525608263727578473562367) (k := 8) (l := [(222, qAtE), (231, ZeU), (232, Zsb), (268, Zso), (269, Zbt), (271, ZMe), (272, Zki), (273, ZyC), (274, ZyM), (275, ZFc), (276, ZFC), (277, ZFG), (278, ZFI), (279, ZEG)]) (ol := []) ⟨ZgF, Zgz, Zpd, Zyk, Zdv, ZMd, Zu5, ZyB, ZyL, ZIm, ZIv, ZIx, ZIz, ZIb, trivial⟩ Tryz.func225 rfl (by kernel_rfl) Tryz.call225 trivial
def Za5 : Entry := .tree (ZS (envX Tryz.prog [(231, ZeU), (269, Zbt), (270, Zkj), (280, ZfX), (281, Zkv)] [] 1300629477622019213679053869679119 8) Tryz.f226)
theorem ZdE : Zc Tryz.prog 226 Za5 := Zak (P := Tryz.prog) (n := 1300629477622019213679053869679119) (k := 8) (l := [(231, ZeU), (269, Zbt), (270, Zkj), (280, ZfX), (281, Zkv)]) (ol := []) ⟨Zgz, Zdv, Zpe, Zkh, Zvh, trivial⟩ Tryz.func226 rfl (by kernel_rfl) Tryz.call226 trivial
def Zbm : Entry := .tree (ZS (envX Tryz.prog [(222, qAtE), (231, ZeU), (269, Zbt), (283, Zwo), (284, Zwr), (285, Zvo)] [] 19808249554387950831669350527 8) Tryz.f229)
theorem Zeh : Zc Tryz.prog 229 Zbm := Zak (P := Tryz.prog) (n := 19808249554387950831669350527) (k := 8) (l := [(222, qAtE), (231, ZeU), (269, Zbt), (283, Zwo), (284, Zwr), (285, Zvo)]) (ol := []) ⟨ZgF, Zgz, Zdv, ZFw, ZFK, ZEO, trivial⟩ Tryz.func229 rfl (by kernel_rfl) Tryz.call229 trivial
def Zb7 : Entry := .tree (ZS (envX Tryz.prog [(223, ZgE), (224, Zbw), (225, Za6), (226, Za5), (227, ZEI), (228, ZEz), (229, Zbm)] [] 1299342484808491477133836286951679 8) Tryz.f179)
theorem ZdY : Zc Tryz.prog 179 Zb7 := Zak (P := Tryz.prog) (n := 1299342484808491477133836286951679) (k := 8) (l := [(223, ZgE), (224, Zbw), (225, Za6), (226, Za5), (227, ZEI), (228, ZEz), (229, Zbm)]) (ol := []) ⟨Zm3, Zez, ZdF, ZdE, ZId, ZH7, Zeh, trivial⟩ Tryz.func179 rfl (by kernel_rfl) Tryz.call179 trivial
abbrev Zn : List Sh := [Sh.agg Z3, Sh.one (R.int i64), Sh.one (R.sl (R.int u8)), Sh.agg (R.pair R.bool (R.pair R.bool rcF7))]
abbrev ZX : Rs := Rs.one (Sh.agg Z3)
def Zav (k : Int) : List (FuncId × Entry) := [(176, ZhA), (177, Zsj), (178, ZcJ k), (179, Zb7)]
theorem ZIr (k : Int) : Zc0 Tryz.prog (Zav k) := ⟨Zid, Zvd, (Zey k), ZdY, trivial⟩
def Zba : Entry := .tree (ZS (envX Tryz.prog [(157, Zfs), (165, Zlw), (169, Zf5)] [] 4722654783631989407807 8) Tryz.f154)
theorem Zco : Zc Tryz.prog 154 Zba := Zak (P := Tryz.prog) (n := 4722654783631989407807) (k := 8) (l := [(157, Zfs), (165, Zlw), (169, Zf5)]) (ol := []) ⟨ZhI, ZqH, Zly, trivial⟩ Tryz.func154 rfl (by kernel_rfl) Tryz.call154 trivial
def Za9 : Entry := .tree (ZS (envX Tryz.prog [(153, mAtE), (158, ZeS), (163, Zkf), (165, Zlw), (205, ZzN), (206, ZeQ), (207, Zog)] [] 89290093085330224515083647028849395745489151 8) Tryz.f155)
theorem Zcn : Zc Tryz.prog 155 Za9 := Zak (P := Tryz.prog) (n := 89290093085330224515083647028849395745489151) (k := 8) (l := [(153, mAtE), (158, ZeS), (163, Zkf), (165, Zlw), (205, ZzN), (206, ZeQ), (207, Zog)]) (ol := []) ⟨ZsZ, Zgt, Zow, ZqH, Zt2, Zjw, ZzM, trivial⟩ Tryz.func155 rfl (by kernel_rfl) Tryz.call155 trivial
def ZaZ : Entry := .tree (ZS (envX Tryz.prog [(153, mAtE), (158, ZeS), (163, Zkf), (166, ZeO), (205, ZzN), (206, ZeQ), (208, rDoE), (209, ZLn), (210, ZLw), (211, ZLB), (212, ZLE), (213, ZDn), (214, ZD0), (215, ZD9), (216, Zt8)] [] 7068251030063838779883004342589958256918126813077978922614622863581249535 8) Tryz.f156)
theorem ZbY : Zc Tryz.prog 156 ZaZ := Zak (P := Tryz.prog) (n := 7068251030063838779883004342589958256918126813077978922614622863581249535) (k := 8) (l := [(153, mAtE), (158, ZeS), (163, Zkf), (166, ZeO), (205, ZzN), (206, ZeQ), (208, rDoE), (209, ZLn), (210, ZLw), (211, ZLB), (212, ZLE), (213, ZDn), (214, ZD0), (215, ZD9), (216, Zt8)]) (ol := []) ⟨ZsZ, Zgt, Zow, Zjv, Zt2, Zjw, ZNu, ZLl, ZLu, ZLz, ZLC, ZHI, ZHT, ZHX, ZDt, trivial⟩ Tryz.func156 rfl (by kernel_rfl) Tryz.call156 trivial
abbrev Zm : List Sh := [Sh.agg Z3, Sh.one (R.int i64), Sh.one (R.sl (R.int u8)), Sh.agg (R.pair R.bool (R.pair R.bool rcF7))]
abbrev ZV : Rs := Rs.one (Sh.agg Z3)
def Zau (k : Int) : List (FuncId × Entry) := [(104, Zht), (107, ZD3 k), (152, ZxI), (153, mAtE), (154, Zba), (155, Za9), (156, ZaZ), (157, Zfs), (158, ZeS), (159, ZJH), (160, ZNh)]
theorem ZHS (k : Int) : Zc0 Tryz.prog (Zau k) := ⟨Zic, (Zx5 k), ZzK, ZsZ, Zco, Zcn, ZbY, ZhI, Zgt, ZHJ, ZLc, trivial⟩
end
end Go.Proofs.YtghoimllhpjkjaaGreat
