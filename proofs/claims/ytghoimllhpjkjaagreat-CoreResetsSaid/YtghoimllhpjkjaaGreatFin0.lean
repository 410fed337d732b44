/-
  Contracts of functions; each found by the symbolic executor and checked by the kernel. Conditions: none.
-/
import Derived.Test.YtghoimllhpjkjaaGreatS3D
import Derived.Test.YtghoimllhpjkjaaGreatProg
import Derived.Test.YtghoimllhpjkjaaGreatNext2
import Derived.Test.YtghoimllhpjkjaaGreatPinsEq
open Go.IntKind (u8 u16 i64)
set_option linter.unusedSimpArgs false
open Go Go.S3 Go.Proofs
set_option linter.unusedVariables false
set_option maxRecDepth 100000
namespace Go.Proofs.YtghoimllhpjkjaaGreat
noncomputable section
def Zsh (c : TC) (s : Int) (g : List Int) : RT (Option (TY × Bool)) :=
 let x1 : QT1 := (c, s == 5, g, (0, 0, 0, 0, 0, 0, 0, 0), [])
 let x2 := qAtC x1 0
 let x3 := Za c.1 (qAt x1 0)
 let x4 := !x2 || x3.1 == 3
 let x5 := x3.2
 let x6 := x5.2.1 == 6
 let x7 : QT5 := (3, x5)
 let x8 : QT6 := ((pcOf c), 0, 4)
 let x9 : List TY := [] ++ [(1, x8)]
 let x10 : List TY := bif s == 5 then x9 ++ [(9, pcOf c, 0, 3)] else x9 ++ [(2, u16.wrap ((pcOf c) + u16.wrap 1), 0, 3)]
 let x11 : QT1 := (c, s == 5, g, x7, x10)
 let x12 : List TY := [] ++ [(12, pcOf c, 0, 6)] ++ [(5, u16.wrap ((spOf c) - 1), u8.wrap (shrI u16 (pcOf c) 8), 3)] ++ [(5, u16.wrap ((spOf c) - 2), u8.wrap (pcOf c), 3)]
 let x14 : List TY := [] ++ [(bif s == 5 then 8 else 1, x8)]
 let x16 : List TY := bif x6 then x10 ++ [(3, ZdG (c, s == 5, g, x7, x9) 2, qAt x11 1, 3)] else x10
 .br (!x4 || x2) (.br (x4) (.br (Ze s || (iN (List.length g) == 0 || (!x6 || qAtC x11 1))) (.br (Ze s) (fin3 g x12) (.br (iN (List.length g) == 0) (fin3 g x14) (fin3 g x16))) (.leaf none)) (.leaf none)) (.leaf none)
theorem ZGo (a : HL Zk) : Zh (envX Tryz.prog (Z1 3) [] 1125900980585471 8) Tryz.f113 Zk ZF a = Zsh a.1 a.2.1 a.2.2 := by kernel_rfl
def Zsd (c : TC) (s : Int) (g : List Int) : RT (Option (TY × Bool)) :=
 let x1 : QT1 := (c, s == 5, g, (0, 0, 0, 0, 0, 0, 0, 0), [])
 let x2 := qAtC x1 0
 let x3 := Za c.1 (qAt x1 0)
 let x4 := !x2 || x3.1 == 7
 let x5 : QT6 := ((pcOf c), 0, 4)
 let x6 : List TY := [] ++ [(1, x5)]
 let x7 : List TY := [(9, pcOf c, 0, 3)]
 let x8 : List TY := bif s == 5 then x6 ++ x7 else x6 ++ [(2, u16.wrap ((pcOf c) + u16.wrap 1), 0, 3)]
 let x9 : List TY := bif s == 5 then x8 ++ x7 else x8 ++ [(2, u16.wrap ((pcOf c) + u16.wrap (i64.wrap (1 + 1))), 0, 3)]
 let x10 : QT1 := (c, s == 5, g, (7, x3.2), x9)
 let x11 : List TY := [] ++ [(12, pcOf c, 0, 6)] ++ [(5, u16.wrap ((spOf c) - 1), u8.wrap (shrI u16 (pcOf c) 8), 3)] ++ [(5, u16.wrap ((spOf c) - 2), u8.wrap (pcOf c), 3)]
 let x13 : List TY := [] ++ [(bif s == 5 then 8 else 1, x5)]
 let x15 := ZfI x10 1
 let x16 : List TY := x9 ++ [(2, x15, 0, 3)] ++ [(2, u16.wrap (x15 + 1), 0, 3)]
 .br (!x4 || x2) (.br (x4) (.br (Ze s || (iN (List.length g) == 0 || Zcq x10 1)) (.br (Ze s) (fin3 g x11) (.br (iN (List.length g) == 0) (fin3 g x13) (fin3 g x16))) (.leaf none)) (.leaf none)) (.leaf none)
theorem ZGk (a : HL Zk) : Zh (envX Tryz.prog (Z1 7) [] 1125900980585471 8) Tryz.f113 Zk ZF a = Zsd a.1 a.2.1 a.2.2 := by kernel_rfl
def ZmT (c : TC) (s : Int) (g : List Int) : RT (Option (TY × Bool)) :=
 let x1 : QT1 := (c, s == 5, g, (0, 0, 0, 0, 0, 0, 0, 0), [])
 let x2 := qAtC x1 0
 let x3 := !x2 || (Za c.1 (qAt x1 0)).1 == 11
 let x4 : List TY := [] ++ [(12, pcOf c, 0, 6)] ++ [(5, u16.wrap ((spOf c) - 1), u8.wrap (shrI u16 (pcOf c) 8), 3)] ++ [(5, u16.wrap ((spOf c) - 2), u8.wrap (pcOf c), 3)]
 let x6 : QT6 := ((pcOf c), 0, 4)
 let x7 : List TY := [] ++ [(bif s == 5 then 8 else 1, x6)]
 let x9 : List TY := [] ++ [(1, x6)]
 .br (!x3 || x2) (.br (x3) (.br (Ze s) (fin3 g x4) (.br (iN (List.length g) == 0) (fin3 g x7) (fin3 g x9))) (.leaf none)) (.leaf none)
theorem ZAe (a : HL Zk) : Zh (envX Tryz.prog (Z1 11) [] 1125900980585471 8) Tryz.f113 Zk ZF a = ZmT a.1 a.2.1 a.2.2 := by kernel_rfl
def ZmP (c : TC) (s : Int) (g : List Int) : RT (Option (TY × Bool)) :=
 let x1 : QT1 := (c, s == 5, g, (0, 0, 0, 0, 0, 0, 0, 0), [])
 let x2 := qAtC x1 0
 let x3 := Za c.1 (qAt x1 0)
 let x4 := !x2 || x3.1 == 15
 let x5 := x3.2
 let x6 := x5.2.1 == 6
 let x7 : QT5 := (15, x5)
 let x8 : QT6 := ((pcOf c), 0, 4)
 let x9 : List TY := [] ++ [(1, x8)]
 let x10 := ZdG (c, s == 5, g, x7, x9) 2
 let x11 : List TY := x9 ++ [(2, x10, 0, 3)]
 let x12 : QT1 := (c, s == 5, g, x7, x11)
 let x13 : List TY := [] ++ [(12, pcOf c, 0, 6)] ++ [(5, u16.wrap ((spOf c) - 1), u8.wrap (shrI u16 (pcOf c) 8), 3)] ++ [(5, u16.wrap ((spOf c) - 2), u8.wrap (pcOf c), 3)]
 let x15 : List TY := [] ++ [(bif s == 5 then 8 else 1, x8)]
 let x17 : List TY := bif x6 then x11 ++ [(3, x10, ZhQ x12, 3)] else x9
 .br (!x4 || x2) (.br (x4) (.br (Ze s || (iN (List.length g) == 0 || (!x6 || ZfJ x12))) (.br (Ze s) (fin3 g x13) (.br (iN (List.length g) == 0) (fin3 g x15) (fin3 g x17))) (.leaf none)) (.leaf none)) (.leaf none)
theorem ZAa (a : HL Zk) : Zh (envX Tryz.prog (Z1 15) [] 1125900980585471 8) Tryz.f113 Zk ZF a = ZmP a.1 a.2.1 a.2.2 := by kernel_rfl
def ZmL (c : TC) (s : Int) (g : List Int) : RT (Option (TY × Bool)) :=
 let x1 : QT1 := (c, s == 5, g, (0, 0, 0, 0, 0, 0, 0, 0), [])
 let x2 := qAtC x1 0
 let x3 := !x2 || (Za c.1 (qAt x1 0)).1 == 19
 let x4 : List TY := [] ++ [(12, pcOf c, 0, 6)] ++ [(5, u16.wrap ((spOf c) - 1), u8.wrap (shrI u16 (pcOf c) 8), 3)] ++ [(5, u16.wrap ((spOf c) - 2), u8.wrap (pcOf c), 3)]
 let x6 : QT6 := ((pcOf c), 0, 4)
 let x7 : List TY := [] ++ [(bif s == 5 then 8 else 1, x6)]
 let x9 : List TY := [] ++ [(1, x6)]
 .br (!x3 || x2) (.br (x3) (.br (Ze s) (fin3 g x4) (.br (iN (List.length g) == 0) (fin3 g x7) (fin3 g x9))) (.leaf none)) (.leaf none)
theorem Zz6 (a : HL Zk) : Zh (envX Tryz.prog (Z1 19) [] 1125900980585471 8) Tryz.f113 Zk ZF a = ZmL a.1 a.2.1 a.2.2 := by kernel_rfl
def ZmH (c : TC) (s : Int) (g : List Int) : RT (Option (TY × Bool)) :=
 let x1 : QT1 := (c, s == 5, g, (0, 0, 0, 0, 0, 0, 0, 0), [])
 let x2 := qAtC x1 0
 let x3 := !x2 || (Za c.1 (qAt x1 0)).1 == 23
 let x4 : List TY := [] ++ [(12, pcOf c, 0, 6)] ++ [(5, u16.wrap ((spOf c) - 1), u8.wrap (shrI u16 (pcOf c) 8), 3)] ++ [(5, u16.wrap ((spOf c) - 2), u8.wrap (pcOf c), 3)]
 let x6 : QT6 := ((pcOf c), 0, 4)
 let x7 : List TY := [] ++ [(bif s == 5 then 8 else 1, x6)]
 let x9 : List TY := [] ++ [(1, x6)]
 .br (!x3 || x2) (.br (x3) (.br (Ze s) (fin3 g x4) (.br (iN (List.length g) == 0) (fin3 g x7) (fin3 g x9))) (.leaf none)) (.leaf none)
theorem Zz2 (a : HL Zk) : Zh (envX Tryz.prog (Z1 23) [] 1125900980585471 8) Tryz.f113 Zk ZF a = ZmH a.1 a.2.1 a.2.2 := by kernel_rfl
def ZmD (c : TC) (s : Int) (g : List Int) : RT (Option (TY × Bool)) :=
 let x1 : QT1 := (c, s == 5, g, (0, 0, 0, 0, 0, 0, 0, 0), [])
 let x2 := qAtC x1 0
 let x3 := Za c.1 (qAt x1 0)
 let x4 := !x2 || x3.1 == 27
 let x5 := u16.wrap ((spOf c) - 1)
 let x6 := u16.wrap ((spOf c) - 2)
 let x7 : List TY := [] ++ [(12, pcOf c, 0, 6)] ++ [(5, x5, u8.wrap (shrI u16 (pcOf c) 8), 3)] ++ [(5, x6, u8.wrap (pcOf c), 3)]
 let x9 : QT6 := ((pcOf c), 0, 4)
 let x10 : List TY := [] ++ [(bif s == 5 then 8 else 1, x9)]
 let x12 : List TY := [] ++ [(1, x9)]
 let x13 := ZD (c, s == 5, g, (27, x3.2), x12)
 let x14 : List TY := x12 ++ [(5, x5, u8.wrap (shrI u16 x13 8), 3)] ++ [(5, x6, u8.wrap x13, 3)]
 .br (!x4 || x2) (.br (x4) (.br (Ze s) (fin3 g x7) (.br (iN (List.length g) == 0) (fin3 g x10) (fin3 g x14))) (.leaf none)) (.leaf none)
theorem ZzY (a : HL Zk) : Zh (envX Tryz.prog (Z1 27) [] 1125900980585471 8) Tryz.f113 Zk ZF a = ZmD a.1 a.2.1 a.2.2 := by kernel_rfl
def Zmz (c : TC) (s : Int) (g : List Int) : RT (Option (TY × Bool)) :=
 let x1 : QT1 := (c, s == 5, g, (0, 0, 0, 0, 0, 0, 0, 0), [])
 let x2 := qAtC x1 0
 let x3 := !x2 || (Za c.1 (qAt x1 0)).1 == 31
 let x4 : List TY := [] ++ [(12, pcOf c, 0, 6)] ++ [(5, u16.wrap ((spOf c) - 1), u8.wrap (shrI u16 (pcOf c) 8), 3)] ++ [(5, u16.wrap ((spOf c) - 2), u8.wrap (pcOf c), 3)]
 let x6 : QT6 := ((pcOf c), 0, 4)
 let x7 : List TY := [] ++ [(bif s == 5 then 8 else 1, x6)]
 let x9 : List TY := [] ++ [(1, x6)] ++ [(4, spOf c, 0, 3)] ++ [(4, u16.wrap ((spOf c) + 1), 0, 3)]
 .br (!x3 || x2) (.br (x3) (.br (Ze s) (fin3 g x4) (.br (iN (List.length g) == 0) (fin3 g x7) (fin3 g x9))) (.leaf none)) (.leaf none)
theorem ZzU (a : HL Zk) : Zh (envX Tryz.prog (Z1 31) [] 1125900980585471 8) Tryz.f113 Zk ZF a = Zmz a.1 a.2.1 a.2.2 := by kernel_rfl
def Zmv (c : TC) (s : Int) (g : List Int) : RT (Option (TY × Bool)) :=
 let x1 : QT1 := (c, s == 5, g, (0, 0, 0, 0, 0, 0, 0, 0), [])
 let x2 := qAtC x1 0
 let x3 := !x2 || (Za c.1 (qAt x1 0)).1 == 35
 let x4 : List TY := [] ++ [(12, pcOf c, 0, 6)] ++ [(5, u16.wrap ((spOf c) - 1), u8.wrap (shrI u16 (pcOf c) 8), 3)] ++ [(5, u16.wrap ((spOf c) - 2), u8.wrap (pcOf c), 3)]
 let x6 : QT6 := ((pcOf c), 0, 4)
 let x7 : List TY := [] ++ [(bif s == 5 then 8 else 1, x6)]
 let x9 : List TY := [] ++ [(1, x6)]
 .br (!x3 || x2) (.br (x3) (.br (Ze s) (fin3 g x4) (.br (iN (List.length g) == 0) (fin3 g x7) (fin3 g x9))) (.leaf none)) (.leaf none)
theorem ZzQ (a : HL Zk) : Zh (envX Tryz.prog (Z1 35) [] 1125900980585471 8) Tryz.f113 Zk ZF a = Zmv a.1 a.2.1 a.2.2 := by kernel_rfl
def Zmr (c : TC) (s : Int) (g : List Int) : RT (Option (TY × Bool)) :=
 let x1 : QT1 := (c, s == 5, g, (0, 0, 0, 0, 0, 0, 0, 0), [])
 let x2 := qAtC x1 0
 let x3 := !x2 || (Za c.1 (qAt x1 0)).1 == 39
 let x4 : List TY := [] ++ [(12, pcOf c, 0, 6)] ++ [(5, u16.wrap ((spOf c) - 1), u8.wrap (shrI u16 (pcOf c) 8), 3)] ++ [(5, u16.wrap ((spOf c) - 2), u8.wrap (pcOf c), 3)]
 let x6 : QT6 := ((pcOf c), 0, 4)
 let x7 : List TY := [] ++ [(bif s == 5 then 8 else 1, x6)]
 let x9 : List TY := [] ++ [(1, x6)]
 .br (!x3 || x2) (.br (x3) (.br (Ze s) (fin3 g x4) (.br (iN (List.length g) == 0) (fin3 g x7) (fin3 g x9))) (.leaf none)) (.leaf none)
theorem ZzM (a : HL Zk) : Zh (envX Tryz.prog (Z1 39) [] 1125900980585471 8) Tryz.f113 Zk ZF a = Zmr a.1 a.2.1 a.2.2 := by kernel_rfl
def Zmn (c : TC) (s : Int) (g : List Int) : RT (Option (TY × Bool)) :=
 let x1 : QT1 := (c, s == 5, g, (0, 0, 0, 0, 0, 0, 0, 0), [])
 let x2 := qAtC x1 0
 let x3 := !x2 || (Za c.1 (qAt x1 0)).1 == 43
 let x4 : List TY := [] ++ [(12, pcOf c, 0, 6)] ++ [(5, u16.wrap ((spOf c) - 1), u8.wrap (shrI u16 (pcOf c) 8), 3)] ++ [(5, u16.wrap ((spOf c) - 2), u8.wrap (pcOf c), 3)]
 let x6 : QT6 := ((pcOf c), 0, 4)
 let x7 : List TY := [] ++ [(bif s == 5 then 8 else 1, x6)]
 let x9 : List TY := [] ++ [(1, x6)]
 let x10 : QT6 := ((pcOf c), 0, 3)
 let x11 : List TY := (bif s == 5 then x9 ++ [(9, x10)] else x9 ++ [(2, u16.wrap ((pcOf c) + u16.wrap 1), 0, 3)]) ++ [(11, x10)]
 .br (!x3 || x2) (.br (x3) (.br (Ze s) (fin3 g x4) (.br (iN (List.length g) == 0) (fin3 g x7) (fin3 g x11))) (.leaf none)) (.leaf none)
theorem ZzI (a : HL Zk) : Zh (envX Tryz.prog (Z1 43) [] 1125900980585471 8) Tryz.f113 Zk ZF a = Zmn a.1 a.2.1 a.2.2 := by kernel_rfl
def Zmj (c : TC) (s : Int) (g : List Int) : RT (Option (TY × Bool)) :=
 let x1 : QT1 := (c, s == 5, g, (0, 0, 0, 0, 0, 0, 0, 0), [])
 let x2 := qAtC x1 0
 let x3 := Za c.1 (qAt x1 0)
 let x4 := !x2 || x3.1 == 47
 let x5 : List TY := [] ++ [(12, pcOf c, 0, 6)] ++ [(5, u16.wrap ((spOf c) - 1), u8.wrap (shrI u16 (pcOf c) 8), 3)] ++ [(5, u16.wrap ((spOf c) - 2), u8.wrap (pcOf c), 3)]
 let x7 : QT6 := ((pcOf c), 0, 4)
 let x8 : List TY := [] ++ [(bif s == 5 then 8 else 1, x7)]
 let x10 : List TY := [] ++ [(1, x7)]
 let x11 := ZdG (c, s == 5, g, (47, x3.2), x10) 1
 let x12 : List TY := x10 ++ [(2, x11, 0, 3)] ++ [(2, u16.wrap (x11 + 1), 0, 3)]
 .br (!x4 || x2) (.br (x4) (.br (Ze s) (fin3 g x5) (.br (iN (List.length g) == 0) (fin3 g x8) (fin3 g x12))) (.leaf none)) (.leaf none)
theorem ZzE (a : HL Zk) : Zh (envX Tryz.prog (Z1 47) [] 1125900980585471 8) Tryz.f113 Zk ZF a = Zmj a.1 a.2.1 a.2.2 := by kernel_rfl
def ZqR (c : TC) (s : Int) (g : List Int) : RT (Option (TY × Bool)) :=
 let x1 : List TY := [(12, pcOf c, 0, 6)] ++ [(5, u16.wrap ((spOf c) - 1), u8.wrap (shrI u16 (pcOf c) 8), 3)] ++ [(5, u16.wrap ((spOf c) - 2), u8.wrap (pcOf c), 3)]
 let x3 : List TY := [(bif s == 5 then 8 else 1, pcOf c, 0, 4)]
 let x4 : List TY := [(9, pcOf c, 0, 3)]
 let x5 : List TY := x3 ++ x4
 let x6 : List TY := [(2, u16.wrap ((pcOf c) + u16.wrap (i64.wrap (1 + 1))), 0, 3)]
 let x7 : List TY := bif s == 5 then x5 ++ x4 else x5 ++ x6
 let x9 : List TY := x3 ++ [(2, u16.wrap ((pcOf c) + u16.wrap 1), 0, 3)]
 let x10 : List TY := bif s == 5 then x9 ++ x4 else x9 ++ x6
 .br (Zb s || (!decide (iN (List.length g) > 0) || (!Zg 0 (List.length g) || (Za c.1 (R.get (R.int u8) g 0)).1 == 4))) (.br (Zb s || (!decide (iN (List.length g) > 0) || Zg 0 (List.length g))) (.br (Zb s) (fin3 g x1) (.br (decide (iN (List.length g) > 0)) (.br (s == 5) (fin3 g x7) (fin3 g x10)) (fin3 g x3))) (.leaf none)) (.leaf none)
theorem ZFj (a : HL Zj) : Zh (envX Tryz.prog (ZZ 4) [] 2047 8) Tryz.f42 Zj ZE a = ZqR a.1 a.2.1 a.2.2 := by kernel_rfl
def ZqN (c : TC) (s : Int) (g : List Int) : RT (Option (TY × Bool)) :=
 let x1 : List TY := [(bif s == 5 then 8 else 1, pcOf c, 0, 4)]
 let x2 : List TY := [(9, pcOf c, 0, 3)]
 let x3 : List TY := x1 ++ x2
 let x4 : List TY := [(2, u16.wrap ((pcOf c) + u16.wrap (i64.wrap (1 + 1))), 0, 3)]
 let x5 : List TY := bif s == 5 then x3 ++ x2 else x3 ++ x4
 let x6 : QT4 := (c, s == 5, g, x5)
 let x7 := ZbX x6 1
 let x8 : List TY := x5 ++ [(3, Zei x6 1, c.2.1.2.2.2.2.2.2.1, 3)]
 let x9 : QT4 := (c, s == 5, g, x8)
 let x10 := !s == 5 || (!x7 || ZbX x9 1)
 let x11 := !x10
 let x12 := !s == 5 || x7
 let x13 := !x12
 let x14 : List TY := x1 ++ [(2, u16.wrap ((pcOf c) + u16.wrap 1), 0, 3)]
 let x15 : List TY := bif s == 5 then x14 ++ x2 else x14 ++ x4
 let x16 : QT4 := (c, s == 5, g, x15)
 let x17 := ZbX x16 1
 let x18 : List TY := x15 ++ [(3, Zei x16 1, c.2.1.2.2.2.2.2.2.1, 3)]
 let x19 : QT4 := (c, s == 5, g, x18)
 let x20 := s == 5 || (!x17 || ZbX x19 1)
 let x21 : List TY := [(12, pcOf c, 0, 6)] ++ [(5, u16.wrap ((spOf c) - 1), u8.wrap (shrI u16 (pcOf c) 8), 3)] ++ [(5, u16.wrap ((spOf c) - 2), u8.wrap (pcOf c), 3)]
 let x23 : List TY := x8 ++ [(3, u16.wrap (Zei x9 1 + 1), c.2.1.2.2.2.2.2.1, 3)]
 let x25 : List TY := x18 ++ [(3, u16.wrap (Zei x19 1 + 1), c.2.1.2.2.2.2.2.1, 3)]
 .br (Zb s || (!decide (iN (List.length g) > 0) || (!Zg 0 (List.length g) || (!(Za c.1 (R.get (R.int u8) g 0)).1 == 8 || (x11 || (x13 || (!x20 || (s == 5 || x17)))))))) (.br (Zb s || (!decide (iN (List.length g) > 0) || (!Zg 0 (List.length g) || (!(Za c.1 (R.get (R.int u8) g 0)).1 == 8 || (x11 || (x13 || x20)))))) (.br (Zb s || (!decide (iN (List.length g) > 0) || (!Zg 0 (List.length g) || (!(Za c.1 (R.get (R.int u8) g 0)).1 == 8 || (x11 || x12))))) (.br (Zb s || (!decide (iN (List.length g) > 0) || (!Zg 0 (List.length g) || (!(Za c.1 (R.get (R.int u8) g 0)).1 == 8 || x10)))) (.br (Zb s || (!decide (iN (List.length g) > 0) || (!Zg 0 (List.length g) || (Za c.1 (R.get (R.int u8) g 0)).1 == 8))) (.br (Zb s || (!decide (iN (List.length g) > 0) || Zg 0 (List.length g))) (.br (Zb s) (fin3 g x21) (.br (decide (iN (List.length g) > 0)) (.br (s == 5) (fin3 g x23) (fin3 g x25)) (fin3 g x1))) (.leaf none)) (.leaf none)) (.leaf none)) (.leaf none)) (.leaf none)) (.leaf none)
theorem ZFf (a : HL Zj) : Zh (envX Tryz.prog (ZZ 8) [] 2047 8) Tryz.f42 Zj ZE a = ZqN a.1 a.2.1 a.2.2 := by kernel_rfl
def ZlK (c : TC) (s : Int) (g : List Int) : RT (Option (TY × Bool)) :=
 let x1 : List TY := [(12, pcOf c, 0, 6)] ++ [(5, u16.wrap ((spOf c) - 1), u8.wrap (shrI u16 (pcOf c) 8), 3)] ++ [(5, u16.wrap ((spOf c) - 2), u8.wrap (pcOf c), 3)]
 let x3 : List TY := [(bif s == 5 then 8 else 1, pcOf c, 0, 4)]
 let x4 : List TY := x3 ++ [(2, Zai c.2.1 2, 0, 3)]
 let x6 : Nat := List.length x3
 let x7 := decide (iN (List.length g) ≥ iN x6)
 let x8 := Zg (iN (List.length g)) x6
 let x9 : TY × Bool := (R.get (RY) x3 (iN (List.length g)), true)
 .br (Zb s || (!decide (iN (List.length g) > 0) || (!Zg 0 (List.length g) || (Za c.1 (R.get (R.int u8) g 0)).1 == 12))) (.br (Zb s || (!decide (iN (List.length g) > 0) || Zg 0 (List.length g))) (.br (Zb s) (fin3 g x1) (.br (decide (iN (List.length g) > 0)) (.br ((Za c.1 (R.get (R.int u8) g 0)).2.2.2.1 == 6) (fin3 g x4) (.br (x7) (.leaf (some (((0, 0, 0, 0), false)))) (.br (x8) (.leaf (some (x9))) (.leaf none)))) (.br (x7) (.leaf (some (((0, 0, 0, 0), false)))) (.br (x8) (.leaf (some (x9))) (.leaf none))))) (.leaf none)) (.leaf none)
theorem ZyH (a : HL Zj) : Zh (envX Tryz.prog (ZZ 12) [] 2047 8) Tryz.f42 Zj ZE a = ZlK a.1 a.2.1 a.2.2 := by kernel_rfl
def ZlG (c : TC) (s : Int) (g : List Int) : RT (Option (TY × Bool)) :=
 let x1 : List TY := [(12, pcOf c, 0, 6)] ++ [(5, u16.wrap ((spOf c) - 1), u8.wrap (shrI u16 (pcOf c) 8), 3)] ++ [(5, u16.wrap ((spOf c) - 2), u8.wrap (pcOf c), 3)]
 let x3 : List TY := [(bif s == 5 then 8 else 1, pcOf c, 0, 4)]
 .br (Zb s || (!decide (iN (List.length g) > 0) || (!Zg 0 (List.length g) || (Za c.1 (R.get (R.int u8) g 0)).1 == 16))) (.br (Zb s || (!decide (iN (List.length g) > 0) || Zg 0 (List.length g))) (.br (Zb s) (fin3 g x1) (fin3 g x3)) (.leaf none)) (.leaf none)
theorem ZyD (a : HL Zj) : Zh (envX Tryz.prog (ZZ 16) [] 2047 8) Tryz.f42 Zj ZE a = ZlG a.1 a.2.1 a.2.2 := by kernel_rfl
def ZlC (c : TC) (s : Int) (g : List Int) : RT (Option (TY × Bool)) :=
 let x1 : List TY := [(12, pcOf c, 0, 6)] ++ [(5, u16.wrap ((spOf c) - 1), u8.wrap (shrI u16 (pcOf c) 8), 3)] ++ [(5, u16.wrap ((spOf c) - 2), u8.wrap (pcOf c), 3)]
 let x3 : List TY := [(bif s == 5 then 8 else 1, pcOf c, 0, 4)]
 .br (Zb s || (!decide (iN (List.length g) > 0) || (!Zg 0 (List.length g) || (Za c.1 (R.get (R.int u8) g 0)).1 == 20))) (.br (Zb s || (!decide (iN (List.length g) > 0) || Zg 0 (List.length g))) (.br (Zb s) (fin3 g x1) (fin3 g x3)) (.leaf none)) (.leaf none)
theorem Zyz (a : HL Zj) : Zh (envX Tryz.prog (ZZ 20) [] 2047 8) Tryz.f42 Zj ZE a = ZlC a.1 a.2.1 a.2.2 := by kernel_rfl
def Zly (c : TC) (s : Int) (g : List Int) : RT (Option (TY × Bool)) :=
 let x1 : List TY := [(12, pcOf c, 0, 6)] ++ [(5, u16.wrap ((spOf c) - 1), u8.wrap (shrI u16 (pcOf c) 8), 3)] ++ [(5, u16.wrap ((spOf c) - 2), u8.wrap (pcOf c), 3)]
 let x3 : List TY := [(bif s == 5 then 8 else 1, pcOf c, 0, 4)]
 let x4 : List TY := [(9, pcOf c, 0, 3)]
 let x5 : List TY := x3 ++ x4
 let x7 : List TY := x3 ++ [(2, u16.wrap ((pcOf c) + u16.wrap 1), 0, 3)]
 let x9 : List TY := [(2, u16.wrap ((pcOf c) + u16.wrap (i64.wrap (1 + 1))), 0, 3)]
 let x10 : List TY := bif s == 5 then x5 ++ x4 else x5 ++ x9
 let x12 : List TY := bif s == 5 then x7 ++ x4 else x7 ++ x9
 .br (Zb s || (!decide (iN (List.length g) > 0) || (!Zg 0 (List.length g) || (Za c.1 (R.get (R.int u8) g 0)).1 == 24))) (.br (Zb s || (!decide (iN (List.length g) > 0) || Zg 0 (List.length g))) (.br (Zb s) (fin3 g x1) (.br (decide (iN (List.length g) > 0)) (.br (rOn c.1 && !Zd6 (c, s == 5, g, x3) (24, (Za c.1 (R.get (R.int u8) g 0)).2)) (.br (s == 5) (fin3 g x5) (fin3 g x7)) (.br (s == 5) (fin3 g x10) (fin3 g x12))) (fin3 g x3))) (.leaf none)) (.leaf none)
theorem Zyv (a : HL Zj) : Zh (envX Tryz.prog (ZZ 24) [] 2047 8) Tryz.f42 Zj ZE a = Zly a.1 a.2.1 a.2.2 := by kernel_rfl
def Zlu (c : TC) (s : Int) (g : List Int) : RT (Option (TY × Bool)) :=
 let x1 : List TY := [(12, pcOf c, 0, 6)] ++ [(5, u16.wrap ((spOf c) - 1), u8.wrap (shrI u16 (pcOf c) 8), 3)] ++ [(5, u16.wrap ((spOf c) - 2), u8.wrap (pcOf c), 3)]
 let x3 : List TY := [(bif s == 5 then 8 else 1, pcOf c, 0, 4)]
 .br (Zb s || (!decide (iN (List.length g) > 0) || (!Zg 0 (List.length g) || (Za c.1 (R.get (R.int u8) g 0)).1 == 28))) (.br (Zb s || (!decide (iN (List.length g) > 0) || Zg 0 (List.length g))) (.br (Zb s) (fin3 g x1) (fin3 g x3)) (.leaf none)) (.leaf none)
theorem Zyr (a : HL Zj) : Zh (envX Tryz.prog (ZZ 28) [] 2047 8) Tryz.f42 Zj ZE a = Zlu a.1 a.2.1 a.2.2 := by kernel_rfl
def Zlq (c : TC) (s : Int) (g : List Int) : RT (Option (TY × Bool)) :=
 let x1 : List TY := [(12, pcOf c, 0, 6)] ++ [(5, u16.wrap ((spOf c) - 1), u8.wrap (shrI u16 (pcOf c) 8), 3)] ++ [(5, u16.wrap ((spOf c) - 2), u8.wrap (pcOf c), 3)]
 let x3 : List TY := [(bif s == 5 then 8 else 1, pcOf c, 0, 4)]
 let x4 := u16.wrap ((spOf c) + 1)
 let x5 : List TY := x3 ++ [(4, spOf c, 0, 3)] ++ [(4, x4, 0, 3)] ++ [(5, x4, c.2.1.2.2.2.2.2.1, 3)] ++ [(5, spOf c, c.2.1.2.2.2.2.2.2.1, 3)]
 let x6 := i64.wrap (iN (List.length x5) - 1)
 let x7 : QT11 := R.get (RY) x5 x6
 let x8 := x7.2
 let x9 : List TY := bif !rOn c.1 then setI x5 x6 (x7.1, x8.1, x8.2.1, 5) else x5
 .br (Zb s || (!decide (iN (List.length g) > 0) || (!Zg 0 (List.length g) || (Za c.1 (R.get (R.int u8) g 0)).1 == 32))) (.br (Zb s || (!decide (iN (List.length g) > 0) || Zg 0 (List.length g))) (.br (Zb s) (fin3 g x1) (.br (decide (iN (List.length g) > 0)) (fin3 g x9) (fin3 g x3))) (.leaf none)) (.leaf none)
theorem Zyn (a : HL Zj) : Zh (envX Tryz.prog (ZZ 32) [] 2047 8) Tryz.f42 Zj ZE a = Zlq a.1 a.2.1 a.2.2 := by kernel_rfl
def Zlm (c : TC) (s : Int) (g : List Int) : RT (Option (TY × Bool)) :=
 let x1 : List TY := [(12, pcOf c, 0, 6)] ++ [(5, u16.wrap ((spOf c) - 1), u8.wrap (shrI u16 (pcOf c) 8), 3)] ++ [(5, u16.wrap ((spOf c) - 2), u8.wrap (pcOf c), 3)]
 let x3 : List TY := [(bif s == 5 then 8 else 1, pcOf c, 0, 4)]
 .br (Zb s || (!decide (iN (List.length g) > 0) || (!Zg 0 (List.length g) || (Za c.1 (R.get (R.int u8) g 0)).1 == 36))) (.br (Zb s || (!decide (iN (List.length g) > 0) || Zg 0 (List.length g))) (.br (Zb s) (fin3 g x1) (fin3 g x3)) (.leaf none)) (.leaf none)
theorem Zyj (a : HL Zj) : Zh (envX Tryz.prog (ZZ 36) [] 2047 8) Tryz.f42 Zj ZE a = Zlm a.1 a.2.1 a.2.2 := by kernel_rfl
def Zli (c : TC) (s : Int) (g : List Int) : RT (Option (TY × Bool)) :=
 let x1 : List TY := [(12, pcOf c, 0, 6)] ++ [(5, u16.wrap ((spOf c) - 1), u8.wrap (shrI u16 (pcOf c) 8), 3)] ++ [(5, u16.wrap ((spOf c) - 2), u8.wrap (pcOf c), 3)]
 let x3 : List TY := [(bif s == 5 then 8 else 1, pcOf c, 0, 4)]
 let x4 : List TY := [(11, pcOf c, 0, 3)]
 let x5 : List TY := x3 ++ x4 ++ x4
 .br (Zb s || (!decide (iN (List.length g) > 0) || (!Zg 0 (List.length g) || (Za c.1 (R.get (R.int u8) g 0)).1 == 40))) (.br (Zb s || (!decide (iN (List.length g) > 0) || Zg 0 (List.length g))) (.br (Zb s) (fin3 g x1) (.br (decide (iN (List.length g) > 0)) (fin3 g x5) (fin3 g x3))) (.leaf none)) (.leaf none)
theorem Zyf (a : HL Zj) : Zh (envX Tryz.prog (ZZ 40) [] 2047 8) Tryz.f42 Zj ZE a = Zli a.1 a.2.1 a.2.2 := by kernel_rfl
def Zle (c : TC) (s : Int) (g : List Int) : RT (Option (TY × Bool)) :=
 let x1 : List TY := [(12, pcOf c, 0, 6)] ++ [(5, u16.wrap ((spOf c) - 1), u8.wrap (shrI u16 (pcOf c) 8), 3)] ++ [(5, u16.wrap ((spOf c) - 2), u8.wrap (pcOf c), 3)]
 let x3 : List TY := [(bif s == 5 then 8 else 1, pcOf c, 0, 4)]
 let x4 : QT6 := ((pcOf c), 0, 3)
 let x5 : List TY := [(11, x4)]
 let x6 : List TY := x3 ++ [(9, x4)] ++ x5
 let x8 : List TY := x3 ++ [(2, u16.wrap ((pcOf c) + u16.wrap 1), 0, 3)] ++ x5
 .br (Zb s || (!decide (iN (List.length g) > 0) || (!Zg 0 (List.length g) || (Za c.1 (R.get (R.int u8) g 0)).1 == 44))) (.br (Zb s || (!decide (iN (List.length g) > 0) || Zg 0 (List.length g))) (.br (Zb s) (fin3 g x1) (.br (decide (iN (List.length g) > 0)) (.br (s == 5) (fin3 g x6) (fin3 g x8)) (fin3 g x3))) (.leaf none)) (.leaf none)
theorem Zyb (a : HL Zj) : Zh (envX Tryz.prog (ZZ 44) [] 2047 8) Tryz.f42 Zj ZE a = Zle a.1 a.2.1 a.2.2 := by kernel_rfl
def Zsg (c : TC) (s : Int) (g : List Int) : RT (Option (TY × Bool)) :=
 let x1 : QT1 := (c, s == 5, g, (0, 0, 0, 0, 0, 0, 0, 0), [])
 let x2 := qAtC x1 0
 let x3 := Za c.1 (qAt x1 0)
 let x4 := !x2 || x3.1 == 4
 let x5 : QT6 := ((pcOf c), 0, 4)
 let x6 : List TY := [] ++ [(1, x5)]
 let x7 : List TY := [(9, pcOf c, 0, 3)]
 let x8 : List TY := bif s == 5 then x6 ++ x7 else x6 ++ [(2, u16.wrap ((pcOf c) + u16.wrap 1), 0, 3)]
 let x9 : List TY := bif s == 5 then x8 ++ x7 else x8 ++ [(2, u16.wrap ((pcOf c) + u16.wrap (i64.wrap (1 + 1))), 0, 3)]
 let x10 : List TY := [] ++ [(12, pcOf c, 0, 6)] ++ [(5, u16.wrap ((spOf c) - 1), u8.wrap (shrI u16 (pcOf c) 8), 3)] ++ [(5, u16.wrap ((spOf c) - 2), u8.wrap (pcOf c), 3)]
 let x12 : List TY := [] ++ [(bif s == 5 then 8 else 1, x5)]
 .br (!x4 || x2) (.br (x4) (.br (Ze s || (iN (List.length g) == 0 || Zcq (c, s == 5, g, (4, x3.2), x9) 1)) (.br (Ze s) (fin3 g x10) (.br (iN (List.length g) == 0) (fin3 g x12) (fin3 g x9))) (.leaf none)) (.leaf none)) (.leaf none)
theorem ZGn (a : HL Zk) : Zh (envX Tryz.prog (Z1 4) [] 1125900980585471 8) Tryz.f113 Zk ZF a = Zsg a.1 a.2.1 a.2.2 := by kernel_rfl
def Zsc (c : TC) (s : Int) (g : List Int) : RT (Option (TY × Bool)) :=
 let x1 : QT1 := (c, s == 5, g, (0, 0, 0, 0, 0, 0, 0, 0), [])
 let x2 := qAtC x1 0
 let x3 := Za c.1 (qAt x1 0)
 let x4 := !x2 || x3.1 == 8
 let x5 : QT6 := ((pcOf c), 0, 4)
 let x6 : List TY := [] ++ [(1, x5)]
 let x7 : List TY := [(9, pcOf c, 0, 3)]
 let x8 : List TY := bif s == 5 then x6 ++ x7 else x6 ++ [(2, u16.wrap ((pcOf c) + u16.wrap 1), 0, 3)]
 let x9 : List TY := bif s == 5 then x8 ++ x7 else x8 ++ [(2, u16.wrap ((pcOf c) + u16.wrap (i64.wrap (1 + 1))), 0, 3)]
 let x10 : QT1 := (c, s == 5, g, (8, x3.2), x9)
 let x11 : List TY := [] ++ [(12, pcOf c, 0, 6)] ++ [(5, u16.wrap ((spOf c) - 1), u8.wrap (shrI u16 (pcOf c) 8), 3)] ++ [(5, u16.wrap ((spOf c) - 2), u8.wrap (pcOf c), 3)]
 let x13 : List TY := [] ++ [(bif s == 5 then 8 else 1, x5)]
 let x15 := ZfI x10 1
 let x16 : List TY := x9 ++ [(3, x15, c.2.1.2.2.2.2.2.2.1, 3)] ++ [(3, u16.wrap (x15 + 1), c.2.1.2.2.2.2.2.1, 3)]
 .br (!x4 || x2) (.br (x4) (.br (Ze s || (iN (List.length g) == 0 || Zcq x10 1)) (.br (Ze s) (fin3 g x11) (.br (iN (List.length g) == 0) (fin3 g x13) (fin3 g x16))) (.leaf none)) (.leaf none)) (.leaf none)
theorem ZGj (a : HL Zk) : Zh (envX Tryz.prog (Z1 8) [] 1125900980585471 8) Tryz.f113 Zk ZF a = Zsc a.1 a.2.1 a.2.2 := by kernel_rfl
def ZmS (c : TC) (s : Int) (g : List Int) : RT (Option (TY × Bool)) :=
 let x1 : QT1 := (c, s == 5, g, (0, 0, 0, 0, 0, 0, 0, 0), [])
 let x2 := qAtC x1 0
 let x3 := Za c.1 (qAt x1 0)
 let x4 := !x2 || x3.1 == 12
 let x5 : List TY := [] ++ [(12, pcOf c, 0, 6)] ++ [(5, u16.wrap ((spOf c) - 1), u8.wrap (shrI u16 (pcOf c) 8), 3)] ++ [(5, u16.wrap ((spOf c) - 2), u8.wrap (pcOf c), 3)]
 let x7 : QT6 := ((pcOf c), 0, 4)
 let x8 : List TY := [] ++ [(bif s == 5 then 8 else 1, x7)]
 let x10 := x3.2
 let x11 : List TY := [] ++ [(1, x7)]
 let x12 : List TY := bif x10.2.2.1 == 6 then x11 ++ [(2, ZdG (c, s == 5, g, (12, x10), x11) 2, 0, 3)] else x11
 .br (!x4 || x2) (.br (x4) (.br (Ze s) (fin3 g x5) (.br (iN (List.length g) == 0) (fin3 g x8) (fin3 g x12))) (.leaf none)) (.leaf none)
theorem ZAd (a : HL Zk) : Zh (envX Tryz.prog (Z1 12) [] 1125900980585471 8) Tryz.f113 Zk ZF a = ZmS a.1 a.2.1 a.2.2 := by kernel_rfl
def ZmO (c : TC) (s : Int) (g : List Int) : RT (Option (TY × Bool)) :=
 let x1 : QT1 := (c, s == 5, g, (0, 0, 0, 0, 0, 0, 0, 0), [])
 let x2 := qAtC x1 0
 let x3 := !x2 || (Za c.1 (qAt x1 0)).1 == 16
 let x4 : List TY := [] ++ [(12, pcOf c, 0, 6)] ++ [(5, u16.wrap ((spOf c) - 1), u8.wrap (shrI u16 (pcOf c) 8), 3)] ++ [(5, u16.wrap ((spOf c) - 2), u8.wrap (pcOf c), 3)]
 let x6 : QT6 := ((pcOf c), 0, 4)
 let x7 : List TY := [] ++ [(bif s == 5 then 8 else 1, x6)]
 let x9 : List TY := [] ++ [(1, x6)]
 .br (!x3 || x2) (.br (x3) (.br (Ze s) (fin3 g x4) (.br (iN (List.length g) == 0) (fin3 g x7) (fin3 g x9))) (.leaf none)) (.leaf none)
theorem Zz9 (a : HL Zk) : Zh (envX Tryz.prog (Z1 16) [] 1125900980585471 8) Tryz.f113 Zk ZF a = ZmO a.1 a.2.1 a.2.2 := by kernel_rfl
def ZmK (c : TC) (s : Int) (g : List Int) : RT (Option (TY × Bool)) :=
 let x1 : QT1 := (c, s == 5, g, (0, 0, 0, 0, 0, 0, 0, 0), [])
 let x2 := qAtC x1 0
 let x3 := !x2 || (Za c.1 (qAt x1 0)).1 == 20
 let x4 : List TY := [] ++ [(12, pcOf c, 0, 6)] ++ [(5, u16.wrap ((spOf c) - 1), u8.wrap (shrI u16 (pcOf c) 8), 3)] ++ [(5, u16.wrap ((spOf c) - 2), u8.wrap (pcOf c), 3)]
 let x6 : QT6 := ((pcOf c), 0, 4)
 let x7 : List TY := [] ++ [(bif s == 5 then 8 else 1, x6)]
 let x9 : List TY := [] ++ [(1, x6)]
 .br (!x3 || x2) (.br (x3) (.br (Ze s) (fin3 g x4) (.br (iN (List.length g) == 0) (fin3 g x7) (fin3 g x9))) (.leaf none)) (.leaf none)
theorem Zz5 (a : HL Zk) : Zh (envX Tryz.prog (Z1 20) [] 1125900980585471 8) Tryz.f113 Zk ZF a = ZmK a.1 a.2.1 a.2.2 := by kernel_rfl
def ZmG (c : TC) (s : Int) (g : List Int) : RT (Option (TY × Bool)) :=
 let x1 : QT1 := (c, s == 5, g, (0, 0, 0, 0, 0, 0, 0, 0), [])
 let x2 := qAtC x1 0
 let x3 := Za c.1 (qAt x1 0)
 let x4 := !x2 || x3.1 == 24
 let x5 : List TY := [] ++ [(12, pcOf c, 0, 6)] ++ [(5, u16.wrap ((spOf c) - 1), u8.wrap (shrI u16 (pcOf c) 8), 3)] ++ [(5, u16.wrap ((spOf c) - 2), u8.wrap (pcOf c), 3)]
 let x7 : QT6 := ((pcOf c), 0, 4)
 let x8 : List TY := [] ++ [(bif s == 5 then 8 else 1, x7)]
 let x10 : List TY := [] ++ [(1, x7)]
 let x11 : List TY := [(9, pcOf c, 0, 3)]
 let x12 : List TY := bif s == 5 then x10 ++ x11 else x10 ++ [(2, u16.wrap ((pcOf c) + u16.wrap 1), 0, 3)]
 let x13 : List TY := bif !ZgJ (c, s == 5, g, (24, x3.2), x10) && c.1 == 2 then x12 else bif s == 5 then x12 ++ x11 else x12 ++ [(2, u16.wrap ((pcOf c) + u16.wrap (i64.wrap (1 + 1))), 0, 3)]
 .br (!x4 || x2) (.br (x4) (.br (Ze s) (fin3 g x5) (.br (iN (List.length g) == 0) (fin3 g x8) (fin3 g x13))) (.leaf none)) (.leaf none)
theorem Zz1 (a : HL Zk) : Zh (envX Tryz.prog (Z1 24) [] 1125900980585471 8) Tryz.f113 Zk ZF a = ZmG a.1 a.2.1 a.2.2 := by kernel_rfl
def ZmC (c : TC) (s : Int) (g : List Int) : RT (Option (TY × Bool)) :=
 let x1 : QT1 := (c, s == 5, g, (0, 0, 0, 0, 0, 0, 0, 0), [])
 let x2 := qAtC x1 0
 let x3 := !x2 || (Za c.1 (qAt x1 0)).1 == 28
 let x4 : List TY := [] ++ [(12, pcOf c, 0, 6)] ++ [(5, u16.wrap ((spOf c) - 1), u8.wrap (shrI u16 (pcOf c) 8), 3)] ++ [(5, u16.wrap ((spOf c) - 2), u8.wrap (pcOf c), 3)]
 let x6 : QT6 := ((pcOf c), 0, 4)
 let x7 : List TY := [] ++ [(bif s == 5 then 8 else 1, x6)]
 let x9 : List TY := [] ++ [(1, x6)]
 .br (!x3 || x2) (.br (x3) (.br (Ze s) (fin3 g x4) (.br (iN (List.length g) == 0) (fin3 g x7) (fin3 g x9))) (.leaf none)) (.leaf none)
theorem ZzX (a : HL Zk) : Zh (envX Tryz.prog (Z1 28) [] 1125900980585471 8) Tryz.f113 Zk ZF a = ZmC a.1 a.2.1 a.2.2 := by kernel_rfl
def Zmy (c : TC) (s : Int) (g : List Int) : RT (Option (TY × Bool)) :=
 let x1 : QT1 := (c, s == 5, g, (0, 0, 0, 0, 0, 0, 0, 0), [])
 let x2 := qAtC x1 0
 let x3 := !x2 || (Za c.1 (qAt x1 0)).1 == 32
 let x4 : List TY := [] ++ [(12, pcOf c, 0, 6)] ++ [(5, u16.wrap ((spOf c) - 1), u8.wrap (shrI u16 (pcOf c) 8), 3)] ++ [(5, u16.wrap ((spOf c) - 2), u8.wrap (pcOf c), 3)]
 let x6 : QT6 := ((pcOf c), 0, 4)
 let x7 : List TY := [] ++ [(bif s == 5 then 8 else 1, x6)]
 let x9 := u16.wrap ((spOf c) + 1)
 let x10 : List TY := [] ++ [(1, x6)] ++ [(4, spOf c, 0, 3)] ++ [(4, x9, 0, 3)] ++ [(5, x9, c.2.1.2.2.2.2.2.1, 3)] ++ [(5, spOf c, c.2.1.2.2.2.2.2.2.1, 3)]
 let x11 := i64.wrap (iN (List.length x10) - 1)
 let x12 : QT11 := R.get (RY) x10 x11
 let x13 := x12.2
 let x14 : List TY := bif c.1 != 2 then setI x10 x11 (x12.1, x13.1, x13.2.1, 5) else x10
 .br (!x3 || x2) (.br (x3) (.br (Ze s) (fin3 g x4) (.br (iN (List.length g) == 0) (fin3 g x7) (fin3 g x14))) (.leaf none)) (.leaf none)
theorem ZzT (a : HL Zk) : Zh (envX Tryz.prog (Z1 32) [] 1125900980585471 8) Tryz.f113 Zk ZF a = Zmy a.1 a.2.1 a.2.2 := by kernel_rfl
def Zmu (c : TC) (s : Int) (g : List Int) : RT (Option (TY × Bool)) :=
 let x1 : QT1 := (c, s == 5, g, (0, 0, 0, 0, 0, 0, 0, 0), [])
 let x2 := qAtC x1 0
 let x3 := !x2 || (Za c.1 (qAt x1 0)).1 == 36
 let x4 : List TY := [] ++ [(12, pcOf c, 0, 6)] ++ [(5, u16.wrap ((spOf c) - 1), u8.wrap (shrI u16 (pcOf c) 8), 3)] ++ [(5, u16.wrap ((spOf c) - 2), u8.wrap (pcOf c), 3)]
 let x6 : QT6 := ((pcOf c), 0, 4)
 let x7 : List TY := [] ++ [(bif s == 5 then 8 else 1, x6)]
 let x9 : List TY := [] ++ [(1, x6)]
 .br (!x3 || x2) (.br (x3) (.br (Ze s) (fin3 g x4) (.br (iN (List.length g) == 0) (fin3 g x7) (fin3 g x9))) (.leaf none)) (.leaf none)
theorem ZzP (a : HL Zk) : Zh (envX Tryz.prog (Z1 36) [] 1125900980585471 8) Tryz.f113 Zk ZF a = Zmu a.1 a.2.1 a.2.2 := by kernel_rfl
def Zmq (c : TC) (s : Int) (g : List Int) : RT (Option (TY × Bool)) :=
 let x1 : QT1 := (c, s == 5, g, (0, 0, 0, 0, 0, 0, 0, 0), [])
 let x2 := qAtC x1 0
 let x3 := !x2 || (Za c.1 (qAt x1 0)).1 == 40
 let x4 : List TY := [] ++ [(12, pcOf c, 0, 6)] ++ [(5, u16.wrap ((spOf c) - 1), u8.wrap (shrI u16 (pcOf c) 8), 3)] ++ [(5, u16.wrap ((spOf c) - 2), u8.wrap (pcOf c), 3)]
 let x6 : QT6 := ((pcOf c), 0, 4)
 let x7 : List TY := [] ++ [(bif s == 5 then 8 else 1, x6)]
 let x9 : List TY := [(11, pcOf c, 0, 3)]
 let x10 : List TY := [] ++ [(1, x6)] ++ x9 ++ x9
 .br (!x3 || x2) (.br (x3) (.br (Ze s) (fin3 g x4) (.br (iN (List.length g) == 0) (fin3 g x7) (fin3 g x10))) (.leaf none)) (.leaf none)
theorem ZzL (a : HL Zk) : Zh (envX Tryz.prog (Z1 40) [] 1125900980585471 8) Tryz.f113 Zk ZF a = Zmq a.1 a.2.1 a.2.2 := by kernel_rfl
def Zmm (c : TC) (s : Int) (g : List Int) : RT (Option (TY × Bool)) :=
 let x1 : QT1 := (c, s == 5, g, (0, 0, 0, 0, 0, 0, 0, 0), [])
 let x2 := qAtC x1 0
 let x3 := !x2 || (Za c.1 (qAt x1 0)).1 == 44
 let x4 : List TY := [] ++ [(12, pcOf c, 0, 6)] ++ [(5, u16.wrap ((spOf c) - 1), u8.wrap (shrI u16 (pcOf c) 8), 3)] ++ [(5, u16.wrap ((spOf c) - 2), u8.wrap (pcOf c), 3)]
 let x6 : QT6 := ((pcOf c), 0, 4)
 let x7 : List TY := [] ++ [(bif s == 5 then 8 else 1, x6)]
 let x9 : List TY := [] ++ [(1, x6)]
 let x10 : QT6 := ((pcOf c), 0, 3)
 let x11 : List TY := (bif s == 5 then x9 ++ [(9, x10)] else x9 ++ [(2, u16.wrap ((pcOf c) + u16.wrap 1), 0, 3)]) ++ [(11, x10)]
 .br (!x3 || x2) (.br (x3) (.br (Ze s) (fin3 g x4) (.br (iN (List.length g) == 0) (fin3 g x7) (fin3 g x11))) (.leaf none)) (.leaf none)
theorem ZzH (a : HL Zk) : Zh (envX Tryz.prog (Z1 44) [] 1125900980585471 8) Tryz.f113 Zk ZF a = Zmm a.1 a.2.1 a.2.2 := by kernel_rfl
def ZqU (c : TC) (s : Int) (g : List Int) : RT (Option (TY × Bool)) :=
 let x1 : List TY := [(12, pcOf c, 0, 6)] ++ [(5, u16.wrap ((spOf c) - 1), u8.wrap (shrI u16 (pcOf c) 8), 3)] ++ [(5, u16.wrap ((spOf c) - 2), u8.wrap (pcOf c), 3)]
 let x3 : List TY := [(bif s == 5 then 8 else 1, pcOf c, 0, 4)]
 .br (Zb s || (!decide (iN (List.length g) > 0) || (!Zg 0 (List.length g) || (Za c.1 (R.get (R.int u8) g 0)).1 == 1))) (.br (Zb s || (!decide (iN (List.length g) > 0) || Zg 0 (List.length g))) (.br (Zb s) (fin3 g x1) (fin3 g x3)) (.leaf none)) (.leaf none)
theorem ZFm (a : HL Zj) : Zh (envX Tryz.prog (ZZ 1) [] 2047 8) Tryz.f42 Zj ZE a = ZqU a.1 a.2.1 a.2.2 := by kernel_rfl
def ZqQ (c : TC) (s : Int) (g : List Int) : RT (Option (TY × Bool)) :=
 let x1 : List TY := [(bif s == 5 then 8 else 1, pcOf c, 0, 4)]
 let x2 : List TY := [(9, pcOf c, 0, 3)]
 let x3 : List TY := x1 ++ x2
 let x4 : List TY := [(2, u16.wrap ((pcOf c) + u16.wrap (i64.wrap (1 + 1))), 0, 3)]
 let x5 : List TY := bif s == 5 then x3 ++ x2 else x3 ++ x4
 let x6 : QT4 := (c, s == 5, g, x5)
 let x7 := !s == 5 || ZbX x6 1
 let x8 : List TY := x1 ++ [(2, u16.wrap ((pcOf c) + u16.wrap 1), 0, 3)]
 let x9 : List TY := bif s == 5 then x8 ++ x2 else x8 ++ x4
 let x10 : QT4 := (c, s == 5, g, x9)
 let x11 : List TY := [(12, pcOf c, 0, 6)] ++ [(5, u16.wrap ((spOf c) - 1), u8.wrap (shrI u16 (pcOf c) 8), 3)] ++ [(5, u16.wrap ((spOf c) - 2), u8.wrap (pcOf c), 3)]
 let x13 : List TY := x5 ++ [(2, Zei x6 1, 0, 3)]
 let x15 : List TY := x9 ++ [(2, Zei x10 1, 0, 3)]
 .br (Zb s || (!decide (iN (List.length g) > 0) || (!Zg 0 (List.length g) || (!(Za c.1 (R.get (R.int u8) g 0)).1 == 5 || (!x7 || (s == 5 || ZbX x10 1)))))) (.br (Zb s || (!decide (iN (List.length g) > 0) || (!Zg 0 (List.length g) || (!(Za c.1 (R.get (R.int u8) g 0)).1 == 5 || x7)))) (.br (Zb s || (!decide (iN (List.length g) > 0) || (!Zg 0 (List.length g) || (Za c.1 (R.get (R.int u8) g 0)).1 == 5))) (.br (Zb s || (!decide (iN (List.length g) > 0) || Zg 0 (List.length g))) (.br (Zb s) (fin3 g x11) (.br (decide (iN (List.length g) > 0)) (.br (s == 5) (fin3 g x13) (fin3 g x15)) (fin3 g x1))) (.leaf none)) (.leaf none)) (.leaf none)) (.leaf none)
theorem ZFi (a : HL Zj) : Zh (envX Tryz.prog (ZZ 5) [] 2047 8) Tryz.f42 Zj ZE a = ZqQ a.1 a.2.1 a.2.2 := by kernel_rfl
def ZqM (c : TC) (s : Int) (g : List Int) : RT (Option (TY × Bool)) :=
 let x1 : List TY := [(12, pcOf c, 0, 6)] ++ [(5, u16.wrap ((spOf c) - 1), u8.wrap (shrI u16 (pcOf c) 8), 3)] ++ [(5, u16.wrap ((spOf c) - 2), u8.wrap (pcOf c), 3)]
 let x3 : List TY := [(bif s == 5 then 8 else 1, pcOf c, 0, 4)]
 let x4 : List TY := x3 ++ [(2, Zai c.2.1 (Za c.1 (R.get (R.int u8) g 0)).2.2.2.2.1, 0, 3)]
 .br (Zb s || (!decide (iN (List.length g) > 0) || (!Zg 0 (List.length g) || (Za c.1 (R.get (R.int u8) g 0)).1 == 9))) (.br (Zb s || (!decide (iN (List.length g) > 0) || Zg 0 (List.length g))) (.br (Zb s) (fin3 g x1) (.br (decide (iN (List.length g) > 0)) (fin3 g x4) (fin3 g x3))) (.leaf none)) (.leaf none)
theorem ZFe (a : HL Zj) : Zh (envX Tryz.prog (ZZ 9) [] 2047 8) Tryz.f42 Zj ZE a = ZqM a.1 a.2.1 a.2.2 := by kernel_rfl
def ZlJ (c : TC) (s : Int) (g : List Int) : RT (Option (TY × Bool)) :=
 let x1 : List TY := [(12, pcOf c, 0, 6)] ++ [(5, u16.wrap ((spOf c) - 1), u8.wrap (shrI u16 (pcOf c) 8), 3)] ++ [(5, u16.wrap ((spOf c) - 2), u8.wrap (pcOf c), 3)]
 let x3 : List TY := [(bif s == 5 then 8 else 1, pcOf c, 0, 4)]
 let x4 : List TY := x3 ++ [(9, pcOf c, 0, 3)]
 let x6 : List TY := x3 ++ [(2, u16.wrap ((pcOf c) + u16.wrap 1), 0, 3)]
 .br (Zb s || (!decide (iN (List.length g) > 0) || (!Zg 0 (List.length g) || (Za c.1 (R.get (R.int u8) g 0)).1 == 13))) (.br (Zb s || (!decide (iN (List.length g) > 0) || Zg 0 (List.length g))) (.br (Zb s) (fin3 g x1) (.br (decide (iN (List.length g) > 0)) (.br (s == 5) (fin3 g x4) (fin3 g x6)) (fin3 g x3))) (.leaf none)) (.leaf none)
theorem ZyG (a : HL Zj) : Zh (envX Tryz.prog (ZZ 13) [] 2047 8) Tryz.f42 Zj ZE a = ZlJ a.1 a.2.1 a.2.2 := by kernel_rfl
def ZlF (c : TC) (s : Int) (g : List Int) : RT (Option (TY × Bool)) :=
 let x1 : List TY := [(12, pcOf c, 0, 6)] ++ [(5, u16.wrap ((spOf c) - 1), u8.wrap (shrI u16 (pcOf c) 8), 3)] ++ [(5, u16.wrap ((spOf c) - 2), u8.wrap (pcOf c), 3)]
 let x3 : List TY := [(bif s == 5 then 8 else 1, pcOf c, 0, 4)]
 .br (Zb s || (!decide (iN (List.length g) > 0) || (!Zg 0 (List.length g) || (Za c.1 (R.get (R.int u8) g 0)).1 == 17))) (.br (Zb s || (!decide (iN (List.length g) > 0) || Zg 0 (List.length g))) (.br (Zb s) (fin3 g x1) (fin3 g x3)) (.leaf none)) (.leaf none)
theorem ZyC (a : HL Zj) : Zh (envX Tryz.prog (ZZ 17) [] 2047 8) Tryz.f42 Zj ZE a = ZlF a.1 a.2.1 a.2.2 := by kernel_rfl
def ZlB (c : TC) (s : Int) (g : List Int) : RT (Option (TY × Bool)) :=
 let x1 : List TY := [(12, pcOf c, 0, 6)] ++ [(5, u16.wrap ((spOf c) - 1), u8.wrap (shrI u16 (pcOf c) 8), 3)] ++ [(5, u16.wrap ((spOf c) - 2), u8.wrap (pcOf c), 3)]
 let x3 : List TY := [(bif s == 5 then 8 else 1, pcOf c, 0, 4)]
 .br (Zb s || (!decide (iN (List.length g) > 0) || (!Zg 0 (List.length g) || (Za c.1 (R.get (R.int u8) g 0)).1 == 21))) (.br (Zb s || (!decide (iN (List.length g) > 0) || Zg 0 (List.length g))) (.br (Zb s) (fin3 g x1) (fin3 g x3)) (.leaf none)) (.leaf none)
theorem Zyy (a : HL Zj) : Zh (envX Tryz.prog (ZZ 21) [] 2047 8) Tryz.f42 Zj ZE a = ZlB a.1 a.2.1 a.2.2 := by kernel_rfl
def Zlx (c : TC) (s : Int) (g : List Int) : RT (Option (TY × Bool)) :=
 let x1 := u16.wrap ((spOf c) - 1)
 let x2 := u16.wrap ((spOf c) - 2)
 let x3 : List TY := [(12, pcOf c, 0, 6)] ++ [(5, x1, u8.wrap (shrI u16 (pcOf c) 8), 3)] ++ [(5, x2, u8.wrap (pcOf c), 3)]
 let x5 : List TY := [(bif s == 5 then 8 else 1, pcOf c, 0, 4)]
 let x6 : List TY := [(9, pcOf c, 0, 3)]
 let x7 : List TY := x5 ++ x6
 let x8 : QT4 := (c, s == 5, g, x7)
 let x9 := ZA x8 (Za c.1 (R.get (R.int u8) g 0)).2.1
 let x10 : List TY := bif Zd6 x8 (25, (Za c.1 (R.get (R.int u8) g 0)).2) then x7 ++ [(5, x1, u8.wrap (shrI u16 x9 8), 3)] ++ [(5, x2, u8.wrap x9, 3)] else x7
 let x12 : List TY := x5 ++ [(2, u16.wrap ((pcOf c) + u16.wrap 1), 0, 3)]
 let x13 : QT4 := (c, s == 5, g, x12)
 let x14 := ZA x13 (Za c.1 (R.get (R.int u8) g 0)).2.1
 let x15 : List TY := bif Zd6 x13 (25, (Za c.1 (R.get (R.int u8) g 0)).2) then x12 ++ [(5, x1, u8.wrap (shrI u16 x14 8), 3)] ++ [(5, x2, u8.wrap x14, 3)] else x12
 let x17 : List TY := [(2, u16.wrap ((pcOf c) + u16.wrap (i64.wrap (1 + 1))), 0, 3)]
 let x18 : List TY := bif s == 5 then x7 ++ x6 else x7 ++ x17
 let x19 : QT4 := (c, s == 5, g, x18)
 let x20 := ZA x19 (Za c.1 (R.get (R.int u8) g 0)).2.1
 let x21 : List TY := bif Zd6 x19 (25, (Za c.1 (R.get (R.int u8) g 0)).2) then x18 ++ [(5, x1, u8.wrap (shrI u16 x20 8), 3)] ++ [(5, x2, u8.wrap x20, 3)] else x18
 let x23 : List TY := bif s == 5 then x12 ++ x6 else x12 ++ x17
 let x24 : QT4 := (c, s == 5, g, x23)
 let x25 := ZA x24 (Za c.1 (R.get (R.int u8) g 0)).2.1
 let x26 : List TY := bif Zd6 x24 (25, (Za c.1 (R.get (R.int u8) g 0)).2) then x23 ++ [(5, x1, u8.wrap (shrI u16 x25 8), 3)] ++ [(5, x2, u8.wrap x25, 3)] else x23
 .br (Zb s || (!decide (iN (List.length g) > 0) || (!Zg 0 (List.length g) || (Za c.1 (R.get (R.int u8) g 0)).1 == 25))) (.br (Zb s || (!decide (iN (List.length g) > 0) || Zg 0 (List.length g))) (.br (Zb s) (fin3 g x3) (.br (decide (iN (List.length g) > 0)) (.br (rOn c.1 && !Zd6 (c, s == 5, g, x5) (25, (Za c.1 (R.get (R.int u8) g 0)).2)) (.br (s == 5) (fin3 g x10) (fin3 g x15)) (.br (s == 5) (fin3 g x21) (fin3 g x26))) (fin3 g x5))) (.leaf none)) (.leaf none)
theorem Zyu (a : HL Zj) : Zh (envX Tryz.prog (ZZ 25) [] 2047 8) Tryz.f42 Zj ZE a = Zlx a.1 a.2.1 a.2.2 := by kernel_rfl
def Zlt (c : TC) (s : Int) (g : List Int) : RT (Option (TY × Bool)) :=
 let x1 : List TY := [(12, pcOf c, 0, 6)] ++ [(5, u16.wrap ((spOf c) - 1), u8.wrap (shrI u16 (pcOf c) 8), 3)] ++ [(5, u16.wrap ((spOf c) - 2), u8.wrap (pcOf c), 3)]
 let x3 : List TY := [(bif s == 5 then 8 else 1, pcOf c, 0, 4)]
 .br (Zb s || (!decide (iN (List.length g) > 0) || (!Zg 0 (List.length g) || (Za c.1 (R.get (R.int u8) g 0)).1 == 29))) (.br (Zb s || (!decide (iN (List.length g) > 0) || Zg 0 (List.length g))) (.br (Zb s) (fin3 g x1) (fin3 g x3)) (.leaf none)) (.leaf none)
theorem Zyq (a : HL Zj) : Zh (envX Tryz.prog (ZZ 29) [] 2047 8) Tryz.f42 Zj ZE a = Zlt a.1 a.2.1 a.2.2 := by kernel_rfl
def Zlp (c : TC) (s : Int) (g : List Int) : RT (Option (TY × Bool)) :=
 let x1 : List TY := [(bif s == 5 then 8 else 1, pcOf c, 0, 4)]
 let x2 : List TY := x1 ++ [(9, pcOf c, 0, 3)]
 let x3 : QT4 := (c, s == 5, g, x2)
 let x4 := mAtC x3 1
 let x5 := !x4 || x4
 let x6 := !s == 5 || (!x5 || x4)
 let x7 := !x6
 let x8 := !s == 5 || x5
 let x9 := !x8
 let x10 : List TY := x1 ++ [(2, u16.wrap ((pcOf c) + u16.wrap 1), 0, 3)]
 let x11 : QT4 := (c, s == 5, g, x10)
 let x12 := mAtC x11 1
 let x13 := !x12 || x12
 let x14 := s == 5 || (!x13 || x12)
 let x15 : List TY := [(12, pcOf c, 0, 6)] ++ [(5, u16.wrap ((spOf c) - 1), u8.wrap (shrI u16 (pcOf c) 8), 3)] ++ [(5, u16.wrap ((spOf c) - 2), u8.wrap (pcOf c), 3)]
 let x17 := mAt x3 1
 let x18 : List TY := x2 ++ [(6, Zcp x17 x17, 0, 3)]
 let x20 := mAt x11 1
 let x21 : List TY := x10 ++ [(6, Zcp x20 x20, 0, 3)]
 .br (Zb s || (!decide (iN (List.length g) > 0) || (!Zg 0 (List.length g) || (!(Za c.1 (R.get (R.int u8) g 0)).1 == 33 || (x7 || (x9 || (!x14 || (s == 5 || x13)))))))) (.br (Zb s || (!decide (iN (List.length g) > 0) || (!Zg 0 (List.length g) || (!(Za c.1 (R.get (R.int u8) g 0)).1 == 33 || (x7 || (x9 || x14)))))) (.br (Zb s || (!decide (iN (List.length g) > 0) || (!Zg 0 (List.length g) || (!(Za c.1 (R.get (R.int u8) g 0)).1 == 33 || (x7 || x8))))) (.br (Zb s || (!decide (iN (List.length g) > 0) || (!Zg 0 (List.length g) || (!(Za c.1 (R.get (R.int u8) g 0)).1 == 33 || x6)))) (.br (Zb s || (!decide (iN (List.length g) > 0) || (!Zg 0 (List.length g) || (Za c.1 (R.get (R.int u8) g 0)).1 == 33))) (.br (Zb s || (!decide (iN (List.length g) > 0) || Zg 0 (List.length g))) (.br (Zb s) (fin3 g x15) (.br (decide (iN (List.length g) > 0)) (.br (s == 5) (fin3 g x18) (fin3 g x21)) (fin3 g x1))) (.leaf none)) (.leaf none)) (.leaf none)) (.leaf none)) (.leaf none)) (.leaf none)
theorem Zym (a : HL Zj) : Zh (envX Tryz.prog (ZZ 33) [] 2047 8) Tryz.f42 Zj ZE a = Zlp a.1 a.2.1 a.2.2 := by kernel_rfl
def Zll (c : TC) (s : Int) (g : List Int) : RT (Option (TY × Bool)) :=
 let x1 : List TY := [(12, pcOf c, 0, 6)] ++ [(5, u16.wrap ((spOf c) - 1), u8.wrap (shrI u16 (pcOf c) 8), 3)] ++ [(5, u16.wrap ((spOf c) - 2), u8.wrap (pcOf c), 3)]
 let x3 : List TY := [(bif s == 5 then 8 else 1, pcOf c, 0, 4)]
 let x4 : List TY := x3 ++ [(10, pcOf c, 0, 3)]
 let x6 : Nat := List.length x3
 let x7 := decide (iN (List.length g) ≥ iN x6)
 let x8 := Zg (iN (List.length g)) x6
 let x9 : TY × Bool := (R.get (RY) x3 (iN (List.length g)), true)
 .br (Zb s || (!decide (iN (List.length g) > 0) || (!Zg 0 (List.length g) || (Za c.1 (R.get (R.int u8) g 0)).1 == 37))) (.br (Zb s || (!decide (iN (List.length g) > 0) || Zg 0 (List.length g))) (.br (Zb s) (fin3 g x1) (.br (decide (iN (List.length g) > 0)) (.br (!rOn c.1) (fin3 g x4) (.br (x7) (.leaf (some (((0, 0, 0, 0), false)))) (.br (x8) (.leaf (some (x9))) (.leaf none)))) (.br (x7) (.leaf (some (((0, 0, 0, 0), false)))) (.br (x8) (.leaf (some (x9))) (.leaf none))))) (.leaf none)) (.leaf none)
theorem Zyi (a : HL Zj) : Zh (envX Tryz.prog (ZZ 37) [] 2047 8) Tryz.f42 Zj ZE a = Zll a.1 a.2.1 a.2.2 := by kernel_rfl
def Zlh (c : TC) (s : Int) (g : List Int) : RT (Option (TY × Bool)) :=
 let x1 : List TY := [(12, pcOf c, 0, 6)] ++ [(5, u16.wrap ((spOf c) - 1), u8.wrap (shrI u16 (pcOf c) 8), 3)] ++ [(5, u16.wrap ((spOf c) - 2), u8.wrap (pcOf c), 3)]
 let x3 : List TY := [(bif s == 5 then 8 else 1, pcOf c, 0, 4)]
 let x4 : List TY := x3 ++ [(11, pcOf c, 0, 3)]
 .br (Zb s || (!decide (iN (List.length g) > 0) || (!Zg 0 (List.length g) || (Za c.1 (R.get (R.int u8) g 0)).1 == 41))) (.br (Zb s || (!decide (iN (List.length g) > 0) || Zg 0 (List.length g))) (.br (Zb s) (fin3 g x1) (.br (decide (iN (List.length g) > 0)) (fin3 g x4) (fin3 g x3))) (.leaf none)) (.leaf none)
theorem Zye (a : HL Zj) : Zh (envX Tryz.prog (ZZ 41) [] 2047 8) Tryz.f42 Zj ZE a = Zlh a.1 a.2.1 a.2.2 := by kernel_rfl
def Zld (c : TC) (s : Int) (g : List Int) : RT (Option (TY × Bool)) :=
 let x1 := u16.wrap ((spOf c) - 1)
 let x2 := u16.wrap ((spOf c) - 2)
 let x3 : List TY := [(12, pcOf c, 0, 6)] ++ [(5, x1, u8.wrap (shrI u16 (pcOf c) 8), 3)] ++ [(5, x2, u8.wrap (pcOf c), 3)]
 let x5 : List TY := [(bif s == 5 then 8 else 1, pcOf c, 0, 4)]
 let x6 : QT4 := (c, s == 5, g, x5)
 let x7 := ZA x6 (Za c.1 (R.get (R.int u8) g 0)).2.1
 let x8 : List TY := x5 ++ [(5, x1, u8.wrap (shrI u16 x7 8), 3)] ++ [(5, x2, u8.wrap x7, 3)]
 let x10 : Nat := List.length x5
 let x11 := decide (iN (List.length g) ≥ iN x10)
 let x12 := Zg (iN (List.length g)) x10
 let x13 : TY × Bool := (R.get (RY) x5 (iN (List.length g)), true)
 .br (Zb s || (!decide (iN (List.length g) > 0) || (!Zg 0 (List.length g) || (Za c.1 (R.get (R.int u8) g 0)).1 == 45))) (.br (Zb s || (!decide (iN (List.length g) > 0) || Zg 0 (List.length g))) (.br (Zb s) (fin3 g x3) (.br (decide (iN (List.length g) > 0)) (.br (Zd6 x6 (45, (Za c.1 (R.get (R.int u8) g 0)).2)) (fin3 g x8) (.br (x11) (.leaf (some (((0, 0, 0, 0), false)))) (.br (x12) (.leaf (some (x13))) (.leaf none)))) (.br (x11) (.leaf (some (((0, 0, 0, 0), false)))) (.br (x12) (.leaf (some (x13))) (.leaf none))))) (.leaf none)) (.leaf none)
theorem Zya (a : HL Zj) : Zh (envX Tryz.prog (ZZ 45) [] 2047 8) Tryz.f42 Zj ZE a = Zld a.1 a.2.1 a.2.2 := by kernel_rfl
theorem nx_2 (c) (s : Int) (g : List Int) (n : Int) (hk : (Za c.1 (g.getD 0 0)).1 = n) : (n = 4 → (Zsg c s g).val = some (Zl c s g)) ∧ (n = 8 → (Zsc c s g).val = some (Zl c s g)) ∧ (n = 13 → (ZmR c s g).val = some (Zl c s g)) ∧ (n = 19 → (ZmL c s g).val = some (Zl c s g)) ∧ (n = 23 → (ZmH c s g).val = some (Zl c s g)) ∧ (n = 31 → (Zmz c s g).val = some (Zl c s g)) ∧ (n = 36 → (Zmu c s g).val = some (Zl c s g)) ∧ (n = 41 → (Zmp c s g).val = some (Zl c s g)) ∧ (n = 46 → (Zmk c s g).val = some (Zl c s g)) ∧ (n = 4 → (ZqR c s g).val = some (Zl c s g)) ∧ (n = 8 → (ZqN c s g).val = some (Zl c s g)) ∧ (n = 13 → (ZlJ c s g).val = some (Zl c s g)) ∧ (n = 19 → (ZlD c s g).val = some (Zl c s g)) ∧ (n = 23 → (Zlz c s g).val = some (Zl c s g)) ∧ (n = 31 → (Zlr c s g).val = some (Zl c s g)) ∧ (n = 36 → (Zlm c s g).val = some (Zl c s g)) ∧ (n = 41 → (Zlh c s g).val = some (Zl c s g)) ∧ (n = 46 → (Zlc c s g).val = some (Zl c s g)) := by
 refine ⟨?_, ?_, ?_, ?_, ?_, ?_, ?_, ?_, ?_, ?_, ?_, ?_, ?_, ?_, ?_, ?_, ?_, ?_⟩
 all_goals intro e; subst e
 all_goals simp only [Zsg, Zsc, ZmR, ZmL, ZmH, Zmz, Zmu, Zmp, Zmk, ZqR, ZqN, ZlJ, ZlD, Zlz, Zlr, Zlm, Zlh, Zlc, RT.val, fin3, pk]
 all_goals simp only [qat0, mat0, qat1, mat1, rg0, hk, Zw, ZY, Z9, ZI, ZJ, Zy, Zz, ZaM, ZaO, ZaN, Zv, Zaw, Zl, ZiI, ZK, Zbe]
 all_goals generalize Zb s = bi
 all_goals generalize (s == 5) = bs
 all_goals cases g with
 | nil => cases bi <;> cases bs <;> simp [ZnE, Zbx, pcOf, spOf, Zcz]
 | cons o t =>
  simp only [List.getD_cons_zero] at hk
  simp only [len0, List.getD_cons_zero, ZjX, hk, Zcw, Zbe, ZK, Zfc, bne]
  generalize Za c.1 o = i at hk ⊢
  cases bi <;> cases bs <;> simp [Zby, Zcz, popX, pcOf, spOf, opC, Zix, Zem, ZaY, Zha, ZbG, setI, R.get]
theorem nx_4 (c) (s : Int) (g : List Int) (n : Int) (hk : (Za c.1 (g.getD 0 0)).1 = n) : (n = 6 → (Zse c s g).val = some (Zl c s g)) ∧ (n = 10 → (ZmU c s g).val = some (Zl c s g)) ∧ (n = 17 → (ZmN c s g).val = some (Zl c s g)) ∧ (n = 21 → (ZmJ c s g).val = some (Zl c s g)) ∧ (n = 28 → (ZmC c s g).val = some (Zl c s g)) ∧ (n = 34 → (Zmw c s g).val = some (Zl c s g)) ∧ (n = 39 → (Zmr c s g).val = some (Zl c s g)) ∧ (n = 43 → (Zmn c s g).val = some (Zl c s g)) ∧ (n = 6 → (ZqP c s g).val = some (Zl c s g)) ∧ (n = 10 → (ZlM c s g).val = some (Zl c s g)) ∧ (n = 17 → (ZlF c s g).val = some (Zl c s g)) ∧ (n = 21 → (ZlB c s g).val = some (Zl c s g)) ∧ (n = 28 → (Zlu c s g).val = some (Zl c s g)) ∧ (n = 34 → (Zlo c s g).val = some (Zl c s g)) ∧ (n = 39 → (Zlj c s g).val = some (Zl c s g)) ∧ (n = 43 → (Zlf c s g).val = some (Zl c s g)) := by
 refine ⟨?_, ?_, ?_, ?_, ?_, ?_, ?_, ?_, ?_, ?_, ?_, ?_, ?_, ?_, ?_, ?_⟩
 all_goals intro e; subst e
 all_goals simp only [Zse, ZmU, ZmN, ZmJ, ZmC, Zmw, Zmr, Zmn, ZqP, ZlM, ZlF, ZlB, Zlu, Zlo, Zlj, Zlf, RT.val, fin3, pk]
 all_goals simp only [qat0, mat0, qat1, mat1, rg0, hk, Zw, ZY, Z9, ZI, ZJ, Zy, Zz, ZaM, ZaO, ZaN, Zv, Zaw, Zl, ZiI, ZK, Zbe]
 all_goals generalize Zb s = bi
 all_goals generalize (s == 5) = bs
 all_goals cases g with
 | nil => cases bi <;> cases bs <;> simp [ZnE, Zbx, pcOf, spOf, Zcz]
 | cons o t =>
  simp only [List.getD_cons_zero] at hk
  simp only [len0, List.getD_cons_zero, ZjX, hk, Zcw, Zbe, ZK, Zfc, bne]
  generalize Za c.1 o = i at hk ⊢
  cases bi <;> cases bs <;> simp [Zby, Zcz, popX, pcOf, spOf, opC, Zix, Zem, ZaY, Zha, ZbG, setI, R.get]
theorem nx_6 (c) (s : Int) (g : List Int) (n : Int) (hk : (Za c.1 (g.getD 0 0)).1 = n) : (n = 3 → (Zsh c s g).val = some (Zl c s g)) ∧ (n = 14 → (ZmQ c s g).val = some (Zl c s g)) ∧ (n = 15 → (ZmP c s g).val = some (Zl c s g)) ∧ (n = 3 → (ZqS c s g).val = some (Zl c s g)) ∧ (n = 14 → (ZlI c s g).val = some (Zl c s g)) ∧ (n = 15 → (ZlH c s g).val = some (Zl c s g)) := by
 refine ⟨?_, ?_, ?_, ?_, ?_, ?_⟩
 all_goals intro e; subst e
 all_goals simp only [Zsh, ZmQ, ZmP, ZqS, ZlI, ZlH, RT.val, fin3, pk]
 all_goals simp only [qat0, mat0, qat1, mat1, rg0, hk, Zw, ZY, Z9, ZI, ZJ, Zy, Zz, ZaM, ZaO, ZaN, Zv, Zaw, Zl, ZiI, ZK, Zbe]
 all_goals generalize Zb s = bi
 all_goals generalize (s == 5) = bs
 all_goals cases g with
 | nil => cases bi <;> cases bs <;> simp [ZnE, Zbx, pcOf, spOf, Zcz]
 | cons o t =>
  simp only [List.getD_cons_zero] at hk
  simp only [len0, List.getD_cons_zero, ZjX, hk, Zcw, Zbe, ZK, Zfc, bne]
  generalize Za c.1 o = i at hk ⊢
  generalize (i.2.2.1 == 6) = b0
  cases b0 <;> cases bi <;> cases bs <;> simp [Zby, Zcz, popX, pcOf, spOf, opC, Zix, Zem, ZaY, Zha, ZbG, setI, R.get]
theorem nx_8 (c) (s : Int) (g : List Int) (n : Int) (hk : (Za c.1 (g.getD 0 0)).1 = n) : (n = 24 → (ZmG c s g).val = some (Zl c s g)) ∧ (n = 25 → (ZmF c s g).val = some (Zl c s g)) ∧ (n = 24 → (Zly c s g).val = some (Zl c s g)) ∧ (n = 25 → (Zlx c s g).val = some (Zl c s g)) := by
 refine ⟨?_, ?_, ?_, ?_⟩
 all_goals intro e; subst e
 all_goals simp only [ZmG, ZmF, Zly, Zlx, RT.val, fin3, pk]
 all_goals simp only [qat0, mat0, qat1, mat1, rg0, hk, Zw, ZY, Z9, ZI, ZJ, Zy, Zz, ZaM, ZaO, ZaN, Zv, Zaw, Zl, ZiI, ZK, Zbe]
 all_goals generalize Zb s = bi
 all_goals generalize (s == 5) = bs
 all_goals cases g with
 | nil => cases bi <;> cases bs <;> simp [ZnE, Zbx, pcOf, spOf, Zcz]
 | cons o t =>
  simp only [List.getD_cons_zero] at hk
  simp only [len0, List.getD_cons_zero, ZjX, hk, Zcw, Zbe, ZK, Zfc, bne]
  generalize Za c.1 o = i at hk ⊢
  generalize Zd1 _ _ = b0
  generalize (c.1 == 2) = b1
  cases b0 <;> cases b1 <;> cases bi <;> cases bs <;> simp [Zby, Zcz, popX, pcOf, spOf, opC, Zix, Zem, ZaY, Zha, ZbG, setI, R.get]
theorem ZVC (c) (s : Int) (g : List Int) (n : Int) (hk : (Za c.1 (g.getD 0 0)).1 = n) : (n = 30 → (ZmA c s g).val = some (Zl c s g)) ∧ (n = 30 → (Zls c s g).val = some (Zl c s g)) := by
 refine ⟨?_, ?_⟩
 all_goals intro e; subst e
 all_goals simp only [ZmA, Zls, RT.val, fin3, pk]
 all_goals simp only [qat0, mat0, qat1, mat1, rg0, hk, Zw, ZY, Z9, ZI, ZJ, Zy, Zz, ZaM, ZaO, ZaN, Zv, Zaw, Zl, ZiI, ZK, Zbe]
 all_goals generalize Zb s = bi
 all_goals generalize (s == 5) = bs
 all_goals cases g with
 | nil => cases bi <;> cases bs <;> simp [ZnE, Zbx, pcOf, spOf, Zcz]
 | cons o t =>
  simp only [List.getD_cons_zero] at hk
  simp only [len0, List.getD_cons_zero, ZjX, hk, Zcw, Zbe, ZK, Zfc, bne]
  generalize Za c.1 o = i at hk ⊢
  generalize (i.2.2.2.2.1 == 3) = b0
  cases b0 <;> cases bi <;> cases bs <;> simp [Zby, Zcz, popX, pcOf, spOf, opC, Zix, Zem, ZaY, Zha, ZbG, setI, R.get]
theorem nx_1 (c) (s : Int) (g : List Int) (n : Int) (hk : (Za c.1 (g.getD 0 0)).1 = n) : (n = 1 → (Zsj c s g).val = some (Zl c s g)) ∧ (n = 7 → (Zsd c s g).val = some (Zl c s g)) ∧ (n = 11 → (ZmT c s g).val = some (Zl c s g)) ∧ (n = 18 → (ZmM c s g).val = some (Zl c s g)) ∧ (n = 22 → (ZmI c s g).val = some (Zl c s g)) ∧ (n = 29 → (ZmB c s g).val = some (Zl c s g)) ∧ (n = 35 → (Zmv c s g).val = some (Zl c s g)) ∧ (n = 40 → (Zmq c s g).val = some (Zl c s g)) ∧ (n = 44 → (Zmm c s g).val = some (Zl c s g)) ∧ (n = 1 → (ZqU c s g).val = some (Zl c s g)) ∧ (n = 7 → (ZqO c s g).val = some (Zl c s g)) ∧ (n = 11 → (ZlL c s g).val = some (Zl c s g)) ∧ (n = 18 → (ZlE c s g).val = some (Zl c s g)) ∧ (n = 22 → (ZlA c s g).val = some (Zl c s g)) ∧ (n = 29 → (Zlt c s g).val = some (Zl c s g)) ∧ (n = 35 → (Zln c s g).val = some (Zl c s g)) ∧ (n = 40 → (Zli c s g).val = some (Zl c s g)) ∧ (n = 44 → (Zle c s g).val = some (Zl c s g)) := by
 refine ⟨?_, ?_, ?_, ?_, ?_, ?_, ?_, ?_, ?_, ?_, ?_, ?_, ?_, ?_, ?_, ?_, ?_, ?_⟩
 all_goals intro e; subst e
 all_goals simp only [Zsj, Zsd, ZmT, ZmM, ZmI, ZmB, Zmv, Zmq, Zmm, ZqU, ZqO, ZlL, ZlE, ZlA, Zlt, Zln, Zli, Zle, RT.val, fin3, pk]
 all_goals simp only [qat0, mat0, qat1, mat1, rg0, hk, Zw, ZY, Z9, ZI, ZJ, Zy, Zz, ZaM, ZaO, ZaN, Zv, Zaw, Zl, ZiI, ZK, Zbe]
 all_goals generalize Zb s = bi
 all_goals generalize (s == 5) = bs
 all_goals cases g with
 | nil => cases bi <;> cases bs <;> simp [ZnE, Zbx, pcOf, spOf, Zcz]
 | cons o t =>
  simp only [List.getD_cons_zero] at hk
  simp only [len0, List.getD_cons_zero, ZjX, hk, Zcw, Zbe, ZK, Zfc, bne]
  generalize Za c.1 o = i at hk ⊢
  cases bi <;> cases bs <;> simp [Zby, Zcz, popX, pcOf, spOf, opC, Zix, Zem, ZaY, Zha, ZbG, setI, R.get]
theorem nx_3 (c) (s : Int) (g : List Int) (n : Int) (hk : (Za c.1 (g.getD 0 0)).1 = n) : (n = 5 → (Zsf c s g).val = some (Zl c s g)) ∧ (n = 9 → (Zsb c s g).val = some (Zl c s g)) ∧ (n = 16 → (ZmO c s g).val = some (Zl c s g)) ∧ (n = 20 → (ZmK c s g).val = some (Zl c s g)) ∧ (n = 27 → (ZmD c s g).val = some (Zl c s g)) ∧ (n = 33 → (Zmx c s g).val = some (Zl c s g)) ∧ (n = 38 → (Zms c s g).val = some (Zl c s g)) ∧ (n = 42 → (Zmo c s g).val = some (Zl c s g)) ∧ (n = 47 → (Zmj c s g).val = some (Zl c s g)) ∧ (n = 5 → (ZqQ c s g).val = some (Zl c s g)) ∧ (n = 9 → (ZqM c s g).val = some (Zl c s g)) ∧ (n = 16 → (ZlG c s g).val = some (Zl c s g)) ∧ (n = 20 → (ZlC c s g).val = some (Zl c s g)) ∧ (n = 27 → (Zlv c s g).val = some (Zl c s g)) ∧ (n = 33 → (Zlp c s g).val = some (Zl c s g)) ∧ (n = 38 → (Zlk c s g).val = some (Zl c s g)) ∧ (n = 42 → (Zlg c s g).val = some (Zl c s g)) ∧ (n = 47 → (Zlb c s g).val = some (Zl c s g)) := by
 refine ⟨?_, ?_, ?_, ?_, ?_, ?_, ?_, ?_, ?_, ?_, ?_, ?_, ?_, ?_, ?_, ?_, ?_, ?_⟩
 all_goals intro e; subst e
 all_goals simp only [Zsf, Zsb, ZmO, ZmK, ZmD, Zmx, Zms, Zmo, Zmj, ZqQ, ZqM, ZlG, ZlC, Zlv, Zlp, Zlk, Zlg, Zlb, RT.val, fin3, pk]
 all_goals simp only [qat0, mat0, qat1, mat1, rg0, hk, Zw, ZY, Z9, ZI, ZJ, Zy, Zz, ZaM, ZaO, ZaN, Zv, Zaw, Zl, ZiI, ZK, Zbe]
 all_goals generalize Zb s = bi
 all_goals generalize (s == 5) = bs
 all_goals cases g with
 | nil => cases bi <;> cases bs <;> simp [ZnE, Zbx, pcOf, spOf, Zcz]
 | cons o t =>
  simp only [List.getD_cons_zero] at hk
  simp only [len0, List.getD_cons_zero, ZjX, hk, Zcw, Zbe, ZK, Zfc, bne]
  generalize Za c.1 o = i at hk ⊢
  cases bi <;> cases bs <;> simp [Zby, Zcz, popX, pcOf, spOf, opC, Zix, Zem, ZaY, Zha, ZbG, setI, R.get]
theorem nx_5 (c) (s : Int) (g : List Int) (n : Int) (hk : (Za c.1 (g.getD 0 0)).1 = n) : (n = 2 → (Zsi c s g).val = some (Zl c s g)) ∧ (n = 2 → (ZqT c s g).val = some (Zl c s g)) := by
 refine ⟨?_, ?_⟩
 all_goals intro e; subst e
 all_goals simp only [Zsi, ZqT, RT.val, fin3, pk]
 all_goals simp only [qat0, mat0, qat1, mat1, rg0, hk, Zw, ZY, Z9, ZI, ZJ, Zy, Zz, ZaM, ZaO, ZaN, Zv, Zaw, Zl, ZiI, ZK, Zbe]
 all_goals generalize Zb s = bi
 all_goals generalize (s == 5) = bs
 all_goals cases g with
 | nil => cases bi <;> cases bs <;> simp [ZnE, Zbx, pcOf, spOf, Zcz]
 | cons o t =>
  simp only [List.getD_cons_zero] at hk
  simp only [len0, List.getD_cons_zero, ZjX, hk, Zcw, Zbe, ZK, Zfc, bne]
  generalize Za c.1 o = i at hk ⊢
  generalize (i.2.2.2.1 == 6) = b0
  generalize (i.2.2.1 == 6) = b1
  cases b0 <;> cases b1 <;> cases bi <;> cases bs <;> simp [Zby, Zcz, popX, pcOf, spOf, opC, Zix, Zem, ZaY, Zha, ZbG, setI, R.get]
theorem nx_7 (c) (s : Int) (g : List Int) (n : Int) (hk : (Za c.1 (g.getD 0 0)).1 = n) : (n = 12 → (ZmS c s g).val = some (Zl c s g)) ∧ (n = 12 → (ZlK c s g).val = some (Zl c s g)) := by
 refine ⟨?_, ?_⟩
 all_goals intro e; subst e
 all_goals simp only [ZmS, ZlK, RT.val, fin3, pk]
 all_goals simp only [qat0, mat0, qat1, mat1, rg0, hk, Zw, ZY, Z9, ZI, ZJ, Zy, Zz, ZaM, ZaO, ZaN, Zv, Zaw, Zl, ZiI, ZK, Zbe]
 all_goals generalize Zb s = bi
 all_goals generalize (s == 5) = bs
 all_goals cases g with
 | nil => cases bi <;> cases bs <;> simp [ZnE, Zbx, pcOf, spOf, Zcz]
 | cons o t =>
  simp only [List.getD_cons_zero] at hk
  simp only [len0, List.getD_cons_zero, ZjX, hk, Zcw, Zbe, ZK, Zfc, bne]
  generalize Za c.1 o = i at hk ⊢
  generalize (i.2.2.2.1 == 6) = b0
  cases b0 <;> cases bi <;> cases bs <;> simp [Zby, Zcz, popX, pcOf, spOf, opC, Zix, Zem, ZaY, Zha, ZbG, setI, R.get]
theorem nx_9 (c) (s : Int) (g : List Int) (n : Int) (hk : (Za c.1 (g.getD 0 0)).1 = n) : (n = 26 → (ZmE c s g).val = some (Zl c s g)) ∧ (n = 45 → (Zml c s g).val = some (Zl c s g)) ∧ (n = 26 → (Zlw c s g).val = some (Zl c s g)) ∧ (n = 45 → (Zld c s g).val = some (Zl c s g)) := by
 refine ⟨?_, ?_, ?_, ?_⟩
 all_goals intro e; subst e
 all_goals simp only [ZmE, Zml, Zlw, Zld, RT.val, fin3, pk]
 all_goals simp only [qat0, mat0, qat1, mat1, rg0, hk, Zw, ZY, Z9, ZI, ZJ, Zy, Zz, ZaM, ZaO, ZaN, Zv, Zaw, Zl, ZiI, ZK, Zbe]
 all_goals generalize Zb s = bi
 all_goals generalize (s == 5) = bs
 all_goals cases g with
 | nil => cases bi <;> cases bs <;> simp [ZnE, Zbx, pcOf, spOf, Zcz]
 | cons o t =>
  simp only [List.getD_cons_zero] at hk
  simp only [len0, List.getD_cons_zero, ZjX, hk, Zcw, Zbe, ZK, Zfc, bne]
  generalize Za c.1 o = i at hk ⊢
  generalize Zd1 _ _ = b0
  cases b0 <;> cases bi <;> cases bs <;> simp [Zby, Zcz, popX, pcOf, spOf, opC, Zix, Zem, ZaY, Zha, ZbG, setI, R.get]
theorem ZQd (c) (s : Int) (g : List Int) (n : Int) (hk : (Za c.1 (g.getD 0 0)).1 = n) : (n = 32 → (Zmy c s g).val = some (Zl c s g)) ∧ (n = 37 → (Zmt c s g).val = some (Zl c s g)) ∧ (n = 32 → (Zlq c s g).val = some (Zl c s g)) ∧ (n = 37 → (Zll c s g).val = some (Zl c s g)) := by
 refine ⟨?_, ?_, ?_, ?_⟩
 all_goals intro e; subst e
 all_goals simp only [Zmy, Zmt, Zlq, Zll, RT.val, fin3, pk]
 all_goals simp only [qat0, mat0, qat1, mat1, rg0, hk, Zw, ZY, Z9, ZI, ZJ, Zy, Zz, ZaM, ZaO, ZaN, Zv, Zaw, Zl, ZiI, ZK, Zbe]
 all_goals generalize Zb s = bi
 all_goals generalize (s == 5) = bs
 all_goals cases g with
 | nil => cases bi <;> cases bs <;> simp [ZnE, Zbx, pcOf, spOf, Zcz]
 | cons o t =>
  simp only [List.getD_cons_zero] at hk
  simp only [len0, List.getD_cons_zero, ZjX, hk, Zcw, Zbe, ZK, Zfc, bne]
  generalize Za c.1 o = i at hk ⊢
  generalize (c.1 == 2) = b0
  cases b0 <;> cases bi <;> cases bs <;> simp [Zby, Zcz, popX, pcOf, spOf, opC, Zix, Zem, ZaY, Zha, ZbG, setI, R.get]
theorem ZPT (a : HL Zk) (h : okHL Zk a) : ∃ l, ZdU Tryz.prog l ∧ (Zh (envX Tryz.prog l [] 1125900980585471 8) Tryz.f113 Zk ZF a).val = some (Zl a.1 a.2.1 a.2.2) := by
 have hk := ZtF a.1.1 _ (ZtI h.2.2)
 refine ⟨Z1 (Za a.1.1 (a.2.2.getD 0 0)).1, ZLM _, ?_⟩
 rcases ZtE hk.1 hk.2 with e | e | e | e | e | e | e | e | e | e | e | e | e | e | e | e | e | e | e | e | e | e | e | e | e | e | e | e | e | e | e | e | e | e | e | e | e | e | e | e | e | e | e | e | e | e | e
 ·rw [e, ZGq a, ((nx_1 a.1 a.2.1 a.2.2 _ e).1 rfl)]
 ·rw [e, ZGp a, ((nx_5 a.1 a.2.1 a.2.2 _ e).1 rfl)]
 ·rw [e, ZGo a, ((nx_6 a.1 a.2.1 a.2.2 _ e).1 rfl)]
 ·rw [e, ZGn a, ((nx_2 a.1 a.2.1 a.2.2 _ e).1 rfl)]
 ·rw [e, ZGm a, ((nx_3 a.1 a.2.1 a.2.2 _ e).1 rfl)]
 ·rw [e, ZGl a, ((nx_4 a.1 a.2.1 a.2.2 _ e).1 rfl)]
 ·rw [e, ZGk a, ((nx_1 a.1 a.2.1 a.2.2 _ e).2.1 rfl)]
 ·rw [e, ZGj a, ((nx_2 a.1 a.2.1 a.2.2 _ e).2.1 rfl)]
 ·rw [e, ZGi a, ((nx_3 a.1 a.2.1 a.2.2 _ e).2.1 rfl)]
 ·rw [e, ZAf a, ((nx_4 a.1 a.2.1 a.2.2 _ e).2.1 rfl)]
 ·rw [e, ZAe a, ((nx_1 a.1 a.2.1 a.2.2 _ e).2.2.1 rfl)]
 ·rw [e, ZAd a, ((nx_7 a.1 a.2.1 a.2.2 _ e).1 rfl)]
 ·rw [e, ZAc a, ((nx_2 a.1 a.2.1 a.2.2 _ e).2.2.1 rfl)]
 ·rw [e, ZAb a, ((nx_6 a.1 a.2.1 a.2.2 _ e).2.1 rfl)]
 ·rw [e, ZAa a, ((nx_6 a.1 a.2.1 a.2.2 _ e).2.2.1 rfl)]
 ·rw [e, Zz9 a, ((nx_3 a.1 a.2.1 a.2.2 _ e).2.2.1 rfl)]
 ·rw [e, Zz8 a, ((nx_4 a.1 a.2.1 a.2.2 _ e).2.2.1 rfl)]
 ·rw [e, Zz7 a, ((nx_1 a.1 a.2.1 a.2.2 _ e).2.2.2.1 rfl)]
 ·rw [e, Zz6 a, ((nx_2 a.1 a.2.1 a.2.2 _ e).2.2.2.1 rfl)]
 ·rw [e, Zz5 a, ((nx_3 a.1 a.2.1 a.2.2 _ e).2.2.2.1 rfl)]
 ·rw [e, Zz4 a, ((nx_4 a.1 a.2.1 a.2.2 _ e).2.2.2.1 rfl)]
 ·rw [e, Zz3 a, ((nx_1 a.1 a.2.1 a.2.2 _ e).2.2.2.2.1 rfl)]
 ·rw [e, Zz2 a, ((nx_2 a.1 a.2.1 a.2.2 _ e).2.2.2.2.1 rfl)]
 ·rw [e, Zz1 a, ((nx_8 a.1 a.2.1 a.2.2 _ e).1 rfl)]
 ·rw [e, Zz0 a, ((nx_8 a.1 a.2.1 a.2.2 _ e).2.1 rfl)]
 ·rw [e, ZzZ a, ((nx_9 a.1 a.2.1 a.2.2 _ e).1 rfl)]
 ·rw [e, ZzY a, ((nx_3 a.1 a.2.1 a.2.2 _ e).2.2.2.2.1 rfl)]
 ·rw [e, ZzX a, ((nx_4 a.1 a.2.1 a.2.2 _ e).2.2.2.2.1 rfl)]
 ·rw [e, ZzW a, ((nx_1 a.1 a.2.1 a.2.2 _ e).2.2.2.2.2.1 rfl)]
 ·rw [e, ZzV a, ((ZVC a.1 a.2.1 a.2.2 _ e).1 rfl)]
 ·rw [e, ZzU a, ((nx_2 a.1 a.2.1 a.2.2 _ e).2.2.2.2.2.1 rfl)]
 ·rw [e, ZzT a, ((ZQd a.1 a.2.1 a.2.2 _ e).1 rfl)]
 ·rw [e, ZzS a, ((nx_3 a.1 a.2.1 a.2.2 _ e).2.2.2.2.2.1 rfl)]
 ·rw [e, ZzR a, ((nx_4 a.1 a.2.1 a.2.2 _ e).2.2.2.2.2.1 rfl)]
 ·rw [e, ZzQ a, ((nx_1 a.1 a.2.1 a.2.2 _ e).2.2.2.2.2.2.1 rfl)]
 ·rw [e, ZzP a, ((nx_2 a.1 a.2.1 a.2.2 _ e).2.2.2.2.2.2.1 rfl)]
 ·rw [e, ZzO a, ((ZQd a.1 a.2.1 a.2.2 _ e).2.1 rfl)]
 ·rw [e, ZzN a, ((nx_3 a.1 a.2.1 a.2.2 _ e).2.2.2.2.2.2.1 rfl)]
 ·rw [e, ZzM a, ((nx_4 a.1 a.2.1 a.2.2 _ e).2.2.2.2.2.2.1 rfl)]
 ·rw [e, ZzL a, ((nx_1 a.1 a.2.1 a.2.2 _ e).2.2.2.2.2.2.2.1 rfl)]
 ·rw [e, ZzK a, ((nx_2 a.1 a.2.1 a.2.2 _ e).2.2.2.2.2.2.2.1 rfl)]
 ·rw [e, ZzJ a, ((nx_3 a.1 a.2.1 a.2.2 _ e).2.2.2.2.2.2.2.1 rfl)]
 ·rw [e, ZzI a, ((nx_4 a.1 a.2.1 a.2.2 _ e).2.2.2.2.2.2.2.1 rfl)]
 ·rw [e, ZzH a, ((nx_1 a.1 a.2.1 a.2.2 _ e).2.2.2.2.2.2.2.2.1 rfl)]
 ·rw [e, ZzG a, ((nx_9 a.1 a.2.1 a.2.2 _ e).2.1 rfl)]
 ·rw [e, ZzF a, ((nx_2 a.1 a.2.1 a.2.2 _ e).2.2.2.2.2.2.2.2.1 rfl)]
 ·rw [e, ZzE a, ((nx_3 a.1 a.2.1 a.2.2 _ e).2.2.2.2.2.2.2.2.1 rfl)]
def ZvS : Entry := Zf Zk ZF (fun _ => none) (fun a => Zl a.1 a.2.1 a.2.2)
theorem Zsa : Zc Tryz.prog 113 ZvS := Zke Tryz.func113 rfl (by kernel_rfl) Tryz.call113 fun a h _ => ZPT a h
theorem ZPg (a : HL Zj) (h : okHL Zj a) : ∃ l, ZdU Tryz.prog l ∧ (Zh (envX Tryz.prog l [] 2047 8) Tryz.f42 Zj ZE a).val = some (Zl a.1 a.2.1 a.2.2) := by
 have hk := ZtF a.1.1 _ (ZtI h.2.2)
 refine ⟨ZZ (Za a.1.1 (a.2.2.getD 0 0)).1, ZJ3 _, ?_⟩
 rcases ZtE hk.1 hk.2 with e | e | e | e | e | e | e | e | e | e | e | e | e | e | e | e | e | e | e | e | e | e | e | e | e | e | e | e | e | e | e | e | e | e | e | e | e | e | e | e | e | e | e | e | e | e | e
 ·rw [e, ZFm a, ((nx_1 a.1 a.2.1 a.2.2 _ e).2.2.2.2.2.2.2.2.2.1 rfl)]
 ·rw [e, ZFl a, ((nx_5 a.1 a.2.1 a.2.2 _ e).2 rfl)]
 ·rw [e, ZFk a, ((nx_6 a.1 a.2.1 a.2.2 _ e).2.2.2.1 rfl)]
 ·rw [e, ZFj a, ((nx_2 a.1 a.2.1 a.2.2 _ e).2.2.2.2.2.2.2.2.2.1 rfl)]
 ·rw [e, ZFi a, ((nx_3 a.1 a.2.1 a.2.2 _ e).2.2.2.2.2.2.2.2.2.1 rfl)]
 ·rw [e, ZFh a, ((nx_4 a.1 a.2.1 a.2.2 _ e).2.2.2.2.2.2.2.2.1 rfl)]
 ·rw [e, ZFg a, ((nx_1 a.1 a.2.1 a.2.2 _ e).2.2.2.2.2.2.2.2.2.2.1 rfl)]
 ·rw [e, ZFf a, ((nx_2 a.1 a.2.1 a.2.2 _ e).2.2.2.2.2.2.2.2.2.2.1 rfl)]
 ·rw [e, ZFe a, ((nx_3 a.1 a.2.1 a.2.2 _ e).2.2.2.2.2.2.2.2.2.2.1 rfl)]
 ·rw [e, ZyJ a, ((nx_4 a.1 a.2.1 a.2.2 _ e).2.2.2.2.2.2.2.2.2.1 rfl)]
 ·rw [e, ZyI a, ((nx_1 a.1 a.2.1 a.2.2 _ e).2.2.2.2.2.2.2.2.2.2.2.1 rfl)]
 ·rw [e, ZyH a, ((nx_7 a.1 a.2.1 a.2.2 _ e).2 rfl)]
 ·rw [e, ZyG a, ((nx_2 a.1 a.2.1 a.2.2 _ e).2.2.2.2.2.2.2.2.2.2.2.1 rfl)]
 ·rw [e, ZyF a, ((nx_6 a.1 a.2.1 a.2.2 _ e).2.2.2.2.1 rfl)]
 ·rw [e, ZyE a, ((nx_6 a.1 a.2.1 a.2.2 _ e).2.2.2.2.2 rfl)]
 ·rw [e, ZyD a, ((nx_3 a.1 a.2.1 a.2.2 _ e).2.2.2.2.2.2.2.2.2.2.2.1 rfl)]
 ·rw [e, ZyC a, ((nx_4 a.1 a.2.1 a.2.2 _ e).2.2.2.2.2.2.2.2.2.2.1 rfl)]
 ·rw [e, ZyB a, ((nx_1 a.1 a.2.1 a.2.2 _ e).2.2.2.2.2.2.2.2.2.2.2.2.1 rfl)]
 ·rw [e, ZyA a, ((nx_2 a.1 a.2.1 a.2.2 _ e).2.2.2.2.2.2.2.2.2.2.2.2.1 rfl)]
 ·rw [e, Zyz a, ((nx_3 a.1 a.2.1 a.2.2 _ e).2.2.2.2.2.2.2.2.2.2.2.2.1 rfl)]
 ·rw [e, Zyy a, ((nx_4 a.1 a.2.1 a.2.2 _ e).2.2.2.2.2.2.2.2.2.2.2.1 rfl)]
 ·rw [e, Zyx a, ((nx_1 a.1 a.2.1 a.2.2 _ e).2.2.2.2.2.2.2.2.2.2.2.2.2.1 rfl)]
 ·rw [e, Zyw a, ((nx_2 a.1 a.2.1 a.2.2 _ e).2.2.2.2.2.2.2.2.2.2.2.2.2.1 rfl)]
 ·rw [e, Zyv a, ((nx_8 a.1 a.2.1 a.2.2 _ e).2.2.1 rfl)]
 ·rw [e, Zyu a, ((nx_8 a.1 a.2.1 a.2.2 _ e).2.2.2 rfl)]
 ·rw [e, Zyt a, ((nx_9 a.1 a.2.1 a.2.2 _ e).2.2.1 rfl)]
 ·rw [e, Zys a, ((nx_3 a.1 a.2.1 a.2.2 _ e).2.2.2.2.2.2.2.2.2.2.2.2.2.1 rfl)]
 ·rw [e, Zyr a, ((nx_4 a.1 a.2.1 a.2.2 _ e).2.2.2.2.2.2.2.2.2.2.2.2.1 rfl)]
 ·rw [e, Zyq a, ((nx_1 a.1 a.2.1 a.2.2 _ e).2.2.2.2.2.2.2.2.2.2.2.2.2.2.1 rfl)]
 ·rw [e, Zyp a, ((ZVC a.1 a.2.1 a.2.2 _ e).2 rfl)]
 ·rw [e, Zyo a, ((nx_2 a.1 a.2.1 a.2.2 _ e).2.2.2.2.2.2.2.2.2.2.2.2.2.2.1 rfl)]
 ·rw [e, Zyn a, ((ZQd a.1 a.2.1 a.2.2 _ e).2.2.1 rfl)]
 ·rw [e, Zym a, ((nx_3 a.1 a.2.1 a.2.2 _ e).2.2.2.2.2.2.2.2.2.2.2.2.2.2.1 rfl)]
 ·rw [e, Zyl a, ((nx_4 a.1 a.2.1 a.2.2 _ e).2.2.2.2.2.2.2.2.2.2.2.2.2.1 rfl)]
 ·rw [e, Zyk a, ((nx_1 a.1 a.2.1 a.2.2 _ e).2.2.2.2.2.2.2.2.2.2.2.2.2.2.2.1 rfl)]
 ·rw [e, Zyj a, ((nx_2 a.1 a.2.1 a.2.2 _ e).2.2.2.2.2.2.2.2.2.2.2.2.2.2.2.1 rfl)]
 ·rw [e, Zyi a, ((ZQd a.1 a.2.1 a.2.2 _ e).2.2.2 rfl)]
 ·rw [e, Zyh a, ((nx_3 a.1 a.2.1 a.2.2 _ e).2.2.2.2.2.2.2.2.2.2.2.2.2.2.2.1 rfl)]
 ·rw [e, Zyg a, ((nx_4 a.1 a.2.1 a.2.2 _ e).2.2.2.2.2.2.2.2.2.2.2.2.2.2.1 rfl)]
 ·rw [e, Zyf a, ((nx_1 a.1 a.2.1 a.2.2 _ e).2.2.2.2.2.2.2.2.2.2.2.2.2.2.2.2.1 rfl)]
 ·rw [e, Zye a, ((nx_2 a.1 a.2.1 a.2.2 _ e).2.2.2.2.2.2.2.2.2.2.2.2.2.2.2.2.1 rfl)]
 ·rw [e, Zyd a, ((nx_3 a.1 a.2.1 a.2.2 _ e).2.2.2.2.2.2.2.2.2.2.2.2.2.2.2.2.1 rfl)]
 ·rw [e, Zyc a, ((nx_4 a.1 a.2.1 a.2.2 _ e).2.2.2.2.2.2.2.2.2.2.2.2.2.2.2 rfl)]
 ·rw [e, Zyb a, ((nx_1 a.1 a.2.1 a.2.2 _ e).2.2.2.2.2.2.2.2.2.2.2.2.2.2.2.2.2 rfl)]
 ·rw [e, Zya a, ((nx_9 a.1 a.2.1 a.2.2 _ e).2.2.2 rfl)]
 ·rw [e, Zx9 a, ((nx_2 a.1 a.2.1 a.2.2 _ e).2.2.2.2.2.2.2.2.2.2.2.2.2.2.2.2.2 rfl)]
 ·rw [e, Zx8 a, ((nx_3 a.1 a.2.1 a.2.2 _ e).2.2.2.2.2.2.2.2.2.2.2.2.2.2.2.2.2 rfl)]
def ZCP : Entry := Zf Zj ZE (fun _ => none) (fun a => Zl a.1 a.2.1 a.2.2)
theorem ZqL : Zc Tryz.prog 42 ZCP := Zke Tryz.func42 rfl (by kernel_rfl) Tryz.call42 fun a h _ => ZPg a h
def wPC (r : RegT) (v : Int) : RegT := (r.1, r.2.1, r.2.2.1, r.2.2.2.1, r.2.2.2.2.1, r.2.2.2.2.2.1, r.2.2.2.2.2.2.1, r.2.2.2.2.2.2.2.1, r.2.2.2.2.2.2.2.2.1, v)
def wSP (r : RegT) (v : Int) : RegT := (r.1, r.2.1, r.2.2.1, r.2.2.2.1, r.2.2.2.2.1, r.2.2.2.2.2.1, r.2.2.2.2.2.2.1, r.2.2.2.2.2.2.2.1, v, r.2.2.2.2.2.2.2.2.2)
def wA (r : RegT) (v : Int) : RegT := (v, r.2)
def wF (r : RegT) (f : FlgT) : RegT := (r.1, r.2.1, r.2.2.1, r.2.2.2.1, r.2.2.2.2.1, r.2.2.2.2.2.1, r.2.2.2.2.2.2.1, f, r.2.2.2.2.2.2.2.2)
def fCY (f : FlgT) (b : Bool) : FlgT := (f.1, f.2.1, f.2.2.1, f.2.2.2.1, f.2.2.2.2.1, f.2.2.2.2.2.1, b)
def fVCY (f : FlgT) (v b : Bool) : FlgT := (f.1, f.2.1, f.2.2.1, f.2.2.2.1, f.2.2.2.2.1, v, b)
def Zcx (r : RegT) : Int := r.2.2.2.2.2.2.2.2.1
def flOf (r : RegT) : FlgT := r.2.2.2.2.2.2.2.1
def finR (c : CpuT) (r r0 : RegT) (g : List Int) (i : InsT) : RegT :=
 let dst := i.2.2.1
 let src := i.2.2.2.1
 let pr := i.2.2.2.2.1
 let op := i.2.2.2.2.2.1
 let g1 := g.getD 1 0
 let tk := Zd1 i.2.2.2.2.2.2.1 (flOf r)
 bif i.1 == 2 then rSet r0 dst (bif src == 6 then g1 else rGet r src) else
 bif i.1 == 3 then rSet r0 dst g1 else
 bif i.1 == 4 then Zs r0 pr (ZaY g 1) else
 bif i.1 == 5 then wA r0 (g.getD 3 0) else
 bif i.1 == 7 then Zs r0 2 (ZaY g 3) else
 bif i.1 == 9 then wA r0 g1 else
 bif i.1 == 11 then (r0.1, r0.2.1, r0.2.2.1, r0.2.2.2.2.2.1, r0.2.2.2.2.2.2.1, r0.2.2.2.1, r0.2.2.2.2.1, r0.2.2.2.2.2.2.2) else
 bif i.1 == 12 then (let q := rDo c.1 op r.1 (bif src == 6 then g1 else rGet r src) (flOf r); wA (wF r0 q.2) q.1) else
 bif i.1 == 13 then (let q := rDo c.1 op r.1 g1 (flOf r); wA (wF r0 q.2) q.1) else
 bif i.1 == 14 then (let q := rInr c.1 (bif dst == 6 then g1 else rGet r dst) (flOf r); rSet (wF r0 q.2) dst q.1) else
 bif i.1 == 15 then (let q := rDcr c.1 (bif dst == 6 then g1 else rGet r dst) (flOf r); rSet (wF r0 q.2) dst q.1) else
 bif i.1 == 16 then (let q := rInx c.1 (Zai r pr) (flOf r); Zs (wF r0 q.2) pr q.1) else
 bif i.1 == 17 then (let q := rDcx c.1 (Zai r pr) (flOf r); Zs (wF r0 q.2) pr q.1) else
 bif i.1 == 18 then (let q := rDad c.1 (Zai r 2) (Zai r pr) (flOf r); Zs (wF r0 q.2) 2 q.1) else
 bif i.1 == 19 then (let q := rDaa c.1 r.1 (flOf r); wA (wF r0 q.2) q.1) else
 bif i.1 == 20 then wA r0 (notI .u8 r.1) else
 bif i.1 == 21 then wF r0 (fCY (flOf r) true) else
 bif i.1 == 22 then wF r0 (fCY (flOf r) (!(flOf r).2.2.2.2.2.2)) else
 bif i.1 == 23 then (let q := rRot op r.1 (flOf r).2.2.2.2.2.2; wA (wF r0 (fCY (flOf r) q.2)) q.1) else
 bif i.1 == 24 then (bif tk then wPC r0 (ZaY g 1) else r0) else
 bif i.1 == 25 then (bif tk then wPC (wSP r0 (IntKind.wrap .u16 (Zcx r - 2))) (ZaY g 1) else r0) else
 bif i.1 == 26 then (bif tk then wPC (wSP r0 (IntKind.wrap .u16 (Zcx r + 2))) (ZaY g 1) else r0) else
 bif i.1 == 27 then wPC (wSP r0 (IntKind.wrap .u16 (Zcx r - 2))) (IntKind.wrap .u16 (IntKind.wrap .i64 (8 * i.2.2.2.2.2.2.2))) else
 bif i.1 == 28 then wPC r0 (Zai r 2) else
 bif i.1 == 29 then wSP r0 (Zai r 2) else
 bif i.1 == 30 then wSP r0 (IntKind.wrap .u16 (Zcx r - 2)) else
 bif i.1 == 31 then (let q := bif pr == 3 then Zfx c.1 r0 (ZaY g 1) else Zs r0 pr (ZaY g 1); wSP q (IntKind.wrap .u16 (Zcx q + 2))) else
 bif i.1 == 32 then Zs r0 2 (ZaY g 1) else
 bif i.1 == 33 then wA r0 (g.getD 2 0) else
 bif i.1 == 40 then (let q := Zvm (Zai r 2) (Zai r 0); Zs (wF r0 q.2) 2 q.1) else
 bif i.1 == 41 then (let q := ZrG (Zai r 2); Zs (wF r0 (fCY (flOf r) q.2)) 2 q.1) else
 bif i.1 == 42 then (let q := Zu6 (Zai r 1) (flOf r).2.2.2.2.2.2; Zs (wF r0 (fVCY (flOf r) q.2.2 q.2.1)) 1 q.1) else
 bif i.1 == 43 then Zs r0 1 (IntKind.wrap .u16 (Zai r 2 + IntKind.wrap .u16 g1)) else
 bif i.1 == 44 then Zs r0 1 (IntKind.wrap .u16 (Zcx r + IntKind.wrap .u16 g1)) else
 bif i.1 == 45 then (bif tk then wPC (wSP r0 (IntKind.wrap .u16 (Zcx r - 2))) 64 else r0) else
 bif i.1 == 47 then Zs r0 2 (ZaY g 1) else
 r0
def finI (c : CpuT) (inj : Bool) (g : List Int) (l : QT0) (i : InsT) : CpuT :=
 let r0 := wPC c.2.1 (ZK c inj i)
 let d : CpuT := (c.1, r0, c.2.2.1, false, false, c.2.2.2.2.2)
 bif i.1 == 38 then (let q := rRim d l; (q.2.1, wA q.2.2.1 q.1, q.2.2.2)) else
 bif i.1 == 39 then rSim d c.2.1.1 else
 (c.1, finR c c.2.1 r0 g i, bif i.1 == 35 then true else bif i.1 == 36 then false else c.2.2.1, i.1 == 35, i.1 == 37, c.2.2.2.2.2)
def finX (c : CpuT) (s : Int) (g : List Int) (l : QT0) : CpuT :=
 bif Zb s then (c.1, wPC (wSP c.2.1 (IntKind.wrap .u16 (spOf c - 2))) (Zi s), c.2.2)
 else finI c (s == 5) g l (Za c.1 (g.getD 0 0))
theorem ZQ6 (c : CpuT) (l) : (rRim c l).2 = (c.1, c.2.1, c.2.2.1, c.2.2.2.1, c.2.2.2.2.1, c.2.2.2.2.2.1, c.2.2.2.2.2.2.1, c.2.2.2.2.2.2.2.1, c.2.2.2.2.2.2.2.2.1, c.2.2.2.2.2.2.2.2.2.1, false, false, c.2.2.2.2.2.2.2.2.2.2.2.2) := by
 have h3 : ∀ b, Zas b 3 = true := fun b => by cases b <;> rfl
 have h4 : ∀ b, Zas b 4 = true := fun b => by cases b <;> rfl
 have h5 : ∀ b, Zas b 5 = true := fun b => by cases b <;> rfl
 have h6 : ∀ b, Zas b 6 = true := fun b => by cases b <;> rfl
 have h7 : ∀ b, Zas b 7 = true := fun b => by cases b <;> rfl
 simp only [rRim, ZJz, RT.val, h3, h4, h5, h6, h7, Bool.not_true, Bool.false_or, cond_true, getO]
theorem Zb5 (s) : ZfH s = true ∧ ZhO s = bif (s.2.2.2.1.1 == 13 || s.2.2.2.1.2.2.2.1 == 6) then s.2.2.1.getD 1 0 else rGet s.1.2.1 s.2.2.2.1.2.2.2.1 := by
 simp only [ZfH, ZhO, ZhN, RT.val, qat1, Z9]
 cases (s.2.2.2.1.1 == 13 || s.2.2.2.1.2.2.2.1 == 6) <;> simp [okB, getO]
theorem Zfr (r : RegT) (f : FlgT) (pc n v : Int) : rSet (r.1, r.2.1, r.2.2.1, r.2.2.2.1, r.2.2.2.2.1, r.2.2.2.2.2.1, r.2.2.2.2.2.2.1, f, r.2.2.2.2.2.2.2.2.1, pc) n v =
  ((rSet r n v).1, (rSet r n v).2.1, (rSet r n v).2.2.1, (rSet r n v).2.2.2.1, (rSet r n v).2.2.2.2.1, (rSet r n v).2.2.2.2.2.1, (rSet r n v).2.2.2.2.2.2.1, f, (rSet r n v).2.2.2.2.2.2.2.2.1, pc) := rfl
theorem Zft (r : RegT) (n v : Int) : (rSet r n v).2.2.2.2.2.2.2.1 = r.2.2.2.2.2.2.2.1 := rfl
theorem Zfs (r : RegT) (n v : Int) : (rSet r n v).2.2.2.2.2.2.2.2 = r.2.2.2.2.2.2.2.2 := rfl
theorem Zjp (r : RegT) (f : FlgT) (pc n v : Int) : Zs (r.1, r.2.1, r.2.2.1, r.2.2.2.1, r.2.2.2.2.1, r.2.2.2.2.2.1, r.2.2.2.2.2.2.1, f, r.2.2.2.2.2.2.2.2.1, pc) n v =
  ((Zs r n v).1, (Zs r n v).2.1, (Zs r n v).2.2.1, (Zs r n v).2.2.2.1, (Zs r n v).2.2.2.2.1, (Zs r n v).2.2.2.2.2.1, (Zs r n v).2.2.2.2.2.2.1, f, (Zs r n v).2.2.2.2.2.2.2.2.1, pc) := by
 simp only [Zs, Zfv, RT.val]
 cases (andI i64 n 3 == 3) <;> rfl
theorem Zjq (r : RegT) (n v : Int) : (Zs r n v).2.2.2.2.2.2.2.1 = r.2.2.2.2.2.2.2.1 := by
 simp only [Zs, Zfv, RT.val]
 cases (andI i64 n 3 == 3) <;> rfl
theorem ZSM (r : RegT) (f : FlgT) (sp pc n : Int) : ZyP (r.1, r.2.1, r.2.2.1, r.2.2.2.1, r.2.2.2.2.1, r.2.2.2.2.2.1, r.2.2.2.2.2.2.1, f, sp, pc) n = ZyP r n := rfl
theorem ZdZ (r : RegT) (f : FlgT) (pc n : Int) : Zai (r.1, r.2.1, r.2.2.1, r.2.2.2.1, r.2.2.2.2.1, r.2.2.2.2.2.1, r.2.2.2.2.2.2.1, f, r.2.2.2.2.2.2.2.2.1, pc) n = Zai r n := by
 simp only [Zai, ZoZ, RT.val, rGet, ZyR, ZSM]
theorem bnat {x : Int} (h : inR .u8 x) : ∃ a : Nat, x = a ∧ a < 256 := by
 rw [ZfY] at h
 exact ⟨x.toNat, by omega, by omega⟩
theorem w16 {n : Nat} (h : n < 65536) : IntKind.wrap .u16 (n : Int) = n := ZpN ⟨by simp [IntKind.min, IntKind.signed], by simp [IntKind.max, IntKind.signed, IntKind.bits]; omega⟩
theorem ZEl {h l : Int} (hh : inR .u8 h) (hl : inR .u8 l) : Zcp h l = 256 * h + l := by
 obtain ⟨a, rfl, ha⟩ := bnat hh
 obtain ⟨b, rfl, hb⟩ := bnat hl
 have e1 : shlI .u16 (IntKind.wrap .u16 (a : Int)) 8 = ((a * 256 : Nat) : Int) := by
  rw [w16 (by omega)]
  simp only [shlI]
  have : ((a : Int) * 2 ^ min (8 : Int).toNat u16.bits) = ((a * 256 : Nat) : Int) := by simp [IntKind.bits]
  rw [this, w16 (by omega)]
 have e2 : (BitVec.ofInt u16.bits ((a * 256 : Nat) : Int) ||| BitVec.ofInt u16.bits (b : Int)).toNat = a * 256 + b := by
  rw [BitVec.toNat_or, BitVec.toNat_ofInt, BitVec.toNat_ofInt]
  have k1 : (((a * 256 : Nat) : Int) % ((2 ^ u16.bits : Nat) : Int)).toNat = a * 256 := by simp [IntKind.bits]; omega
  have k2 : ((b : Int) % ((2 ^ u16.bits : Nat) : Int)).toNat = b := by simp [IntKind.bits]; omega
  rw [k1, k2]
  have := Nat.shiftLeft_add_eq_or_of_lt (i := 8) (b := b) (by omega) a
  rw [Nat.shiftLeft_eq] at this
  exact this.symm
 show orI .u16 (shlI .u16 (IntKind.wrap .u16 (a : Int)) 8) (IntKind.wrap .u16 (b : Int)) = _
 rw [e1, w16 (by omega)]
 simp only [orI]
 rw [e2, w16 (by omega)]
 omega
theorem ZUs {h l : Int} (hh : inR .u8 h) (hl : inR .u8 l) : IntKind.wrap .u8 (Zcp h l) = l := by
 rw [ZEl hh hl]
 rw [ZfY] at hl
 simp [IntKind.wrap, IntKind.signed, IntKind.bits]; omega
theorem ZUt {h l : Int} (hh : inR .u8 h) (hl : inR .u8 l) : IntKind.wrap .u8 (shrI .u16 (Zcp h l) 8) = h := by
 rw [ZEl hh hl]
 rw [ZfY] at hl hh
 have : shrI .u16 (256 * h + l) 8 = h := by
  simp only [shrI]
  have : ((2 : Int) ^ min (8 : Int).toNat u16.bits) = 256 := by decide
  rw [this, Int.fdiv_eq_ediv_of_nonneg _ (by decide)]; omega
 rw [this]
 simp [IntKind.wrap, IntKind.signed, IntKind.bits]; omega
theorem ZdY (r : RegT) {h l : Int} (hh : inR .u8 h) (hl : inR .u8 l) : Zs r 2 (Zcp h l) = (r.1, r.2.1, r.2.2.1, r.2.2.2.1, r.2.2.2.2.1, h, l, r.2.2.2.2.2.2.2) := by
 have e : Zs r 2 (Zcp h l) = (r.1, r.2.1, r.2.2.1, r.2.2.2.1, r.2.2.2.2.1, IntKind.wrap .u8 (shrI .u16 (Zcp h l) 8), IntKind.wrap .u8 (Zcp h l), r.2.2.2.2.2.2.2) := by
  generalize Zcp h l = v
  rfl
 rw [e, ZUs hh hl, ZUt hh hl]
theorem Zju (x : Int) : IntKind.wrap .u8 (255 - x) = notI .u8 x := by
 have e : notI .u8 x = IntKind.wrap .u8 ((~~~ (BitVec.ofInt 8 x)).toNat : Int) := by
  show IntKind.wrap .u8 (((BitVec.ofInt 8 255) ^^^ (BitVec.ofInt 8 x)).toNat : Int) = _
  have : BitVec.ofInt 8 255 = BitVec.allOnes 8 := by decide
  rw [this, BitVec.allOnes_xor]
 have h1 : (BitVec.ofInt 8 x).toNat = (x % 256).toNat := BitVec.toNat_ofInt ..
 have h2 : ((x % 256).toNat : Int) = x % 256 := by omega
 rw [e, BitVec.toNat_not, h1]
 have h3 : ((2 ^ 8 - 1 - (x % 256).toNat : Nat) : Int) = 255 - x % 256 := by omega
 rw [h3]
 simp [IntKind.wrap, IntKind.signed, IntKind.bits]
def Zdb (k : Int) : Entry := .tree (ZP (envX Tryz.prog [(182, ZvY k), (222, qAtE)] [] 255 8) Tryz.f178)
theorem Zfg (k : Int) : Zc Tryz.prog 178 (Zdb k) := Zab (P := Tryz.prog) (n := 255) (k := 8) (l := [(182, ZvY k), (222, qAtE)]) (ol := []) ⟨(ZDQ k), ZhS, trivial⟩ Tryz.func178 rfl (by kernel_rfl) Tryz.call178 trivial
def ZbS : Entry := .tree (ZP (envX Tryz.prog [(222, qAtE), (232, Zvr), (268, ZvJ), (269, ZbJ), (270, Zl0)] [] 2597417327555236063515274458956831 8) Tryz.f224)
theorem Zfh : Zc Tryz.prog 224 ZbS := Zab (P := Tryz.prog) (n := 2597417327555236063515274458956831) (k := 8) (l := [(222, qAtE), (232, Zvr), (268, ZvJ), (269, ZbJ), (270, Zl0)]) (ol := []) ⟨ZhS, ZrH, ZDr, Zd2, ZrI, trivial⟩ Tryz.func224 rfl (by kernel_rfl) Tryz.call224 trivial
def Zbj : Entry := .tree (ZP (envX Tryz.prog [(222, qAtE), (231, ZfG), (232, Zvr), (268, ZvJ), (269, ZbJ), (271, ZT2), (272, ZlZ), (273, ZDJ), (274, ZDT), (275, ZL0), (276, ZMr), (277, ZMv), (278, ZMx), (279, ZLl)] [] 7069140681974987581262622498806463579024171163532525608263727578473562367 8) Tryz.f225)
theorem Zel : Zc Tryz.prog 225 Zbj := Zab (P := Tryz.prog) (n := 7069140681974987581262622498806463579024171163532525608263727578473562367) (k := 8) (l := [(222, qAtE), (231, ZfG), (232, Zvr), (268, ZvJ), (269, ZbJ), (271, ZT2), (272, ZlZ), (273, ZDJ), (274, ZDT), (275, ZL0), (276, ZMr), (277, ZMv), (278, ZMx), (279, ZLl)]) (ol := []) ⟨ZhS, ZhM, ZrH, ZDr, Zd2, ZT1, Zy7, ZDI, ZDS, ZPW, ZP3, ZP5, ZP7, ZPH, trivial⟩ Tryz.func225 rfl (by kernel_rfl) Tryz.call225 trivial
def Zbi : Entry := .tree (ZP (envX Tryz.prog [(231, ZfG), (269, ZbJ), (270, Zl0), (280, Zg0), (281, Zmf)] [] 1300629477622019213679053869679119 8) Tryz.f226)
theorem Zek : Zc Tryz.prog 226 Zbi := Zab (P := Tryz.prog) (n := 1300629477622019213679053869679119) (k := 8) (l := [(231, ZfG), (269, ZbJ), (270, Zl0), (280, Zg0), (281, Zmf)]) (ol := []) ⟨ZhM, Zd2, ZrI, ZlY, Zzo, trivial⟩ Tryz.func226 rfl (by kernel_rfl) Tryz.call226 trivial
def ZbD : Entry := .tree (ZP (envX Tryz.prog [(222, qAtE), (231, ZfG), (269, ZbJ), (283, ZAz), (284, ZAD), (285, Zzv)] [] 19808249554387950831669350527 8) Tryz.f229)
theorem Ze1 : Zc Tryz.prog 229 ZbD := Zab (P := Tryz.prog) (n := 19808249554387950831669350527) (k := 8) (l := [(222, qAtE), (231, ZfG), (269, ZbJ), (283, ZAz), (284, ZAD), (285, Zzv)]) (ol := []) ⟨ZhS, ZhM, Zd2, ZMl, ZMF, ZLt, trivial⟩ Tryz.func229 rfl (by kernel_rfl) Tryz.call229 trivial
def Zct : Entry := .tree (ZP (envX Tryz.prog [(223, ZhR), (224, ZbS), (225, Zbj), (226, Zbi), (227, ZLn), (228, ZLd), (229, ZbD)] [] 1299342484808491477133836286951679 8) Tryz.f179)
theorem ZeG : Zc Tryz.prog 179 Zct := Zab (P := Tryz.prog) (n := 1299342484808491477133836286951679) (k := 8) (l := [(223, ZhR), (224, ZbS), (225, Zbj), (226, Zbi), (227, ZLn), (228, ZLd), (229, ZbD)]) (ol := []) ⟨Zpe, Zfh, Zel, Zek, ZPJ, ZPD, Ze1, trivial⟩ Tryz.func179 rfl (by kernel_rfl) Tryz.call179 trivial
abbrev Zp : List Sh := [Sh.agg Zx, Sh.one (R.int i64), Sh.one (R.sl (R.int u8)), Sh.agg (R.pair R.bool (R.pair R.bool rcF7))]
abbrev Z2 : Rs := Rs.one (Sh.agg Zx)
def ZaG (k : Int) : List (FuncId × Entry) := [(176, ZiL), (177, ZvD), (178, Zdb k), (179, Zct)]
theorem ZPZ (k : Int) : ZdU Tryz.prog (ZaG k) := ⟨Zjr, Zzh, (Zfg k), ZeG, trivial⟩
def Zbo : Entry := .tree (ZP (envX Tryz.prog [(157, Zgq), (165, Znq), (169, Zg8)] [] 4722654783631989407807 8) Tryz.f154)
theorem ZcJ : Zc Tryz.prog 154 Zbo := Zab (P := Tryz.prog) (n := 4722654783631989407807) (k := 8) (l := [(157, Zgq), (165, Znq), (169, Zg8)]) (ol := []) ⟨ZiY, Ztx, Znr, trivial⟩ Tryz.func154 rfl (by kernel_rfl) Tryz.call154 trivial
def Zbn : Entry := .tree (ZP (envX Tryz.prog [(153, mAtE), (158, Zfz), (163, ZlU), (165, Znq), (205, ZE6), (206, Zfw), (207, Zqy)] [] 89290093085330224515083647028849395745489151 8) Tryz.f155)
theorem ZcI : Zc Tryz.prog 155 Zbn := Zab (P := Tryz.prog) (n := 89290093085330224515083647028849395745489151) (k := 8) (l := [(153, mAtE), (158, Zfz), (163, ZlU), (165, Znq), (205, ZE6), (206, Zfw), (207, Zqy)]) (ol := []) ⟨ZwA, ZhH, ZqX, Ztx, ZxQ, Zk2, ZE5, trivial⟩ Tryz.func155 rfl (by kernel_rfl) Tryz.call155 trivial
def Zba : Entry := .tree (ZP (envX Tryz.prog [(153, mAtE), (158, Zfz), (163, ZlU), (166, Zfu), (205, ZE6), (206, Zfw), (208, rDoE), (209, ZS3), (210, ZTc), (211, ZTh), (212, ZTk), (213, ZJx), (214, ZKz), (215, ZKN), (216, ZxX)] [] 7068251030063838779883004342589958256918126813077978922614622863581249535 8) Tryz.f156)
theorem Zcl : Zc Tryz.prog 156 Zba := Zab (P := Tryz.prog) (n := 7068251030063838779883004342589958256918126813077978922614622863581249535) (k := 8) (l := [(153, mAtE), (158, Zfz), (163, ZlU), (166, Zfu), (205, ZE6), (206, Zfw), (208, rDoE), (209, ZS3), (210, ZTc), (211, ZTh), (212, ZTk), (213, ZJx), (214, ZKz), (215, ZKN), (216, ZxX)]) (ol := []) ⟨ZwA, ZhH, ZqX, Zk1, ZxQ, Zk2, ZVe, ZS1, ZTa, ZTf, ZTi, ZOZ, ZPn, ZPr, ZJF, trivial⟩ Tryz.func156 rfl (by kernel_rfl) Tryz.call156 trivial
abbrev Zo : List Sh := [Sh.agg Zx, Sh.one (R.int i64), Sh.one (R.sl (R.int u8)), Sh.agg (R.pair R.bool (R.pair R.bool rcF7))]
abbrev Z0 : Rs := Rs.one (Sh.agg Zx)
def ZaF (k : Int) : List (FuncId × Entry) := [(104, Zgh), (107, ZKC k), (152, ZCk), (153, mAtE), (154, Zbo), (155, Zbn), (156, Zba), (157, Zgq), (158, Zfz), (159, ZRd), (160, ZU0)]
theorem ZPm (k : Int) : ZdU Tryz.prog (ZaF k) := ⟨ZfC, (ZC7 k), ZE0, ZwA, ZcJ, ZcI, Zcl, ZiY, ZhH, ZO0, ZSR, trivial⟩
end
end Go.Proofs.YtghoimllhpjkjaaGreat
