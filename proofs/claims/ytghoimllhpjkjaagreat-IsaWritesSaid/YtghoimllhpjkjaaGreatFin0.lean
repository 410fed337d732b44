/-
  Contracts of functions; each found by the symbolic executor and checked by the kernel. Conditions: none.
-/
import Derived.Test.YtghoimllhpjkjaaGreatS3D
import Derived.Test.YtghoimllhpjkjaaGreatProg
import Derived.Test.YtghoimllhpjkjaaGreatNext2
import Derived.Test.YtghoimllhpjkjaaGreatPinsEq
open Go.IntKind (u8 u16 i64)
set_option linter.unusedSimpArgs false
open Go Go.S3 Go.Proofs
set_option linter.unusedVariables false
set_option maxRecDepth 100000
namespace Go.Proofs.YtghoimllhpjkjaaGreat
noncomputable section
def Zoy (c : TC) (s : Int) (g : List Int) : RT (Option (TY × Bool)) :=
 let x1 : QT0 := (c, s == 5, g, (0, 0, 0, 0, 0, 0, 0, 0), [])
 let x2 := qAtC x1 0
 let x3 := Zc c.1 (qAt x1 0)
 let x4 := !x2 || x3.1 == 3
 let x5 := x3.2
 let x6 := x5.2.1 == 6
 let x7 : QT5 := (3, x5)
 let x8 : QT9 := ((pcOf c), 0, 4)
 let x9 : List TY := [] ++ [(1, x8)]
 let x10 : List TY := bif s == 5 then x9 ++ [(9, pcOf c, 0, 3)] else x9 ++ [(2, u16.wrap ((pcOf c) + u16.wrap 1), 0, 3)]
 let x11 : QT0 := (c, s == 5, g, x7, x10)
 let x12 : List TY := [] ++ [(12, pcOf c, 0, 6)] ++ [(5, u16.wrap ((spOf c) - 1), u8.wrap (shrI u16 (pcOf c) 8), 3)] ++ [(5, u16.wrap ((spOf c) - 2), u8.wrap (pcOf c), 3)]
 let x14 : List TY := [] ++ [(bif s == 5 then 8 else 1, x8)]
 let x16 : List TY := bif x6 then x10 ++ [(3, Zc3 (c, s == 5, g, x7, x9) 2, qAt x11 1, 3)] else x10
 .br (!x4 || x2) (.br (x4) (.br (Ze s || (iN (List.length g) == 0 || (!x6 || qAtC x11 1))) (.br (Ze s) (fin3 g x12) (.br (iN (List.length g) == 0) (fin3 g x14) (fin3 g x16))) (.leaf none)) (.leaf none)) (.leaf none)
theorem Zy3 (a : HL Zh) : Zk (envX Tryz.prog (ZU 3) [] 1125900980585471 8) Tryz.f113 Zh Zy a = Zoy a.1 a.2.1 a.2.2 := by kernel_rfl
def Zou (c : TC) (s : Int) (g : List Int) : RT (Option (TY × Bool)) :=
 let x1 : QT0 := (c, s == 5, g, (0, 0, 0, 0, 0, 0, 0, 0), [])
 let x2 := qAtC x1 0
 let x3 := Zc c.1 (qAt x1 0)
 let x4 := !x2 || x3.1 == 7
 let x5 : QT9 := ((pcOf c), 0, 4)
 let x6 : List TY := [] ++ [(1, x5)]
 let x7 : List TY := [(9, pcOf c, 0, 3)]
 let x8 : List TY := bif s == 5 then x6 ++ x7 else x6 ++ [(2, u16.wrap ((pcOf c) + u16.wrap 1), 0, 3)]
 let x9 : List TY := bif s == 5 then x8 ++ x7 else x8 ++ [(2, u16.wrap ((pcOf c) + u16.wrap (i64.wrap (1 + 1))), 0, 3)]
 let x10 : QT0 := (c, s == 5, g, (7, x3.2), x9)
 let x11 : List TY := [] ++ [(12, pcOf c, 0, 6)] ++ [(5, u16.wrap ((spOf c) - 1), u8.wrap (shrI u16 (pcOf c) 8), 3)] ++ [(5, u16.wrap ((spOf c) - 2), u8.wrap (pcOf c), 3)]
 let x13 : List TY := [] ++ [(bif s == 5 then 8 else 1, x5)]
 let x15 := ZeC x10 1
 let x16 : List TY := x9 ++ [(2, x15, 0, 3)] ++ [(2, u16.wrap (x15 + 1), 0, 3)]
 .br (!x4 || x2) (.br (x4) (.br (Ze s || (iN (List.length g) == 0 || ZbY x10 1)) (.br (Ze s) (fin3 g x11) (.br (iN (List.length g) == 0) (fin3 g x13) (fin3 g x16))) (.leaf none)) (.leaf none)) (.leaf none)
theorem ZyZ (a : HL Zh) : Zk (envX Tryz.prog (ZU 7) [] 1125900980585471 8) Tryz.f113 Zh Zy a = Zou a.1 a.2.1 a.2.2 := by kernel_rfl
def ZkT (c : TC) (s : Int) (g : List Int) : RT (Option (TY × Bool)) :=
 let x1 : QT0 := (c, s == 5, g, (0, 0, 0, 0, 0, 0, 0, 0), [])
 let x2 := qAtC x1 0
 let x3 := !x2 || (Zc c.1 (qAt x1 0)).1 == 11
 let x4 : List TY := [] ++ [(12, pcOf c, 0, 6)] ++ [(5, u16.wrap ((spOf c) - 1), u8.wrap (shrI u16 (pcOf c) 8), 3)] ++ [(5, u16.wrap ((spOf c) - 2), u8.wrap (pcOf c), 3)]
 let x6 : QT9 := ((pcOf c), 0, 4)
 let x7 : List TY := [] ++ [(bif s == 5 then 8 else 1, x6)]
 let x9 : List TY := [] ++ [(1, x6)]
 .br (!x3 || x2) (.br (x3) (.br (Ze s) (fin3 g x4) (.br (iN (List.length g) == 0) (fin3 g x7) (fin3 g x9))) (.leaf none)) (.leaf none)
theorem ZuF (a : HL Zh) : Zk (envX Tryz.prog (ZU 11) [] 1125900980585471 8) Tryz.f113 Zh Zy a = ZkT a.1 a.2.1 a.2.2 := by kernel_rfl
def ZkP (c : TC) (s : Int) (g : List Int) : RT (Option (TY × Bool)) :=
 let x1 : QT0 := (c, s == 5, g, (0, 0, 0, 0, 0, 0, 0, 0), [])
 let x2 := qAtC x1 0
 let x3 := Zc c.1 (qAt x1 0)
 let x4 := !x2 || x3.1 == 15
 let x5 := x3.2
 let x6 := x5.2.1 == 6
 let x7 : QT5 := (15, x5)
 let x8 : QT9 := ((pcOf c), 0, 4)
 let x9 : List TY := [] ++ [(1, x8)]
 let x10 := Zc3 (c, s == 5, g, x7, x9) 2
 let x11 : List TY := x9 ++ [(2, x10, 0, 3)]
 let x12 : QT0 := (c, s == 5, g, x7, x11)
 let x13 : List TY := [] ++ [(12, pcOf c, 0, 6)] ++ [(5, u16.wrap ((spOf c) - 1), u8.wrap (shrI u16 (pcOf c) 8), 3)] ++ [(5, u16.wrap ((spOf c) - 2), u8.wrap (pcOf c), 3)]
 let x15 : List TY := [] ++ [(bif s == 5 then 8 else 1, x8)]
 let x17 : List TY := bif x6 then x11 ++ [(3, x10, Zgi x12, 3)] else x9
 .br (!x4 || x2) (.br (x4) (.br (Ze s || (iN (List.length g) == 0 || (!x6 || ZeD x12))) (.br (Ze s) (fin3 g x13) (.br (iN (List.length g) == 0) (fin3 g x15) (fin3 g x17))) (.leaf none)) (.leaf none)) (.leaf none)
theorem ZuB (a : HL Zh) : Zk (envX Tryz.prog (ZU 15) [] 1125900980585471 8) Tryz.f113 Zh Zy a = ZkP a.1 a.2.1 a.2.2 := by kernel_rfl
def ZkL (c : TC) (s : Int) (g : List Int) : RT (Option (TY × Bool)) :=
 let x1 : QT0 := (c, s == 5, g, (0, 0, 0, 0, 0, 0, 0, 0), [])
 let x2 := qAtC x1 0
 let x3 := !x2 || (Zc c.1 (qAt x1 0)).1 == 19
 let x4 : List TY := [] ++ [(12, pcOf c, 0, 6)] ++ [(5, u16.wrap ((spOf c) - 1), u8.wrap (shrI u16 (pcOf c) 8), 3)] ++ [(5, u16.wrap ((spOf c) - 2), u8.wrap (pcOf c), 3)]
 let x6 : QT9 := ((pcOf c), 0, 4)
 let x7 : List TY := [] ++ [(bif s == 5 then 8 else 1, x6)]
 let x9 : List TY := [] ++ [(1, x6)]
 .br (!x3 || x2) (.br (x3) (.br (Ze s) (fin3 g x4) (.br (iN (List.length g) == 0) (fin3 g x7) (fin3 g x9))) (.leaf none)) (.leaf none)
theorem Zux (a : HL Zh) : Zk (envX Tryz.prog (ZU 19) [] 1125900980585471 8) Tryz.f113 Zh Zy a = ZkL a.1 a.2.1 a.2.2 := by kernel_rfl
def ZkH (c : TC) (s : Int) (g : List Int) : RT (Option (TY × Bool)) :=
 let x1 : QT0 := (c, s == 5, g, (0, 0, 0, 0, 0, 0, 0, 0), [])
 let x2 := qAtC x1 0
 let x3 := !x2 || (Zc c.1 (qAt x1 0)).1 == 23
 let x4 : List TY := [] ++ [(12, pcOf c, 0, 6)] ++ [(5, u16.wrap ((spOf c) - 1), u8.wrap (shrI u16 (pcOf c) 8), 3)] ++ [(5, u16.wrap ((spOf c) - 2), u8.wrap (pcOf c), 3)]
 let x6 : QT9 := ((pcOf c), 0, 4)
 let x7 : List TY := [] ++ [(bif s == 5 then 8 else 1, x6)]
 let x9 : List TY := [] ++ [(1, x6)]
 .br (!x3 || x2) (.br (x3) (.br (Ze s) (fin3 g x4) (.br (iN (List.length g) == 0) (fin3 g x7) (fin3 g x9))) (.leaf none)) (.leaf none)
theorem Zut (a : HL Zh) : Zk (envX Tryz.prog (ZU 23) [] 1125900980585471 8) Tryz.f113 Zh Zy a = ZkH a.1 a.2.1 a.2.2 := by kernel_rfl
def ZkD (c : TC) (s : Int) (g : List Int) : RT (Option (TY × Bool)) :=
 let x1 : QT0 := (c, s == 5, g, (0, 0, 0, 0, 0, 0, 0, 0), [])
 let x2 := qAtC x1 0
 let x3 := Zc c.1 (qAt x1 0)
 let x4 := !x2 || x3.1 == 27
 let x5 := u16.wrap ((spOf c) - 1)
 let x6 := u16.wrap ((spOf c) - 2)
 let x7 : List TY := [] ++ [(12, pcOf c, 0, 6)] ++ [(5, x5, u8.wrap (shrI u16 (pcOf c) 8), 3)] ++ [(5, x6, u8.wrap (pcOf c), 3)]
 let x9 : QT9 := ((pcOf c), 0, 4)
 let x10 : List TY := [] ++ [(bif s == 5 then 8 else 1, x9)]
 let x12 : List TY := [] ++ [(1, x9)]
 let x13 := Zv (c, s == 5, g, (27, x3.2), x12)
 let x14 : List TY := x12 ++ [(5, x5, u8.wrap (shrI u16 x13 8), 3)] ++ [(5, x6, u8.wrap x13, 3)]
 .br (!x4 || x2) (.br (x4) (.br (Ze s) (fin3 g x7) (.br (iN (List.length g) == 0) (fin3 g x10) (fin3 g x14))) (.leaf none)) (.leaf none)
theorem Zup (a : HL Zh) : Zk (envX Tryz.prog (ZU 27) [] 1125900980585471 8) Tryz.f113 Zh Zy a = ZkD a.1 a.2.1 a.2.2 := by kernel_rfl
def Zkz (c : TC) (s : Int) (g : List Int) : RT (Option (TY × Bool)) :=
 let x1 : QT0 := (c, s == 5, g, (0, 0, 0, 0, 0, 0, 0, 0), [])
 let x2 := qAtC x1 0
 let x3 := !x2 || (Zc c.1 (qAt x1 0)).1 == 31
 let x4 : List TY := [] ++ [(12, pcOf c, 0, 6)] ++ [(5, u16.wrap ((spOf c) - 1), u8.wrap (shrI u16 (pcOf c) 8), 3)] ++ [(5, u16.wrap ((spOf c) - 2), u8.wrap (pcOf c), 3)]
 let x6 : QT9 := ((pcOf c), 0, 4)
 let x7 : List TY := [] ++ [(bif s == 5 then 8 else 1, x6)]
 let x9 : List TY := [] ++ [(1, x6)] ++ [(4, spOf c, 0, 3)] ++ [(4, u16.wrap ((spOf c) + 1), 0, 3)]
 .br (!x3 || x2) (.br (x3) (.br (Ze s) (fin3 g x4) (.br (iN (List.length g) == 0) (fin3 g x7) (fin3 g x9))) (.leaf none)) (.leaf none)
theorem Zul (a : HL Zh) : Zk (envX Tryz.prog (ZU 31) [] 1125900980585471 8) Tryz.f113 Zh Zy a = Zkz a.1 a.2.1 a.2.2 := by kernel_rfl
def Zkv (c : TC) (s : Int) (g : List Int) : RT (Option (TY × Bool)) :=
 let x1 : QT0 := (c, s == 5, g, (0, 0, 0, 0, 0, 0, 0, 0), [])
 let x2 := qAtC x1 0
 let x3 := !x2 || (Zc c.1 (qAt x1 0)).1 == 35
 let x4 : List TY := [] ++ [(12, pcOf c, 0, 6)] ++ [(5, u16.wrap ((spOf c) - 1), u8.wrap (shrI u16 (pcOf c) 8), 3)] ++ [(5, u16.wrap ((spOf c) - 2), u8.wrap (pcOf c), 3)]
 let x6 : QT9 := ((pcOf c), 0, 4)
 let x7 : List TY := [] ++ [(bif s == 5 then 8 else 1, x6)]
 let x9 : List TY := [] ++ [(1, x6)]
 .br (!x3 || x2) (.br (x3) (.br (Ze s) (fin3 g x4) (.br (iN (List.length g) == 0) (fin3 g x7) (fin3 g x9))) (.leaf none)) (.leaf none)
theorem Zuh (a : HL Zh) : Zk (envX Tryz.prog (ZU 35) [] 1125900980585471 8) Tryz.f113 Zh Zy a = Zkv a.1 a.2.1 a.2.2 := by kernel_rfl
def Zkr (c : TC) (s : Int) (g : List Int) : RT (Option (TY × Bool)) :=
 let x1 : QT0 := (c, s == 5, g, (0, 0, 0, 0, 0, 0, 0, 0), [])
 let x2 := qAtC x1 0
 let x3 := !x2 || (Zc c.1 (qAt x1 0)).1 == 39
 let x4 : List TY := [] ++ [(12, pcOf c, 0, 6)] ++ [(5, u16.wrap ((spOf c) - 1), u8.wrap (shrI u16 (pcOf c) 8), 3)] ++ [(5, u16.wrap ((spOf c) - 2), u8.wrap (pcOf c), 3)]
 let x6 : QT9 := ((pcOf c), 0, 4)
 let x7 : List TY := [] ++ [(bif s == 5 then 8 else 1, x6)]
 let x9 : List TY := [] ++ [(1, x6)]
 .br (!x3 || x2) (.br (x3) (.br (Ze s) (fin3 g x4) (.br (iN (List.length g) == 0) (fin3 g x7) (fin3 g x9))) (.leaf none)) (.leaf none)
theorem Zud (a : HL Zh) : Zk (envX Tryz.prog (ZU 39) [] 1125900980585471 8) Tryz.f113 Zh Zy a = Zkr a.1 a.2.1 a.2.2 := by kernel_rfl
def Zkn (c : TC) (s : Int) (g : List Int) : RT (Option (TY × Bool)) :=
 let x1 : QT0 := (c, s == 5, g, (0, 0, 0, 0, 0, 0, 0, 0), [])
 let x2 := qAtC x1 0
 let x3 := !x2 || (Zc c.1 (qAt x1 0)).1 == 43
 let x4 : List TY := [] ++ [(12, pcOf c, 0, 6)] ++ [(5, u16.wrap ((spOf c) - 1), u8.wrap (shrI u16 (pcOf c) 8), 3)] ++ [(5, u16.wrap ((spOf c) - 2), u8.wrap (pcOf c), 3)]
 let x6 : QT9 := ((pcOf c), 0, 4)
 let x7 : List TY := [] ++ [(bif s == 5 then 8 else 1, x6)]
 let x9 : List TY := [] ++ [(1, x6)]
 let x10 : QT9 := ((pcOf c), 0, 3)
 let x11 : List TY := (bif s == 5 then x9 ++ [(9, x10)] else x9 ++ [(2, u16.wrap ((pcOf c) + u16.wrap 1), 0, 3)]) ++ [(11, x10)]
 .br (!x3 || x2) (.br (x3) (.br (Ze s) (fin3 g x4) (.br (iN (List.length g) == 0) (fin3 g x7) (fin3 g x11))) (.leaf none)) (.leaf none)
theorem Zt9 (a : HL Zh) : Zk (envX Tryz.prog (ZU 43) [] 1125900980585471 8) Tryz.f113 Zh Zy a = Zkn a.1 a.2.1 a.2.2 := by kernel_rfl
def Zkj (c : TC) (s : Int) (g : List Int) : RT (Option (TY × Bool)) :=
 let x1 : QT0 := (c, s == 5, g, (0, 0, 0, 0, 0, 0, 0, 0), [])
 let x2 := qAtC x1 0
 let x3 := Zc c.1 (qAt x1 0)
 let x4 := !x2 || x3.1 == 47
 let x5 : List TY := [] ++ [(12, pcOf c, 0, 6)] ++ [(5, u16.wrap ((spOf c) - 1), u8.wrap (shrI u16 (pcOf c) 8), 3)] ++ [(5, u16.wrap ((spOf c) - 2), u8.wrap (pcOf c), 3)]
 let x7 : QT9 := ((pcOf c), 0, 4)
 let x8 : List TY := [] ++ [(bif s == 5 then 8 else 1, x7)]
 let x10 : List TY := [] ++ [(1, x7)]
 let x11 := Zc3 (c, s == 5, g, (47, x3.2), x10) 1
 let x12 : List TY := x10 ++ [(2, x11, 0, 3)] ++ [(2, u16.wrap (x11 + 1), 0, 3)]
 .br (!x4 || x2) (.br (x4) (.br (Ze s) (fin3 g x5) (.br (iN (List.length g) == 0) (fin3 g x8) (fin3 g x12))) (.leaf none)) (.leaf none)
theorem Zt5 (a : HL Zh) : Zk (envX Tryz.prog (ZU 47) [] 1125900980585471 8) Tryz.f113 Zh Zy a = Zkj a.1 a.2.1 a.2.2 := by kernel_rfl
def ZnQ (c : TC) (s : Int) (g : List Int) : RT (Option (TY × Bool)) :=
 let x1 : List TY := [(12, pcOf c, 0, 6)] ++ [(5, u16.wrap ((spOf c) - 1), u8.wrap (shrI u16 (pcOf c) 8), 3)] ++ [(5, u16.wrap ((spOf c) - 2), u8.wrap (pcOf c), 3)]
 let x3 : List TY := [(bif s == 5 then 8 else 1, pcOf c, 0, 4)]
 let x4 : List TY := [(9, pcOf c, 0, 3)]
 let x5 : List TY := x3 ++ x4
 let x6 : List TY := [(2, u16.wrap ((pcOf c) + u16.wrap (i64.wrap (1 + 1))), 0, 3)]
 let x7 : List TY := bif s == 5 then x5 ++ x4 else x5 ++ x6
 let x9 : List TY := x3 ++ [(2, u16.wrap ((pcOf c) + u16.wrap 1), 0, 3)]
 let x10 : List TY := bif s == 5 then x9 ++ x4 else x9 ++ x6
 .br (Za s || (!decide (iN (List.length g) > 0) || (!Zf 0 (List.length g) || (Zc c.1 (R.get (R.int u8) g 0)).1 == 4))) (.br (Za s || (!decide (iN (List.length g) > 0) || Zf 0 (List.length g))) (.br (Za s) (fin3 g x1) (.br (decide (iN (List.length g) > 0)) (.br (s == 5) (fin3 g x7) (fin3 g x10)) (fin3 g x3))) (.leaf none)) (.leaf none)
theorem Zyy (a : HL Zg) : Zk (envX Tryz.prog (ZT 4) [] 2047 8) Tryz.f42 Zg Zx a = ZnQ a.1 a.2.1 a.2.2 := by kernel_rfl
def ZnM (c : TC) (s : Int) (g : List Int) : RT (Option (TY × Bool)) :=
 let x1 : List TY := [(bif s == 5 then 8 else 1, pcOf c, 0, 4)]
 let x2 : List TY := [(9, pcOf c, 0, 3)]
 let x3 : List TY := x1 ++ x2
 let x4 : List TY := [(2, u16.wrap ((pcOf c) + u16.wrap (i64.wrap (1 + 1))), 0, 3)]
 let x5 : List TY := bif s == 5 then x3 ++ x2 else x3 ++ x4
 let x6 : QT4 := (c, s == 5, g, x5)
 let x7 := Zda x6 1
 let x8 : List TY := x5 ++ [(3, ZfM x6 1, c.2.1.2.2.2.2.2.2.1, 3)]
 let x9 : QT4 := (c, s == 5, g, x8)
 let x10 := !s == 5 || (!x7 || Zda x9 1)
 let x11 := !x10
 let x12 := !s == 5 || x7
 let x13 := !x12
 let x14 : List TY := x1 ++ [(2, u16.wrap ((pcOf c) + u16.wrap 1), 0, 3)]
 let x15 : List TY := bif s == 5 then x14 ++ x2 else x14 ++ x4
 let x16 : QT4 := (c, s == 5, g, x15)
 let x17 := Zda x16 1
 let x18 : List TY := x15 ++ [(3, ZfM x16 1, c.2.1.2.2.2.2.2.2.1, 3)]
 let x19 : QT4 := (c, s == 5, g, x18)
 let x20 := s == 5 || (!x17 || Zda x19 1)
 let x21 : List TY := [(12, pcOf c, 0, 6)] ++ [(5, u16.wrap ((spOf c) - 1), u8.wrap (shrI u16 (pcOf c) 8), 3)] ++ [(5, u16.wrap ((spOf c) - 2), u8.wrap (pcOf c), 3)]
 let x23 : List TY := x8 ++ [(3, u16.wrap (ZfM x9 1 + 1), c.2.1.2.2.2.2.2.1, 3)]
 let x25 : List TY := x18 ++ [(3, u16.wrap (ZfM x19 1 + 1), c.2.1.2.2.2.2.2.1, 3)]
 .br (Za s || (!decide (iN (List.length g) > 0) || (!Zf 0 (List.length g) || (!(Zc c.1 (R.get (R.int u8) g 0)).1 == 8 || (x11 || (x13 || (!x20 || (s == 5 || x17)))))))) (.br (Za s || (!decide (iN (List.length g) > 0) || (!Zf 0 (List.length g) || (!(Zc c.1 (R.get (R.int u8) g 0)).1 == 8 || (x11 || (x13 || x20)))))) (.br (Za s || (!decide (iN (List.length g) > 0) || (!Zf 0 (List.length g) || (!(Zc c.1 (R.get (R.int u8) g 0)).1 == 8 || (x11 || x12))))) (.br (Za s || (!decide (iN (List.length g) > 0) || (!Zf 0 (List.length g) || (!(Zc c.1 (R.get (R.int u8) g 0)).1 == 8 || x10)))) (.br (Za s || (!decide (iN (List.length g) > 0) || (!Zf 0 (List.length g) || (Zc c.1 (R.get (R.int u8) g 0)).1 == 8))) (.br (Za s || (!decide (iN (List.length g) > 0) || Zf 0 (List.length g))) (.br (Za s) (fin3 g x21) (.br (decide (iN (List.length g) > 0)) (.br (s == 5) (fin3 g x23) (fin3 g x25)) (fin3 g x1))) (.leaf none)) (.leaf none)) (.leaf none)) (.leaf none)) (.leaf none)) (.leaf none)
theorem Zyu (a : HL Zg) : Zk (envX Tryz.prog (ZT 8) [] 2047 8) Tryz.f42 Zg Zx a = ZnM a.1 a.2.1 a.2.2 := by kernel_rfl
def ZjP (c : TC) (s : Int) (g : List Int) : RT (Option (TY × Bool)) :=
 let x1 : List TY := [(12, pcOf c, 0, 6)] ++ [(5, u16.wrap ((spOf c) - 1), u8.wrap (shrI u16 (pcOf c) 8), 3)] ++ [(5, u16.wrap ((spOf c) - 2), u8.wrap (pcOf c), 3)]
 let x3 : List TY := [(bif s == 5 then 8 else 1, pcOf c, 0, 4)]
 let x4 : List TY := x3 ++ [(2, ZaW c.2.1 2, 0, 3)]
 let x6 : Nat := List.length x3
 let x7 := decide (iN (List.length g) ≥ iN x6)
 let x8 := Zf (iN (List.length g)) x6
 let x9 : TY × Bool := (R.get (RY) x3 (iN (List.length g)), true)
 .br (Za s || (!decide (iN (List.length g) > 0) || (!Zf 0 (List.length g) || (Zc c.1 (R.get (R.int u8) g 0)).1 == 12))) (.br (Za s || (!decide (iN (List.length g) > 0) || Zf 0 (List.length g))) (.br (Za s) (fin3 g x1) (.br (decide (iN (List.length g) > 0)) (.br ((Zc c.1 (R.get (R.int u8) g 0)).2.2.2.1 == 6) (fin3 g x4) (.br (x7) (.leaf (some (((0, 0, 0, 0), false)))) (.br (x8) (.leaf (some (x9))) (.leaf none)))) (.br (x7) (.leaf (some (((0, 0, 0, 0), false)))) (.br (x8) (.leaf (some (x9))) (.leaf none))))) (.leaf none)) (.leaf none)
theorem Ztu (a : HL Zg) : Zk (envX Tryz.prog (ZT 12) [] 2047 8) Tryz.f42 Zg Zx a = ZjP a.1 a.2.1 a.2.2 := by kernel_rfl
def ZjL (c : TC) (s : Int) (g : List Int) : RT (Option (TY × Bool)) :=
 let x1 : List TY := [(12, pcOf c, 0, 6)] ++ [(5, u16.wrap ((spOf c) - 1), u8.wrap (shrI u16 (pcOf c) 8), 3)] ++ [(5, u16.wrap ((spOf c) - 2), u8.wrap (pcOf c), 3)]
 let x3 : List TY := [(bif s == 5 then 8 else 1, pcOf c, 0, 4)]
 .br (Za s || (!decide (iN (List.length g) > 0) || (!Zf 0 (List.length g) || (Zc c.1 (R.get (R.int u8) g 0)).1 == 16))) (.br (Za s || (!decide (iN (List.length g) > 0) || Zf 0 (List.length g))) (.br (Za s) (fin3 g x1) (fin3 g x3)) (.leaf none)) (.leaf none)
theorem Ztq (a : HL Zg) : Zk (envX Tryz.prog (ZT 16) [] 2047 8) Tryz.f42 Zg Zx a = ZjL a.1 a.2.1 a.2.2 := by kernel_rfl
def ZjH (c : TC) (s : Int) (g : List Int) : RT (Option (TY × Bool)) :=
 let x1 : List TY := [(12, pcOf c, 0, 6)] ++ [(5, u16.wrap ((spOf c) - 1), u8.wrap (shrI u16 (pcOf c) 8), 3)] ++ [(5, u16.wrap ((spOf c) - 2), u8.wrap (pcOf c), 3)]
 let x3 : List TY := [(bif s == 5 then 8 else 1, pcOf c, 0, 4)]
 .br (Za s || (!decide (iN (List.length g) > 0) || (!Zf 0 (List.length g) || (Zc c.1 (R.get (R.int u8) g 0)).1 == 20))) (.br (Za s || (!decide (iN (List.length g) > 0) || Zf 0 (List.length g))) (.br (Za s) (fin3 g x1) (fin3 g x3)) (.leaf none)) (.leaf none)
theorem Ztm (a : HL Zg) : Zk (envX Tryz.prog (ZT 20) [] 2047 8) Tryz.f42 Zg Zx a = ZjH a.1 a.2.1 a.2.2 := by kernel_rfl
def ZjD (c : TC) (s : Int) (g : List Int) : RT (Option (TY × Bool)) :=
 let x1 : List TY := [(12, pcOf c, 0, 6)] ++ [(5, u16.wrap ((spOf c) - 1), u8.wrap (shrI u16 (pcOf c) 8), 3)] ++ [(5, u16.wrap ((spOf c) - 2), u8.wrap (pcOf c), 3)]
 let x3 : List TY := [(bif s == 5 then 8 else 1, pcOf c, 0, 4)]
 let x4 : List TY := [(9, pcOf c, 0, 3)]
 let x5 : List TY := x3 ++ x4
 let x7 : List TY := x3 ++ [(2, u16.wrap ((pcOf c) + u16.wrap 1), 0, 3)]
 let x9 : List TY := [(2, u16.wrap ((pcOf c) + u16.wrap (i64.wrap (1 + 1))), 0, 3)]
 let x10 : List TY := bif s == 5 then x5 ++ x4 else x5 ++ x9
 let x12 : List TY := bif s == 5 then x7 ++ x4 else x7 ++ x9
 .br (Za s || (!decide (iN (List.length g) > 0) || (!Zf 0 (List.length g) || (Zc c.1 (R.get (R.int u8) g 0)).1 == 24))) (.br (Za s || (!decide (iN (List.length g) > 0) || Zf 0 (List.length g))) (.br (Za s) (fin3 g x1) (.br (decide (iN (List.length g) > 0)) (.br (rOn c.1 && !Zfw (c, s == 5, g, x3) (24, (Zc c.1 (R.get (R.int u8) g 0)).2)) (.br (s == 5) (fin3 g x5) (fin3 g x7)) (.br (s == 5) (fin3 g x10) (fin3 g x12))) (fin3 g x3))) (.leaf none)) (.leaf none)
theorem Zti (a : HL Zg) : Zk (envX Tryz.prog (ZT 24) [] 2047 8) Tryz.f42 Zg Zx a = ZjD a.1 a.2.1 a.2.2 := by kernel_rfl
def Zjz (c : TC) (s : Int) (g : List Int) : RT (Option (TY × Bool)) :=
 let x1 : List TY := [(12, pcOf c, 0, 6)] ++ [(5, u16.wrap ((spOf c) - 1), u8.wrap (shrI u16 (pcOf c) 8), 3)] ++ [(5, u16.wrap ((spOf c) - 2), u8.wrap (pcOf c), 3)]
 let x3 : List TY := [(bif s == 5 then 8 else 1, pcOf c, 0, 4)]
 .br (Za s || (!decide (iN (List.length g) > 0) || (!Zf 0 (List.length g) || (Zc c.1 (R.get (R.int u8) g 0)).1 == 28))) (.br (Za s || (!decide (iN (List.length g) > 0) || Zf 0 (List.length g))) (.br (Za s) (fin3 g x1) (fin3 g x3)) (.leaf none)) (.leaf none)
theorem Zte (a : HL Zg) : Zk (envX Tryz.prog (ZT 28) [] 2047 8) Tryz.f42 Zg Zx a = Zjz a.1 a.2.1 a.2.2 := by kernel_rfl
def Zjv (c : TC) (s : Int) (g : List Int) : RT (Option (TY × Bool)) :=
 let x1 : List TY := [(12, pcOf c, 0, 6)] ++ [(5, u16.wrap ((spOf c) - 1), u8.wrap (shrI u16 (pcOf c) 8), 3)] ++ [(5, u16.wrap ((spOf c) - 2), u8.wrap (pcOf c), 3)]
 let x3 : List TY := [(bif s == 5 then 8 else 1, pcOf c, 0, 4)]
 let x4 := u16.wrap ((spOf c) + 1)
 let x5 : List TY := x3 ++ [(4, spOf c, 0, 3)] ++ [(4, x4, 0, 3)] ++ [(5, x4, c.2.1.2.2.2.2.2.1, 3)] ++ [(5, spOf c, c.2.1.2.2.2.2.2.2.1, 3)]
 let x6 := i64.wrap (iN (List.length x5) - 1)
 let x7 : Int × Int × Int × Int := R.get (RY) x5 x6
 let x8 := x7.2
 let x9 : List TY := bif !rOn c.1 then setI x5 x6 (x7.1, x8.1, x8.2.1, 5) else x5
 .br (Za s || (!decide (iN (List.length g) > 0) || (!Zf 0 (List.length g) || (Zc c.1 (R.get (R.int u8) g 0)).1 == 32))) (.br (Za s || (!decide (iN (List.length g) > 0) || Zf 0 (List.length g))) (.br (Za s) (fin3 g x1) (.br (decide (iN (List.length g) > 0)) (fin3 g x9) (fin3 g x3))) (.leaf none)) (.leaf none)
theorem Zta (a : HL Zg) : Zk (envX Tryz.prog (ZT 32) [] 2047 8) Tryz.f42 Zg Zx a = Zjv a.1 a.2.1 a.2.2 := by kernel_rfl
def Zjr (c : TC) (s : Int) (g : List Int) : RT (Option (TY × Bool)) :=
 let x1 : List TY := [(12, pcOf c, 0, 6)] ++ [(5, u16.wrap ((spOf c) - 1), u8.wrap (shrI u16 (pcOf c) 8), 3)] ++ [(5, u16.wrap ((spOf c) - 2), u8.wrap (pcOf c), 3)]
 let x3 : List TY := [(bif s == 5 then 8 else 1, pcOf c, 0, 4)]
 .br (Za s || (!decide (iN (List.length g) > 0) || (!Zf 0 (List.length g) || (Zc c.1 (R.get (R.int u8) g 0)).1 == 36))) (.br (Za s || (!decide (iN (List.length g) > 0) || Zf 0 (List.length g))) (.br (Za s) (fin3 g x1) (fin3 g x3)) (.leaf none)) (.leaf none)
theorem Zs6 (a : HL Zg) : Zk (envX Tryz.prog (ZT 36) [] 2047 8) Tryz.f42 Zg Zx a = Zjr a.1 a.2.1 a.2.2 := by kernel_rfl
def Zjn (c : TC) (s : Int) (g : List Int) : RT (Option (TY × Bool)) :=
 let x1 : List TY := [(12, pcOf c, 0, 6)] ++ [(5, u16.wrap ((spOf c) - 1), u8.wrap (shrI u16 (pcOf c) 8), 3)] ++ [(5, u16.wrap ((spOf c) - 2), u8.wrap (pcOf c), 3)]
 let x3 : List TY := [(bif s == 5 then 8 else 1, pcOf c, 0, 4)]
 let x4 : List TY := [(11, pcOf c, 0, 3)]
 let x5 : List TY := x3 ++ x4 ++ x4
 .br (Za s || (!decide (iN (List.length g) > 0) || (!Zf 0 (List.length g) || (Zc c.1 (R.get (R.int u8) g 0)).1 == 40))) (.br (Za s || (!decide (iN (List.length g) > 0) || Zf 0 (List.length g))) (.br (Za s) (fin3 g x1) (.br (decide (iN (List.length g) > 0)) (fin3 g x5) (fin3 g x3))) (.leaf none)) (.leaf none)
theorem Zs2 (a : HL Zg) : Zk (envX Tryz.prog (ZT 40) [] 2047 8) Tryz.f42 Zg Zx a = Zjn a.1 a.2.1 a.2.2 := by kernel_rfl
def Zjj (c : TC) (s : Int) (g : List Int) : RT (Option (TY × Bool)) :=
 let x1 : List TY := [(12, pcOf c, 0, 6)] ++ [(5, u16.wrap ((spOf c) - 1), u8.wrap (shrI u16 (pcOf c) 8), 3)] ++ [(5, u16.wrap ((spOf c) - 2), u8.wrap (pcOf c), 3)]
 let x3 : List TY := [(bif s == 5 then 8 else 1, pcOf c, 0, 4)]
 let x4 : QT9 := ((pcOf c), 0, 3)
 let x5 : List TY := [(11, x4)]
 let x6 : List TY := x3 ++ [(9, x4)] ++ x5
 let x8 : List TY := x3 ++ [(2, u16.wrap ((pcOf c) + u16.wrap 1), 0, 3)] ++ x5
 .br (Za s || (!decide (iN (List.length g) > 0) || (!Zf 0 (List.length g) || (Zc c.1 (R.get (R.int u8) g 0)).1 == 44))) (.br (Za s || (!decide (iN (List.length g) > 0) || Zf 0 (List.length g))) (.br (Za s) (fin3 g x1) (.br (decide (iN (List.length g) > 0)) (.br (s == 5) (fin3 g x6) (fin3 g x8)) (fin3 g x3))) (.leaf none)) (.leaf none)
theorem ZsY (a : HL Zg) : Zk (envX Tryz.prog (ZT 44) [] 2047 8) Tryz.f42 Zg Zx a = Zjj a.1 a.2.1 a.2.2 := by kernel_rfl
def Zox (c : TC) (s : Int) (g : List Int) : RT (Option (TY × Bool)) :=
 let x1 : QT0 := (c, s == 5, g, (0, 0, 0, 0, 0, 0, 0, 0), [])
 let x2 := qAtC x1 0
 let x3 := Zc c.1 (qAt x1 0)
 let x4 := !x2 || x3.1 == 4
 let x5 : QT9 := ((pcOf c), 0, 4)
 let x6 : List TY := [] ++ [(1, x5)]
 let x7 : List TY := [(9, pcOf c, 0, 3)]
 let x8 : List TY := bif s == 5 then x6 ++ x7 else x6 ++ [(2, u16.wrap ((pcOf c) + u16.wrap 1), 0, 3)]
 let x9 : List TY := bif s == 5 then x8 ++ x7 else x8 ++ [(2, u16.wrap ((pcOf c) + u16.wrap (i64.wrap (1 + 1))), 0, 3)]
 let x10 : List TY := [] ++ [(12, pcOf c, 0, 6)] ++ [(5, u16.wrap ((spOf c) - 1), u8.wrap (shrI u16 (pcOf c) 8), 3)] ++ [(5, u16.wrap ((spOf c) - 2), u8.wrap (pcOf c), 3)]
 let x12 : List TY := [] ++ [(bif s == 5 then 8 else 1, x5)]
 .br (!x4 || x2) (.br (x4) (.br (Ze s || (iN (List.length g) == 0 || ZbY (c, s == 5, g, (4, x3.2), x9) 1)) (.br (Ze s) (fin3 g x10) (.br (iN (List.length g) == 0) (fin3 g x12) (fin3 g x9))) (.leaf none)) (.leaf none)) (.leaf none)
theorem Zy2 (a : HL Zh) : Zk (envX Tryz.prog (ZU 4) [] 1125900980585471 8) Tryz.f113 Zh Zy a = Zox a.1 a.2.1 a.2.2 := by kernel_rfl
def Zot (c : TC) (s : Int) (g : List Int) : RT (Option (TY × Bool)) :=
 let x1 : QT0 := (c, s == 5, g, (0, 0, 0, 0, 0, 0, 0, 0), [])
 let x2 := qAtC x1 0
 let x3 := Zc c.1 (qAt x1 0)
 let x4 := !x2 || x3.1 == 8
 let x5 : QT9 := ((pcOf c), 0, 4)
 let x6 : List TY := [] ++ [(1, x5)]
 let x7 : List TY := [(9, pcOf c, 0, 3)]
 let x8 : List TY := bif s == 5 then x6 ++ x7 else x6 ++ [(2, u16.wrap ((pcOf c) + u16.wrap 1), 0, 3)]
 let x9 : List TY := bif s == 5 then x8 ++ x7 else x8 ++ [(2, u16.wrap ((pcOf c) + u16.wrap (i64.wrap (1 + 1))), 0, 3)]
 let x10 : QT0 := (c, s == 5, g, (8, x3.2), x9)
 let x11 : List TY := [] ++ [(12, pcOf c, 0, 6)] ++ [(5, u16.wrap ((spOf c) - 1), u8.wrap (shrI u16 (pcOf c) 8), 3)] ++ [(5, u16.wrap ((spOf c) - 2), u8.wrap (pcOf c), 3)]
 let x13 : List TY := [] ++ [(bif s == 5 then 8 else 1, x5)]
 let x15 := ZeC x10 1
 let x16 : List TY := x9 ++ [(3, x15, c.2.1.2.2.2.2.2.2.1, 3)] ++ [(3, u16.wrap (x15 + 1), c.2.1.2.2.2.2.2.1, 3)]
 .br (!x4 || x2) (.br (x4) (.br (Ze s || (iN (List.length g) == 0 || ZbY x10 1)) (.br (Ze s) (fin3 g x11) (.br (iN (List.length g) == 0) (fin3 g x13) (fin3 g x16))) (.leaf none)) (.leaf none)) (.leaf none)
theorem ZyY (a : HL Zh) : Zk (envX Tryz.prog (ZU 8) [] 1125900980585471 8) Tryz.f113 Zh Zy a = Zot a.1 a.2.1 a.2.2 := by kernel_rfl
def ZkS (c : TC) (s : Int) (g : List Int) : RT (Option (TY × Bool)) :=
 let x1 : QT0 := (c, s == 5, g, (0, 0, 0, 0, 0, 0, 0, 0), [])
 let x2 := qAtC x1 0
 let x3 := Zc c.1 (qAt x1 0)
 let x4 := !x2 || x3.1 == 12
 let x5 : List TY := [] ++ [(12, pcOf c, 0, 6)] ++ [(5, u16.wrap ((spOf c) - 1), u8.wrap (shrI u16 (pcOf c) 8), 3)] ++ [(5, u16.wrap ((spOf c) - 2), u8.wrap (pcOf c), 3)]
 let x7 : QT9 := ((pcOf c), 0, 4)
 let x8 : List TY := [] ++ [(bif s == 5 then 8 else 1, x7)]
 let x10 := x3.2
 let x11 : List TY := [] ++ [(1, x7)]
 let x12 : List TY := bif x10.2.2.1 == 6 then x11 ++ [(2, Zc3 (c, s == 5, g, (12, x10), x11) 2, 0, 3)] else x11
 .br (!x4 || x2) (.br (x4) (.br (Ze s) (fin3 g x5) (.br (iN (List.length g) == 0) (fin3 g x8) (fin3 g x12))) (.leaf none)) (.leaf none)
theorem ZuE (a : HL Zh) : Zk (envX Tryz.prog (ZU 12) [] 1125900980585471 8) Tryz.f113 Zh Zy a = ZkS a.1 a.2.1 a.2.2 := by kernel_rfl
def ZkO (c : TC) (s : Int) (g : List Int) : RT (Option (TY × Bool)) :=
 let x1 : QT0 := (c, s == 5, g, (0, 0, 0, 0, 0, 0, 0, 0), [])
 let x2 := qAtC x1 0
 let x3 := !x2 || (Zc c.1 (qAt x1 0)).1 == 16
 let x4 : List TY := [] ++ [(12, pcOf c, 0, 6)] ++ [(5, u16.wrap ((spOf c) - 1), u8.wrap (shrI u16 (pcOf c) 8), 3)] ++ [(5, u16.wrap ((spOf c) - 2), u8.wrap (pcOf c), 3)]
 let x6 : QT9 := ((pcOf c), 0, 4)
 let x7 : List TY := [] ++ [(bif s == 5 then 8 else 1, x6)]
 let x9 : List TY := [] ++ [(1, x6)]
 .br (!x3 || x2) (.br (x3) (.br (Ze s) (fin3 g x4) (.br (iN (List.length g) == 0) (fin3 g x7) (fin3 g x9))) (.leaf none)) (.leaf none)
theorem ZuA (a : HL Zh) : Zk (envX Tryz.prog (ZU 16) [] 1125900980585471 8) Tryz.f113 Zh Zy a = ZkO a.1 a.2.1 a.2.2 := by kernel_rfl
def ZkK (c : TC) (s : Int) (g : List Int) : RT (Option (TY × Bool)) :=
 let x1 : QT0 := (c, s == 5, g, (0, 0, 0, 0, 0, 0, 0, 0), [])
 let x2 := qAtC x1 0
 let x3 := !x2 || (Zc c.1 (qAt x1 0)).1 == 20
 let x4 : List TY := [] ++ [(12, pcOf c, 0, 6)] ++ [(5, u16.wrap ((spOf c) - 1), u8.wrap (shrI u16 (pcOf c) 8), 3)] ++ [(5, u16.wrap ((spOf c) - 2), u8.wrap (pcOf c), 3)]
 let x6 : QT9 := ((pcOf c), 0, 4)
 let x7 : List TY := [] ++ [(bif s == 5 then 8 else 1, x6)]
 let x9 : List TY := [] ++ [(1, x6)]
 .br (!x3 || x2) (.br (x3) (.br (Ze s) (fin3 g x4) (.br (iN (List.length g) == 0) (fin3 g x7) (fin3 g x9))) (.leaf none)) (.leaf none)
theorem Zuw (a : HL Zh) : Zk (envX Tryz.prog (ZU 20) [] 1125900980585471 8) Tryz.f113 Zh Zy a = ZkK a.1 a.2.1 a.2.2 := by kernel_rfl
def ZkG (c : TC) (s : Int) (g : List Int) : RT (Option (TY × Bool)) :=
 let x1 : QT0 := (c, s == 5, g, (0, 0, 0, 0, 0, 0, 0, 0), [])
 let x2 := qAtC x1 0
 let x3 := Zc c.1 (qAt x1 0)
 let x4 := !x2 || x3.1 == 24
 let x5 : List TY := [] ++ [(12, pcOf c, 0, 6)] ++ [(5, u16.wrap ((spOf c) - 1), u8.wrap (shrI u16 (pcOf c) 8), 3)] ++ [(5, u16.wrap ((spOf c) - 2), u8.wrap (pcOf c), 3)]
 let x7 : QT9 := ((pcOf c), 0, 4)
 let x8 : List TY := [] ++ [(bif s == 5 then 8 else 1, x7)]
 let x10 : List TY := [] ++ [(1, x7)]
 let x11 : List TY := [(9, pcOf c, 0, 3)]
 let x12 : List TY := bif s == 5 then x10 ++ x11 else x10 ++ [(2, u16.wrap ((pcOf c) + u16.wrap 1), 0, 3)]
 let x13 : List TY := bif !Zfr (c, s == 5, g, (24, x3.2), x10) && c.1 == 2 then x12 else bif s == 5 then x12 ++ x11 else x12 ++ [(2, u16.wrap ((pcOf c) + u16.wrap (i64.wrap (1 + 1))), 0, 3)]
 .br (!x4 || x2) (.br (x4) (.br (Ze s) (fin3 g x5) (.br (iN (List.length g) == 0) (fin3 g x8) (fin3 g x13))) (.leaf none)) (.leaf none)
theorem Zus (a : HL Zh) : Zk (envX Tryz.prog (ZU 24) [] 1125900980585471 8) Tryz.f113 Zh Zy a = ZkG a.1 a.2.1 a.2.2 := by kernel_rfl
def ZkC (c : TC) (s : Int) (g : List Int) : RT (Option (TY × Bool)) :=
 let x1 : QT0 := (c, s == 5, g, (0, 0, 0, 0, 0, 0, 0, 0), [])
 let x2 := qAtC x1 0
 let x3 := !x2 || (Zc c.1 (qAt x1 0)).1 == 28
 let x4 : List TY := [] ++ [(12, pcOf c, 0, 6)] ++ [(5, u16.wrap ((spOf c) - 1), u8.wrap (shrI u16 (pcOf c) 8), 3)] ++ [(5, u16.wrap ((spOf c) - 2), u8.wrap (pcOf c), 3)]
 let x6 : QT9 := ((pcOf c), 0, 4)
 let x7 : List TY := [] ++ [(bif s == 5 then 8 else 1, x6)]
 let x9 : List TY := [] ++ [(1, x6)]
 .br (!x3 || x2) (.br (x3) (.br (Ze s) (fin3 g x4) (.br (iN (List.length g) == 0) (fin3 g x7) (fin3 g x9))) (.leaf none)) (.leaf none)
theorem Zuo (a : HL Zh) : Zk (envX Tryz.prog (ZU 28) [] 1125900980585471 8) Tryz.f113 Zh Zy a = ZkC a.1 a.2.1 a.2.2 := by kernel_rfl
def Zky (c : TC) (s : Int) (g : List Int) : RT (Option (TY × Bool)) :=
 let x1 : QT0 := (c, s == 5, g, (0, 0, 0, 0, 0, 0, 0, 0), [])
 let x2 := qAtC x1 0
 let x3 := !x2 || (Zc c.1 (qAt x1 0)).1 == 32
 let x4 : List TY := [] ++ [(12, pcOf c, 0, 6)] ++ [(5, u16.wrap ((spOf c) - 1), u8.wrap (shrI u16 (pcOf c) 8), 3)] ++ [(5, u16.wrap ((spOf c) - 2), u8.wrap (pcOf c), 3)]
 let x6 : QT9 := ((pcOf c), 0, 4)
 let x7 : List TY := [] ++ [(bif s == 5 then 8 else 1, x6)]
 let x9 := u16.wrap ((spOf c) + 1)
 let x10 : List TY := [] ++ [(1, x6)] ++ [(4, spOf c, 0, 3)] ++ [(4, x9, 0, 3)] ++ [(5, x9, c.2.1.2.2.2.2.2.1, 3)] ++ [(5, spOf c, c.2.1.2.2.2.2.2.2.1, 3)]
 let x11 := i64.wrap (iN (List.length x10) - 1)
 let x12 : Int × Int × Int × Int := R.get (RY) x10 x11
 let x13 := x12.2
 let x14 : List TY := bif c.1 != 2 then setI x10 x11 (x12.1, x13.1, x13.2.1, 5) else x10
 .br (!x3 || x2) (.br (x3) (.br (Ze s) (fin3 g x4) (.br (iN (List.length g) == 0) (fin3 g x7) (fin3 g x14))) (.leaf none)) (.leaf none)
theorem Zuk (a : HL Zh) : Zk (envX Tryz.prog (ZU 32) [] 1125900980585471 8) Tryz.f113 Zh Zy a = Zky a.1 a.2.1 a.2.2 := by kernel_rfl
def Zku (c : TC) (s : Int) (g : List Int) : RT (Option (TY × Bool)) :=
 let x1 : QT0 := (c, s == 5, g, (0, 0, 0, 0, 0, 0, 0, 0), [])
 let x2 := qAtC x1 0
 let x3 := !x2 || (Zc c.1 (qAt x1 0)).1 == 36
 let x4 : List TY := [] ++ [(12, pcOf c, 0, 6)] ++ [(5, u16.wrap ((spOf c) - 1), u8.wrap (shrI u16 (pcOf c) 8), 3)] ++ [(5, u16.wrap ((spOf c) - 2), u8.wrap (pcOf c), 3)]
 let x6 : QT9 := ((pcOf c), 0, 4)
 let x7 : List TY := [] ++ [(bif s == 5 then 8 else 1, x6)]
 let x9 : List TY := [] ++ [(1, x6)]
 .br (!x3 || x2) (.br (x3) (.br (Ze s) (fin3 g x4) (.br (iN (List.length g) == 0) (fin3 g x7) (fin3 g x9))) (.leaf none)) (.leaf none)
theorem Zug (a : HL Zh) : Zk (envX Tryz.prog (ZU 36) [] 1125900980585471 8) Tryz.f113 Zh Zy a = Zku a.1 a.2.1 a.2.2 := by kernel_rfl
def Zkq (c : TC) (s : Int) (g : List Int) : RT (Option (TY × Bool)) :=
 let x1 : QT0 := (c, s == 5, g, (0, 0, 0, 0, 0, 0, 0, 0), [])
 let x2 := qAtC x1 0
 let x3 := !x2 || (Zc c.1 (qAt x1 0)).1 == 40
 let x4 : List TY := [] ++ [(12, pcOf c, 0, 6)] ++ [(5, u16.wrap ((spOf c) - 1), u8.wrap (shrI u16 (pcOf c) 8), 3)] ++ [(5, u16.wrap ((spOf c) - 2), u8.wrap (pcOf c), 3)]
 let x6 : QT9 := ((pcOf c), 0, 4)
 let x7 : List TY := [] ++ [(bif s == 5 then 8 else 1, x6)]
 let x9 : List TY := [(11, pcOf c, 0, 3)]
 let x10 : List TY := [] ++ [(1, x6)] ++ x9 ++ x9
 .br (!x3 || x2) (.br (x3) (.br (Ze s) (fin3 g x4) (.br (iN (List.length g) == 0) (fin3 g x7) (fin3 g x10))) (.leaf none)) (.leaf none)
theorem Zuc (a : HL Zh) : Zk (envX Tryz.prog (ZU 40) [] 1125900980585471 8) Tryz.f113 Zh Zy a = Zkq a.1 a.2.1 a.2.2 := by kernel_rfl
def Zkm (c : TC) (s : Int) (g : List Int) : RT (Option (TY × Bool)) :=
 let x1 : QT0 := (c, s == 5, g, (0, 0, 0, 0, 0, 0, 0, 0), [])
 let x2 := qAtC x1 0
 let x3 := !x2 || (Zc c.1 (qAt x1 0)).1 == 44
 let x4 : List TY := [] ++ [(12, pcOf c, 0, 6)] ++ [(5, u16.wrap ((spOf c) - 1), u8.wrap (shrI u16 (pcOf c) 8), 3)] ++ [(5, u16.wrap ((spOf c) - 2), u8.wrap (pcOf c), 3)]
 let x6 : QT9 := ((pcOf c), 0, 4)
 let x7 : List TY := [] ++ [(bif s == 5 then 8 else 1, x6)]
 let x9 : List TY := [] ++ [(1, x6)]
 let x10 : QT9 := ((pcOf c), 0, 3)
 let x11 : List TY := (bif s == 5 then x9 ++ [(9, x10)] else x9 ++ [(2, u16.wrap ((pcOf c) + u16.wrap 1), 0, 3)]) ++ [(11, x10)]
 .br (!x3 || x2) (.br (x3) (.br (Ze s) (fin3 g x4) (.br (iN (List.length g) == 0) (fin3 g x7) (fin3 g x11))) (.leaf none)) (.leaf none)
theorem Zt8 (a : HL Zh) : Zk (envX Tryz.prog (ZU 44) [] 1125900980585471 8) Tryz.f113 Zh Zy a = Zkm a.1 a.2.1 a.2.2 := by kernel_rfl
def ZnT (c : TC) (s : Int) (g : List Int) : RT (Option (TY × Bool)) :=
 let x1 : List TY := [(12, pcOf c, 0, 6)] ++ [(5, u16.wrap ((spOf c) - 1), u8.wrap (shrI u16 (pcOf c) 8), 3)] ++ [(5, u16.wrap ((spOf c) - 2), u8.wrap (pcOf c), 3)]
 let x3 : List TY := [(bif s == 5 then 8 else 1, pcOf c, 0, 4)]
 .br (Za s || (!decide (iN (List.length g) > 0) || (!Zf 0 (List.length g) || (Zc c.1 (R.get (R.int u8) g 0)).1 == 1))) (.br (Za s || (!decide (iN (List.length g) > 0) || Zf 0 (List.length g))) (.br (Za s) (fin3 g x1) (fin3 g x3)) (.leaf none)) (.leaf none)
theorem ZyB (a : HL Zg) : Zk (envX Tryz.prog (ZT 1) [] 2047 8) Tryz.f42 Zg Zx a = ZnT a.1 a.2.1 a.2.2 := by kernel_rfl
def ZnP (c : TC) (s : Int) (g : List Int) : RT (Option (TY × Bool)) :=
 let x1 : List TY := [(bif s == 5 then 8 else 1, pcOf c, 0, 4)]
 let x2 : List TY := [(9, pcOf c, 0, 3)]
 let x3 : List TY := x1 ++ x2
 let x4 : List TY := [(2, u16.wrap ((pcOf c) + u16.wrap (i64.wrap (1 + 1))), 0, 3)]
 let x5 : List TY := bif s == 5 then x3 ++ x2 else x3 ++ x4
 let x6 : QT4 := (c, s == 5, g, x5)
 let x7 := !s == 5 || Zda x6 1
 let x8 : List TY := x1 ++ [(2, u16.wrap ((pcOf c) + u16.wrap 1), 0, 3)]
 let x9 : List TY := bif s == 5 then x8 ++ x2 else x8 ++ x4
 let x10 : QT4 := (c, s == 5, g, x9)
 let x11 : List TY := [(12, pcOf c, 0, 6)] ++ [(5, u16.wrap ((spOf c) - 1), u8.wrap (shrI u16 (pcOf c) 8), 3)] ++ [(5, u16.wrap ((spOf c) - 2), u8.wrap (pcOf c), 3)]
 let x13 : List TY := x5 ++ [(2, ZfM x6 1, 0, 3)]
 let x15 : List TY := x9 ++ [(2, ZfM x10 1, 0, 3)]
 .br (Za s || (!decide (iN (List.length g) > 0) || (!Zf 0 (List.length g) || (!(Zc c.1 (R.get (R.int u8) g 0)).1 == 5 || (!x7 || (s == 5 || Zda x10 1)))))) (.br (Za s || (!decide (iN (List.length g) > 0) || (!Zf 0 (List.length g) || (!(Zc c.1 (R.get (R.int u8) g 0)).1 == 5 || x7)))) (.br (Za s || (!decide (iN (List.length g) > 0) || (!Zf 0 (List.length g) || (Zc c.1 (R.get (R.int u8) g 0)).1 == 5))) (.br (Za s || (!decide (iN (List.length g) > 0) || Zf 0 (List.length g))) (.br (Za s) (fin3 g x11) (.br (decide (iN (List.length g) > 0)) (.br (s == 5) (fin3 g x13) (fin3 g x15)) (fin3 g x1))) (.leaf none)) (.leaf none)) (.leaf none)) (.leaf none)
theorem Zyx (a : HL Zg) : Zk (envX Tryz.prog (ZT 5) [] 2047 8) Tryz.f42 Zg Zx a = ZnP a.1 a.2.1 a.2.2 := by kernel_rfl
def ZnL (c : TC) (s : Int) (g : List Int) : RT (Option (TY × Bool)) :=
 let x1 : List TY := [(12, pcOf c, 0, 6)] ++ [(5, u16.wrap ((spOf c) - 1), u8.wrap (shrI u16 (pcOf c) 8), 3)] ++ [(5, u16.wrap ((spOf c) - 2), u8.wrap (pcOf c), 3)]
 let x3 : List TY := [(bif s == 5 then 8 else 1, pcOf c, 0, 4)]
 let x4 : List TY := x3 ++ [(2, ZaW c.2.1 (Zc c.1 (R.get (R.int u8) g 0)).2.2.2.2.1, 0, 3)]
 .br (Za s || (!decide (iN (List.length g) > 0) || (!Zf 0 (List.length g) || (Zc c.1 (R.get (R.int u8) g 0)).1 == 9))) (.br (Za s || (!decide (iN (List.length g) > 0) || Zf 0 (List.length g))) (.br (Za s) (fin3 g x1) (.br (decide (iN (List.length g) > 0)) (fin3 g x4) (fin3 g x3))) (.leaf none)) (.leaf none)
theorem Zyt (a : HL Zg) : Zk (envX Tryz.prog (ZT 9) [] 2047 8) Tryz.f42 Zg Zx a = ZnL a.1 a.2.1 a.2.2 := by kernel_rfl
def ZjO (c : TC) (s : Int) (g : List Int) : RT (Option (TY × Bool)) :=
 let x1 : List TY := [(12, pcOf c, 0, 6)] ++ [(5, u16.wrap ((spOf c) - 1), u8.wrap (shrI u16 (pcOf c) 8), 3)] ++ [(5, u16.wrap ((spOf c) - 2), u8.wrap (pcOf c), 3)]
 let x3 : List TY := [(bif s == 5 then 8 else 1, pcOf c, 0, 4)]
 let x4 : List TY := x3 ++ [(9, pcOf c, 0, 3)]
 let x6 : List TY := x3 ++ [(2, u16.wrap ((pcOf c) + u16.wrap 1), 0, 3)]
 .br (Za s || (!decide (iN (List.length g) > 0) || (!Zf 0 (List.length g) || (Zc c.1 (R.get (R.int u8) g 0)).1 == 13))) (.br (Za s || (!decide (iN (List.length g) > 0) || Zf 0 (List.length g))) (.br (Za s) (fin3 g x1) (.br (decide (iN (List.length g) > 0)) (.br (s == 5) (fin3 g x4) (fin3 g x6)) (fin3 g x3))) (.leaf none)) (.leaf none)
theorem Ztt (a : HL Zg) : Zk (envX Tryz.prog (ZT 13) [] 2047 8) Tryz.f42 Zg Zx a = ZjO a.1 a.2.1 a.2.2 := by kernel_rfl
def ZjK (c : TC) (s : Int) (g : List Int) : RT (Option (TY × Bool)) :=
 let x1 : List TY := [(12, pcOf c, 0, 6)] ++ [(5, u16.wrap ((spOf c) - 1), u8.wrap (shrI u16 (pcOf c) 8), 3)] ++ [(5, u16.wrap ((spOf c) - 2), u8.wrap (pcOf c), 3)]
 let x3 : List TY := [(bif s == 5 then 8 else 1, pcOf c, 0, 4)]
 .br (Za s || (!decide (iN (List.length g) > 0) || (!Zf 0 (List.length g) || (Zc c.1 (R.get (R.int u8) g 0)).1 == 17))) (.br (Za s || (!decide (iN (List.length g) > 0) || Zf 0 (List.length g))) (.br (Za s) (fin3 g x1) (fin3 g x3)) (.leaf none)) (.leaf none)
theorem Ztp (a : HL Zg) : Zk (envX Tryz.prog (ZT 17) [] 2047 8) Tryz.f42 Zg Zx a = ZjK a.1 a.2.1 a.2.2 := by kernel_rfl
def ZjG (c : TC) (s : Int) (g : List Int) : RT (Option (TY × Bool)) :=
 let x1 : List TY := [(12, pcOf c, 0, 6)] ++ [(5, u16.wrap ((spOf c) - 1), u8.wrap (shrI u16 (pcOf c) 8), 3)] ++ [(5, u16.wrap ((spOf c) - 2), u8.wrap (pcOf c), 3)]
 let x3 : List TY := [(bif s == 5 then 8 else 1, pcOf c, 0, 4)]
 .br (Za s || (!decide (iN (List.length g) > 0) || (!Zf 0 (List.length g) || (Zc c.1 (R.get (R.int u8) g 0)).1 == 21))) (.br (Za s || (!decide (iN (List.length g) > 0) || Zf 0 (List.length g))) (.br (Za s) (fin3 g x1) (fin3 g x3)) (.leaf none)) (.leaf none)
theorem Ztl (a : HL Zg) : Zk (envX Tryz.prog (ZT 21) [] 2047 8) Tryz.f42 Zg Zx a = ZjG a.1 a.2.1 a.2.2 := by kernel_rfl
def ZjC (c : TC) (s : Int) (g : List Int) : RT (Option (TY × Bool)) :=
 let x1 := u16.wrap ((spOf c) - 1)
 let x2 := u16.wrap ((spOf c) - 2)
 let x3 : List TY := [(12, pcOf c, 0, 6)] ++ [(5, x1, u8.wrap (shrI u16 (pcOf c) 8), 3)] ++ [(5, x2, u8.wrap (pcOf c), 3)]
 let x5 : List TY := [(bif s == 5 then 8 else 1, pcOf c, 0, 4)]
 let x6 : List TY := [(9, pcOf c, 0, 3)]
 let x7 : List TY := x5 ++ x6
 let x8 : QT4 := (c, s == 5, g, x7)
 let x9 := ZeL x8 (Zc c.1 (R.get (R.int u8) g 0)).2.1
 let x10 : List TY := bif Zfw x8 (25, (Zc c.1 (R.get (R.int u8) g 0)).2) then x7 ++ [(5, x1, u8.wrap (shrI u16 x9 8), 3)] ++ [(5, x2, u8.wrap x9, 3)] else x7
 let x12 : List TY := x5 ++ [(2, u16.wrap ((pcOf c) + u16.wrap 1), 0, 3)]
 let x13 : QT4 := (c, s == 5, g, x12)
 let x14 := ZeL x13 (Zc c.1 (R.get (R.int u8) g 0)).2.1
 let x15 : List TY := bif Zfw x13 (25, (Zc c.1 (R.get (R.int u8) g 0)).2) then x12 ++ [(5, x1, u8.wrap (shrI u16 x14 8), 3)] ++ [(5, x2, u8.wrap x14, 3)] else x12
 let x17 : List TY := [(2, u16.wrap ((pcOf c) + u16.wrap (i64.wrap (1 + 1))), 0, 3)]
 let x18 : List TY := bif s == 5 then x7 ++ x6 else x7 ++ x17
 let x19 : QT4 := (c, s == 5, g, x18)
 let x20 := ZeL x19 (Zc c.1 (R.get (R.int u8) g 0)).2.1
 let x21 : List TY := bif Zfw x19 (25, (Zc c.1 (R.get (R.int u8) g 0)).2) then x18 ++ [(5, x1, u8.wrap (shrI u16 x20 8), 3)] ++ [(5, x2, u8.wrap x20, 3)] else x18
 let x23 : List TY := bif s == 5 then x12 ++ x6 else x12 ++ x17
 let x24 : QT4 := (c, s == 5, g, x23)
 let x25 := ZeL x24 (Zc c.1 (R.get (R.int u8) g 0)).2.1
 let x26 : List TY := bif Zfw x24 (25, (Zc c.1 (R.get (R.int u8) g 0)).2) then x23 ++ [(5, x1, u8.wrap (shrI u16 x25 8), 3)] ++ [(5, x2, u8.wrap x25, 3)] else x23
 .br (Za s || (!decide (iN (List.length g) > 0) || (!Zf 0 (List.length g) || (Zc c.1 (R.get (R.int u8) g 0)).1 == 25))) (.br (Za s || (!decide (iN (List.length g) > 0) || Zf 0 (List.length g))) (.br (Za s) (fin3 g x3) (.br (decide (iN (List.length g) > 0)) (.br (rOn c.1 && !Zfw (c, s == 5, g, x5) (25, (Zc c.1 (R.get (R.int u8) g 0)).2)) (.br (s == 5) (fin3 g x10) (fin3 g x15)) (.br (s == 5) (fin3 g x21) (fin3 g x26))) (fin3 g x5))) (.leaf none)) (.leaf none)
theorem Zth (a : HL Zg) : Zk (envX Tryz.prog (ZT 25) [] 2047 8) Tryz.f42 Zg Zx a = ZjC a.1 a.2.1 a.2.2 := by kernel_rfl
def Zjy (c : TC) (s : Int) (g : List Int) : RT (Option (TY × Bool)) :=
 let x1 : List TY := [(12, pcOf c, 0, 6)] ++ [(5, u16.wrap ((spOf c) - 1), u8.wrap (shrI u16 (pcOf c) 8), 3)] ++ [(5, u16.wrap ((spOf c) - 2), u8.wrap (pcOf c), 3)]
 let x3 : List TY := [(bif s == 5 then 8 else 1, pcOf c, 0, 4)]
 .br (Za s || (!decide (iN (List.length g) > 0) || (!Zf 0 (List.length g) || (Zc c.1 (R.get (R.int u8) g 0)).1 == 29))) (.br (Za s || (!decide (iN (List.length g) > 0) || Zf 0 (List.length g))) (.br (Za s) (fin3 g x1) (fin3 g x3)) (.leaf none)) (.leaf none)
theorem Ztd (a : HL Zg) : Zk (envX Tryz.prog (ZT 29) [] 2047 8) Tryz.f42 Zg Zx a = Zjy a.1 a.2.1 a.2.2 := by kernel_rfl
def Zju (c : TC) (s : Int) (g : List Int) : RT (Option (TY × Bool)) :=
 let x1 : List TY := [(bif s == 5 then 8 else 1, pcOf c, 0, 4)]
 let x2 : List TY := x1 ++ [(9, pcOf c, 0, 3)]
 let x3 : QT4 := (c, s == 5, g, x2)
 let x4 := mAtC x3 1
 let x5 := !x4 || x4
 let x6 := !s == 5 || (!x5 || x4)
 let x7 := !x6
 let x8 := !s == 5 || x5
 let x9 := !x8
 let x10 : List TY := x1 ++ [(2, u16.wrap ((pcOf c) + u16.wrap 1), 0, 3)]
 let x11 : QT4 := (c, s == 5, g, x10)
 let x12 := mAtC x11 1
 let x13 := !x12 || x12
 let x14 := s == 5 || (!x13 || x12)
 let x15 : List TY := [(12, pcOf c, 0, 6)] ++ [(5, u16.wrap ((spOf c) - 1), u8.wrap (shrI u16 (pcOf c) 8), 3)] ++ [(5, u16.wrap ((spOf c) - 2), u8.wrap (pcOf c), 3)]
 let x17 := mAt x3 1
 let x18 : List TY := x2 ++ [(6, ZdC x17 x17, 0, 3)]
 let x20 := mAt x11 1
 let x21 : List TY := x10 ++ [(6, ZdC x20 x20, 0, 3)]
 .br (Za s || (!decide (iN (List.length g) > 0) || (!Zf 0 (List.length g) || (!(Zc c.1 (R.get (R.int u8) g 0)).1 == 33 || (x7 || (x9 || (!x14 || (s == 5 || x13)))))))) (.br (Za s || (!decide (iN (List.length g) > 0) || (!Zf 0 (List.length g) || (!(Zc c.1 (R.get (R.int u8) g 0)).1 == 33 || (x7 || (x9 || x14)))))) (.br (Za s || (!decide (iN (List.length g) > 0) || (!Zf 0 (List.length g) || (!(Zc c.1 (R.get (R.int u8) g 0)).1 == 33 || (x7 || x8))))) (.br (Za s || (!decide (iN (List.length g) > 0) || (!Zf 0 (List.length g) || (!(Zc c.1 (R.get (R.int u8) g 0)).1 == 33 || x6)))) (.br (Za s || (!decide (iN (List.length g) > 0) || (!Zf 0 (List.length g) || (Zc c.1 (R.get (R.int u8) g 0)).1 == 33))) (.br (Za s || (!decide (iN (List.length g) > 0) || Zf 0 (List.length g))) (.br (Za s) (fin3 g x15) (.br (decide (iN (List.length g) > 0)) (.br (s == 5) (fin3 g x18) (fin3 g x21)) (fin3 g x1))) (.leaf none)) (.leaf none)) (.leaf none)) (.leaf none)) (.leaf none)) (.leaf none)
theorem Zs9 (a : HL Zg) : Zk (envX Tryz.prog (ZT 33) [] 2047 8) Tryz.f42 Zg Zx a = Zju a.1 a.2.1 a.2.2 := by kernel_rfl
def Zjq (c : TC) (s : Int) (g : List Int) : RT (Option (TY × Bool)) :=
 let x1 : List TY := [(12, pcOf c, 0, 6)] ++ [(5, u16.wrap ((spOf c) - 1), u8.wrap (shrI u16 (pcOf c) 8), 3)] ++ [(5, u16.wrap ((spOf c) - 2), u8.wrap (pcOf c), 3)]
 let x3 : List TY := [(bif s == 5 then 8 else 1, pcOf c, 0, 4)]
 let x4 : List TY := x3 ++ [(10, pcOf c, 0, 3)]
 let x6 : Nat := List.length x3
 let x7 := decide (iN (List.length g) ≥ iN x6)
 let x8 := Zf (iN (List.length g)) x6
 let x9 : TY × Bool := (R.get (RY) x3 (iN (List.length g)), true)
 .br (Za s || (!decide (iN (List.length g) > 0) || (!Zf 0 (List.length g) || (Zc c.1 (R.get (R.int u8) g 0)).1 == 37))) (.br (Za s || (!decide (iN (List.length g) > 0) || Zf 0 (List.length g))) (.br (Za s) (fin3 g x1) (.br (decide (iN (List.length g) > 0)) (.br (!rOn c.1) (fin3 g x4) (.br (x7) (.leaf (some (((0, 0, 0, 0), false)))) (.br (x8) (.leaf (some (x9))) (.leaf none)))) (.br (x7) (.leaf (some (((0, 0, 0, 0), false)))) (.br (x8) (.leaf (some (x9))) (.leaf none))))) (.leaf none)) (.leaf none)
theorem Zs5 (a : HL Zg) : Zk (envX Tryz.prog (ZT 37) [] 2047 8) Tryz.f42 Zg Zx a = Zjq a.1 a.2.1 a.2.2 := by kernel_rfl
def Zjm (c : TC) (s : Int) (g : List Int) : RT (Option (TY × Bool)) :=
 let x1 : List TY := [(12, pcOf c, 0, 6)] ++ [(5, u16.wrap ((spOf c) - 1), u8.wrap (shrI u16 (pcOf c) 8), 3)] ++ [(5, u16.wrap ((spOf c) - 2), u8.wrap (pcOf c), 3)]
 let x3 : List TY := [(bif s == 5 then 8 else 1, pcOf c, 0, 4)]
 let x4 : List TY := x3 ++ [(11, pcOf c, 0, 3)]
 .br (Za s || (!decide (iN (List.length g) > 0) || (!Zf 0 (List.length g) || (Zc c.1 (R.get (R.int u8) g 0)).1 == 41))) (.br (Za s || (!decide (iN (List.length g) > 0) || Zf 0 (List.length g))) (.br (Za s) (fin3 g x1) (.br (decide (iN (List.length g) > 0)) (fin3 g x4) (fin3 g x3))) (.leaf none)) (.leaf none)
theorem Zs1 (a : HL Zg) : Zk (envX Tryz.prog (ZT 41) [] 2047 8) Tryz.f42 Zg Zx a = Zjm a.1 a.2.1 a.2.2 := by kernel_rfl
def Zji (c : TC) (s : Int) (g : List Int) : RT (Option (TY × Bool)) :=
 let x1 := u16.wrap ((spOf c) - 1)
 let x2 := u16.wrap ((spOf c) - 2)
 let x3 : List TY := [(12, pcOf c, 0, 6)] ++ [(5, x1, u8.wrap (shrI u16 (pcOf c) 8), 3)] ++ [(5, x2, u8.wrap (pcOf c), 3)]
 let x5 : List TY := [(bif s == 5 then 8 else 1, pcOf c, 0, 4)]
 let x6 : QT4 := (c, s == 5, g, x5)
 let x7 := ZeL x6 (Zc c.1 (R.get (R.int u8) g 0)).2.1
 let x8 : List TY := x5 ++ [(5, x1, u8.wrap (shrI u16 x7 8), 3)] ++ [(5, x2, u8.wrap x7, 3)]
 let x10 : Nat := List.length x5
 let x11 := decide (iN (List.length g) ≥ iN x10)
 let x12 := Zf (iN (List.length g)) x10
 let x13 : TY × Bool := (R.get (RY) x5 (iN (List.length g)), true)
 .br (Za s || (!decide (iN (List.length g) > 0) || (!Zf 0 (List.length g) || (Zc c.1 (R.get (R.int u8) g 0)).1 == 45))) (.br (Za s || (!decide (iN (List.length g) > 0) || Zf 0 (List.length g))) (.br (Za s) (fin3 g x3) (.br (decide (iN (List.length g) > 0)) (.br (Zfw x6 (45, (Zc c.1 (R.get (R.int u8) g 0)).2)) (fin3 g x8) (.br (x11) (.leaf (some (((0, 0, 0, 0), false)))) (.br (x12) (.leaf (some (x13))) (.leaf none)))) (.br (x11) (.leaf (some (((0, 0, 0, 0), false)))) (.br (x12) (.leaf (some (x13))) (.leaf none))))) (.leaf none)) (.leaf none)
theorem ZsX (a : HL Zg) : Zk (envX Tryz.prog (ZT 45) [] 2047 8) Tryz.f42 Zg Zx a = Zji a.1 a.2.1 a.2.2 := by kernel_rfl
theorem nx_2 (c) (s : Int) (g : List Int) (n : Int) (hk : (Zc c.1 (g.getD 0 0)).1 = n) : (n = 4 → (Zox c s g).val = some (Zi c s g)) ∧ (n = 8 → (Zot c s g).val = some (Zi c s g)) ∧ (n = 13 → (ZkR c s g).val = some (Zi c s g)) ∧ (n = 19 → (ZkL c s g).val = some (Zi c s g)) ∧ (n = 23 → (ZkH c s g).val = some (Zi c s g)) ∧ (n = 31 → (Zkz c s g).val = some (Zi c s g)) ∧ (n = 36 → (Zku c s g).val = some (Zi c s g)) ∧ (n = 41 → (Zkp c s g).val = some (Zi c s g)) ∧ (n = 46 → (Zkk c s g).val = some (Zi c s g)) ∧ (n = 4 → (ZnQ c s g).val = some (Zi c s g)) ∧ (n = 8 → (ZnM c s g).val = some (Zi c s g)) ∧ (n = 13 → (ZjO c s g).val = some (Zi c s g)) ∧ (n = 19 → (ZjI c s g).val = some (Zi c s g)) ∧ (n = 23 → (ZjE c s g).val = some (Zi c s g)) ∧ (n = 31 → (Zjw c s g).val = some (Zi c s g)) ∧ (n = 36 → (Zjr c s g).val = some (Zi c s g)) ∧ (n = 41 → (Zjm c s g).val = some (Zi c s g)) ∧ (n = 46 → (Zjh c s g).val = some (Zi c s g)) := by
 refine ⟨?_, ?_, ?_, ?_, ?_, ?_, ?_, ?_, ?_, ?_, ?_, ?_, ?_, ?_, ?_, ?_, ?_, ?_⟩
 all_goals intro e; subst e
 all_goals simp only [Zox, Zot, ZkR, ZkL, ZkH, Zkz, Zku, Zkp, Zkk, ZnQ, ZnM, ZjO, ZjI, ZjE, Zjw, Zjr, Zjm, Zjh, RT.val, fin3, pk]
 all_goals simp only [qat0, mat0, qat1, mat1, rg0, hk, ZG, Zac, ZaF, Z0, Z1, ZP, ZQ, Zbx, Zbz, Zay, ZE, Zby, Zi, Zgm, ZR, ZaS]
 all_goals generalize Za s = bi
 all_goals generalize (s == 5) = bs
 all_goals cases g with
 | nil => cases bi <;> cases bs <;> simp [Zlt, Zbc, pcOf, spOf, ZbI]
 | cons o t =>
  simp only [List.getD_cons_zero] at hk
  simp only [len0, List.getD_cons_zero, ZgW, hk, ZbK, ZaS, ZR, Zef, bne]
  generalize Zc c.1 o = i at hk ⊢
  cases bi <;> cases bs <;> simp [Zbd, ZbI, popX, pcOf, spOf, opC, Zf4, Zdk, Zbr, ZfP, ZcH, setI, R.get]
theorem nx_4 (c) (s : Int) (g : List Int) (n : Int) (hk : (Zc c.1 (g.getD 0 0)).1 = n) : (n = 6 → (Zov c s g).val = some (Zi c s g)) ∧ (n = 10 → (ZkU c s g).val = some (Zi c s g)) ∧ (n = 17 → (ZkN c s g).val = some (Zi c s g)) ∧ (n = 21 → (ZkJ c s g).val = some (Zi c s g)) ∧ (n = 28 → (ZkC c s g).val = some (Zi c s g)) ∧ (n = 34 → (Zkw c s g).val = some (Zi c s g)) ∧ (n = 39 → (Zkr c s g).val = some (Zi c s g)) ∧ (n = 43 → (Zkn c s g).val = some (Zi c s g)) ∧ (n = 6 → (ZnO c s g).val = some (Zi c s g)) ∧ (n = 10 → (ZjR c s g).val = some (Zi c s g)) ∧ (n = 17 → (ZjK c s g).val = some (Zi c s g)) ∧ (n = 21 → (ZjG c s g).val = some (Zi c s g)) ∧ (n = 28 → (Zjz c s g).val = some (Zi c s g)) ∧ (n = 34 → (Zjt c s g).val = some (Zi c s g)) ∧ (n = 39 → (Zjo c s g).val = some (Zi c s g)) ∧ (n = 43 → (Zjk c s g).val = some (Zi c s g)) := by
 refine ⟨?_, ?_, ?_, ?_, ?_, ?_, ?_, ?_, ?_, ?_, ?_, ?_, ?_, ?_, ?_, ?_⟩
 all_goals intro e; subst e
 all_goals simp only [Zov, ZkU, ZkN, ZkJ, ZkC, Zkw, Zkr, Zkn, ZnO, ZjR, ZjK, ZjG, Zjz, Zjt, Zjo, Zjk, RT.val, fin3, pk]
 all_goals simp only [qat0, mat0, qat1, mat1, rg0, hk, ZG, Zac, ZaF, Z0, Z1, ZP, ZQ, Zbx, Zbz, Zay, ZE, Zby, Zi, Zgm, ZR, ZaS]
 all_goals generalize Za s = bi
 all_goals generalize (s == 5) = bs
 all_goals cases g with
 | nil => cases bi <;> cases bs <;> simp [Zlt, Zbc, pcOf, spOf, ZbI]
 | cons o t =>
  simp only [List.getD_cons_zero] at hk
  simp only [len0, List.getD_cons_zero, ZgW, hk, ZbK, ZaS, ZR, Zef, bne]
  generalize Zc c.1 o = i at hk ⊢
  cases bi <;> cases bs <;> simp [Zbd, ZbI, popX, pcOf, spOf, opC, Zf4, Zdk, Zbr, ZfP, ZcH, setI, R.get]
theorem nx_6 (c) (s : Int) (g : List Int) (n : Int) (hk : (Zc c.1 (g.getD 0 0)).1 = n) : (n = 3 → (Zoy c s g).val = some (Zi c s g)) ∧ (n = 14 → (ZkQ c s g).val = some (Zi c s g)) ∧ (n = 15 → (ZkP c s g).val = some (Zi c s g)) ∧ (n = 3 → (ZnR c s g).val = some (Zi c s g)) ∧ (n = 14 → (ZjN c s g).val = some (Zi c s g)) ∧ (n = 15 → (ZjM c s g).val = some (Zi c s g)) := by
 refine ⟨?_, ?_, ?_, ?_, ?_, ?_⟩
 all_goals intro e; subst e
 all_goals simp only [Zoy, ZkQ, ZkP, ZnR, ZjN, ZjM, RT.val, fin3, pk]
 all_goals simp only [qat0, mat0, qat1, mat1, rg0, hk, ZG, Zac, ZaF, Z0, Z1, ZP, ZQ, Zbx, Zbz, Zay, ZE, Zby, Zi, Zgm, ZR, ZaS]
 all_goals generalize Za s = bi
 all_goals generalize (s == 5) = bs
 all_goals cases g with
 | nil => cases bi <;> cases bs <;> simp [Zlt, Zbc, pcOf, spOf, ZbI]
 | cons o t =>
  simp only [List.getD_cons_zero] at hk
  simp only [len0, List.getD_cons_zero, ZgW, hk, ZbK, ZaS, ZR, Zef, bne]
  generalize Zc c.1 o = i at hk ⊢
  generalize (i.2.2.1 == 6) = b0
  cases b0 <;> cases bi <;> cases bs <;> simp [Zbd, ZbI, popX, pcOf, spOf, opC, Zf4, Zdk, Zbr, ZfP, ZcH, setI, R.get]
theorem nx_8 (c) (s : Int) (g : List Int) (n : Int) (hk : (Zc c.1 (g.getD 0 0)).1 = n) : (n = 24 → (ZkG c s g).val = some (Zi c s g)) ∧ (n = 25 → (ZkF c s g).val = some (Zi c s g)) ∧ (n = 24 → (ZjD c s g).val = some (Zi c s g)) ∧ (n = 25 → (ZjC c s g).val = some (Zi c s g)) := by
 refine ⟨?_, ?_, ?_, ?_⟩
 all_goals intro e; subst e
 all_goals simp only [ZkG, ZkF, ZjD, ZjC, RT.val, fin3, pk]
 all_goals simp only [qat0, mat0, qat1, mat1, rg0, hk, ZG, Zac, ZaF, Z0, Z1, ZP, ZQ, Zbx, Zbz, Zay, ZE, Zby, Zi, Zgm, ZR, ZaS]
 all_goals generalize Za s = bi
 all_goals generalize (s == 5) = bs
 all_goals cases g with
 | nil => cases bi <;> cases bs <;> simp [Zlt, Zbc, pcOf, spOf, ZbI]
 | cons o t =>
  simp only [List.getD_cons_zero] at hk
  simp only [len0, List.getD_cons_zero, ZgW, hk, ZbK, ZaS, ZR, Zef, bne]
  generalize Zc c.1 o = i at hk ⊢
  generalize ZdD _ _ = b0
  generalize (c.1 == 2) = b1
  cases b0 <;> cases b1 <;> cases bi <;> cases bs <;> simp [Zbd, ZbI, popX, pcOf, spOf, opC, Zf4, Zdk, Zbr, ZfP, ZcH, setI, R.get]
theorem ZMh (c) (s : Int) (g : List Int) (n : Int) (hk : (Zc c.1 (g.getD 0 0)).1 = n) : (n = 30 → (ZkA c s g).val = some (Zi c s g)) ∧ (n = 30 → (Zjx c s g).val = some (Zi c s g)) := by
 refine ⟨?_, ?_⟩
 all_goals intro e; subst e
 all_goals simp only [ZkA, Zjx, RT.val, fin3, pk]
 all_goals simp only [qat0, mat0, qat1, mat1, rg0, hk, ZG, Zac, ZaF, Z0, Z1, ZP, ZQ, Zbx, Zbz, Zay, ZE, Zby, Zi, Zgm, ZR, ZaS]
 all_goals generalize Za s = bi
 all_goals generalize (s == 5) = bs
 all_goals cases g with
 | nil => cases bi <;> cases bs <;> simp [Zlt, Zbc, pcOf, spOf, ZbI]
 | cons o t =>
  simp only [List.getD_cons_zero] at hk
  simp only [len0, List.getD_cons_zero, ZgW, hk, ZbK, ZaS, ZR, Zef, bne]
  generalize Zc c.1 o = i at hk ⊢
  generalize (i.2.2.2.2.1 == 3) = b0
  cases b0 <;> cases bi <;> cases bs <;> simp [Zbd, ZbI, popX, pcOf, spOf, opC, Zf4, Zdk, Zbr, ZfP, ZcH, setI, R.get]
theorem nx_1 (c) (s : Int) (g : List Int) (n : Int) (hk : (Zc c.1 (g.getD 0 0)).1 = n) : (n = 1 → (ZoA c s g).val = some (Zi c s g)) ∧ (n = 7 → (Zou c s g).val = some (Zi c s g)) ∧ (n = 11 → (ZkT c s g).val = some (Zi c s g)) ∧ (n = 18 → (ZkM c s g).val = some (Zi c s g)) ∧ (n = 22 → (ZkI c s g).val = some (Zi c s g)) ∧ (n = 29 → (ZkB c s g).val = some (Zi c s g)) ∧ (n = 35 → (Zkv c s g).val = some (Zi c s g)) ∧ (n = 40 → (Zkq c s g).val = some (Zi c s g)) ∧ (n = 44 → (Zkm c s g).val = some (Zi c s g)) ∧ (n = 1 → (ZnT c s g).val = some (Zi c s g)) ∧ (n = 7 → (ZnN c s g).val = some (Zi c s g)) ∧ (n = 11 → (ZjQ c s g).val = some (Zi c s g)) ∧ (n = 18 → (ZjJ c s g).val = some (Zi c s g)) ∧ (n = 22 → (ZjF c s g).val = some (Zi c s g)) ∧ (n = 29 → (Zjy c s g).val = some (Zi c s g)) ∧ (n = 35 → (Zjs c s g).val = some (Zi c s g)) ∧ (n = 40 → (Zjn c s g).val = some (Zi c s g)) ∧ (n = 44 → (Zjj c s g).val = some (Zi c s g)) := by
 refine ⟨?_, ?_, ?_, ?_, ?_, ?_, ?_, ?_, ?_, ?_, ?_, ?_, ?_, ?_, ?_, ?_, ?_, ?_⟩
 all_goals intro e; subst e
 all_goals simp only [ZoA, Zou, ZkT, ZkM, ZkI, ZkB, Zkv, Zkq, Zkm, ZnT, ZnN, ZjQ, ZjJ, ZjF, Zjy, Zjs, Zjn, Zjj, RT.val, fin3, pk]
 all_goals simp only [qat0, mat0, qat1, mat1, rg0, hk, ZG, Zac, ZaF, Z0, Z1, ZP, ZQ, Zbx, Zbz, Zay, ZE, Zby, Zi, Zgm, ZR, ZaS]
 all_goals generalize Za s = bi
 all_goals generalize (s == 5) = bs
 all_goals cases g with
 | nil => cases bi <;> cases bs <;> simp [Zlt, Zbc, pcOf, spOf, ZbI]
 | cons o t =>
  simp only [List.getD_cons_zero] at hk
  simp only [len0, List.getD_cons_zero, ZgW, hk, ZbK, ZaS, ZR, Zef, bne]
  generalize Zc c.1 o = i at hk ⊢
  cases bi <;> cases bs <;> simp [Zbd, ZbI, popX, pcOf, spOf, opC, Zf4, Zdk, Zbr, ZfP, ZcH, setI, R.get]
theorem nx_3 (c) (s : Int) (g : List Int) (n : Int) (hk : (Zc c.1 (g.getD 0 0)).1 = n) : (n = 5 → (Zow c s g).val = some (Zi c s g)) ∧ (n = 9 → (Zos c s g).val = some (Zi c s g)) ∧ (n = 16 → (ZkO c s g).val = some (Zi c s g)) ∧ (n = 20 → (ZkK c s g).val = some (Zi c s g)) ∧ (n = 27 → (ZkD c s g).val = some (Zi c s g)) ∧ (n = 33 → (Zkx c s g).val = some (Zi c s g)) ∧ (n = 38 → (Zks c s g).val = some (Zi c s g)) ∧ (n = 42 → (Zko c s g).val = some (Zi c s g)) ∧ (n = 47 → (Zkj c s g).val = some (Zi c s g)) ∧ (n = 5 → (ZnP c s g).val = some (Zi c s g)) ∧ (n = 9 → (ZnL c s g).val = some (Zi c s g)) ∧ (n = 16 → (ZjL c s g).val = some (Zi c s g)) ∧ (n = 20 → (ZjH c s g).val = some (Zi c s g)) ∧ (n = 27 → (ZjA c s g).val = some (Zi c s g)) ∧ (n = 33 → (Zju c s g).val = some (Zi c s g)) ∧ (n = 38 → (Zjp c s g).val = some (Zi c s g)) ∧ (n = 42 → (Zjl c s g).val = some (Zi c s g)) ∧ (n = 47 → (Zjg c s g).val = some (Zi c s g)) := by
 refine ⟨?_, ?_, ?_, ?_, ?_, ?_, ?_, ?_, ?_, ?_, ?_, ?_, ?_, ?_, ?_, ?_, ?_, ?_⟩
 all_goals intro e; subst e
 all_goals simp only [Zow, Zos, ZkO, ZkK, ZkD, Zkx, Zks, Zko, Zkj, ZnP, ZnL, ZjL, ZjH, ZjA, Zju, Zjp, Zjl, Zjg, RT.val, fin3, pk]
 all_goals simp only [qat0, mat0, qat1, mat1, rg0, hk, ZG, Zac, ZaF, Z0, Z1, ZP, ZQ, Zbx, Zbz, Zay, ZE, Zby, Zi, Zgm, ZR, ZaS]
 all_goals generalize Za s = bi
 all_goals generalize (s == 5) = bs
 all_goals cases g with
 | nil => cases bi <;> cases bs <;> simp [Zlt, Zbc, pcOf, spOf, ZbI]
 | cons o t =>
  simp only [List.getD_cons_zero] at hk
  simp only [len0, List.getD_cons_zero, ZgW, hk, ZbK, ZaS, ZR, Zef, bne]
  generalize Zc c.1 o = i at hk ⊢
  cases bi <;> cases bs <;> simp [Zbd, ZbI, popX, pcOf, spOf, opC, Zf4, Zdk, Zbr, ZfP, ZcH, setI, R.get]
theorem nx_5 (c) (s : Int) (g : List Int) (n : Int) (hk : (Zc c.1 (g.getD 0 0)).1 = n) : (n = 2 → (Zoz c s g).val = some (Zi c s g)) ∧ (n = 2 → (ZnS c s g).val = some (Zi c s g)) := by
 refine ⟨?_, ?_⟩
 all_goals intro e; subst e
 all_goals simp only [Zoz, ZnS, RT.val, fin3, pk]
 all_goals simp only [qat0, mat0, qat1, mat1, rg0, hk, ZG, Zac, ZaF, Z0, Z1, ZP, ZQ, Zbx, Zbz, Zay, ZE, Zby, Zi, Zgm, ZR, ZaS]
 all_goals generalize Za s = bi
 all_goals generalize (s == 5) = bs
 all_goals cases g with
 | nil => cases bi <;> cases bs <;> simp [Zlt, Zbc, pcOf, spOf, ZbI]
 | cons o t =>
  simp only [List.getD_cons_zero] at hk
  simp only [len0, List.getD_cons_zero, ZgW, hk, ZbK, ZaS, ZR, Zef, bne]
  generalize Zc c.1 o = i at hk ⊢
  generalize (i.2.2.2.1 == 6) = b0
  generalize (i.2.2.1 == 6) = b1
  cases b0 <;> cases b1 <;> cases bi <;> cases bs <;> simp [Zbd, ZbI, popX, pcOf, spOf, opC, Zf4, Zdk, Zbr, ZfP, ZcH, setI, R.get]
theorem nx_7 (c) (s : Int) (g : List Int) (n : Int) (hk : (Zc c.1 (g.getD 0 0)).1 = n) : (n = 12 → (ZkS c s g).val = some (Zi c s g)) ∧ (n = 12 → (ZjP c s g).val = some (Zi c s g)) := by
 refine ⟨?_, ?_⟩
 all_goals intro e; subst e
 all_goals simp only [ZkS, ZjP, RT.val, fin3, pk]
 all_goals simp only [qat0, mat0, qat1, mat1, rg0, hk, ZG, Zac, ZaF, Z0, Z1, ZP, ZQ, Zbx, Zbz, Zay, ZE, Zby, Zi, Zgm, ZR, ZaS]
 all_goals generalize Za s = bi
 all_goals generalize (s == 5) = bs
 all_goals cases g with
 | nil => cases bi <;> cases bs <;> simp [Zlt, Zbc, pcOf, spOf, ZbI]
 | cons o t =>
  simp only [List.getD_cons_zero] at hk
  simp only [len0, List.getD_cons_zero, ZgW, hk, ZbK, ZaS, ZR, Zef, bne]
  generalize Zc c.1 o = i at hk ⊢
  generalize (i.2.2.2.1 == 6) = b0
  cases b0 <;> cases bi <;> cases bs <;> simp [Zbd, ZbI, popX, pcOf, spOf, opC, Zf4, Zdk, Zbr, ZfP, ZcH, setI, R.get]
theorem nx_9 (c) (s : Int) (g : List Int) (n : Int) (hk : (Zc c.1 (g.getD 0 0)).1 = n) : (n = 26 → (ZkE c s g).val = some (Zi c s g)) ∧ (n = 45 → (Zkl c s g).val = some (Zi c s g)) ∧ (n = 26 → (ZjB c s g).val = some (Zi c s g)) ∧ (n = 45 → (Zji c s g).val = some (Zi c s g)) := by
 refine ⟨?_, ?_, ?_, ?_⟩
 all_goals intro e; subst e
 all_goals simp only [ZkE, Zkl, ZjB, Zji, RT.val, fin3, pk]
 all_goals simp only [qat0, mat0, qat1, mat1, rg0, hk, ZG, Zac, ZaF, Z0, Z1, ZP, ZQ, Zbx, Zbz, Zay, ZE, Zby, Zi, Zgm, ZR, ZaS]
 all_goals generalize Za s = bi
 all_goals generalize (s == 5) = bs
 all_goals cases g with
 | nil => cases bi <;> cases bs <;> simp [Zlt, Zbc, pcOf, spOf, ZbI]
 | cons o t =>
  simp only [List.getD_cons_zero] at hk
  simp only [len0, List.getD_cons_zero, ZgW, hk, ZbK, ZaS, ZR, Zef, bne]
  generalize Zc c.1 o = i at hk ⊢
  generalize ZdD _ _ = b0
  cases b0 <;> cases bi <;> cases bs <;> simp [Zbd, ZbI, popX, pcOf, spOf, opC, Zf4, Zdk, Zbr, ZfP, ZcH, setI, R.get]
theorem ZG0 (c) (s : Int) (g : List Int) (n : Int) (hk : (Zc c.1 (g.getD 0 0)).1 = n) : (n = 32 → (Zky c s g).val = some (Zi c s g)) ∧ (n = 37 → (Zkt c s g).val = some (Zi c s g)) ∧ (n = 32 → (Zjv c s g).val = some (Zi c s g)) ∧ (n = 37 → (Zjq c s g).val = some (Zi c s g)) := by
 refine ⟨?_, ?_, ?_, ?_⟩
 all_goals intro e; subst e
 all_goals simp only [Zky, Zkt, Zjv, Zjq, RT.val, fin3, pk]
 all_goals simp only [qat0, mat0, qat1, mat1, rg0, hk, ZG, Zac, ZaF, Z0, Z1, ZP, ZQ, Zbx, Zbz, Zay, ZE, Zby, Zi, Zgm, ZR, ZaS]
 all_goals generalize Za s = bi
 all_goals generalize (s == 5) = bs
 all_goals cases g with
 | nil => cases bi <;> cases bs <;> simp [Zlt, Zbc, pcOf, spOf, ZbI]
 | cons o t =>
  simp only [List.getD_cons_zero] at hk
  simp only [len0, List.getD_cons_zero, ZgW, hk, ZbK, ZaS, ZR, Zef, bne]
  generalize Zc c.1 o = i at hk ⊢
  generalize (c.1 == 2) = b0
  cases b0 <;> cases bi <;> cases bs <;> simp [Zbd, ZbI, popX, pcOf, spOf, opC, Zf4, Zdk, Zbr, ZfP, ZcH, setI, R.get]
theorem ZGH (a : HL Zh) (h : okHL Zh a) : ∃ l, ZcS Tryz.prog l ∧ (Zk (envX Tryz.prog l [] 1125900980585471 8) Tryz.f113 Zh Zy a).val = some (Zi a.1 a.2.1 a.2.2) := by
 have hk := ZvB a.1.1 _ (ZvJ h.2.2)
 refine ⟨ZU (Zc a.1.1 (a.2.2.getD 0 0)).1, ZC3 _, ?_⟩
 rcases ZvA hk.1 hk.2 with e | e | e | e | e | e | e | e | e | e | e | e | e | e | e | e | e | e | e | e | e | e | e | e | e | e | e | e | e | e | e | e | e | e | e | e | e | e | e | e | e | e | e | e | e | e | e
 ·rw [e, Zy5 a, ((nx_1 a.1 a.2.1 a.2.2 _ e).1 rfl)]
 ·rw [e, Zy4 a, ((nx_5 a.1 a.2.1 a.2.2 _ e).1 rfl)]
 ·rw [e, Zy3 a, ((nx_6 a.1 a.2.1 a.2.2 _ e).1 rfl)]
 ·rw [e, Zy2 a, ((nx_2 a.1 a.2.1 a.2.2 _ e).1 rfl)]
 ·rw [e, Zy1 a, ((nx_3 a.1 a.2.1 a.2.2 _ e).1 rfl)]
 ·rw [e, Zy0 a, ((nx_4 a.1 a.2.1 a.2.2 _ e).1 rfl)]
 ·rw [e, ZyZ a, ((nx_1 a.1 a.2.1 a.2.2 _ e).2.1 rfl)]
 ·rw [e, ZyY a, ((nx_2 a.1 a.2.1 a.2.2 _ e).2.1 rfl)]
 ·rw [e, ZyX a, ((nx_3 a.1 a.2.1 a.2.2 _ e).2.1 rfl)]
 ·rw [e, ZuG a, ((nx_4 a.1 a.2.1 a.2.2 _ e).2.1 rfl)]
 ·rw [e, ZuF a, ((nx_1 a.1 a.2.1 a.2.2 _ e).2.2.1 rfl)]
 ·rw [e, ZuE a, ((nx_7 a.1 a.2.1 a.2.2 _ e).1 rfl)]
 ·rw [e, ZuD a, ((nx_2 a.1 a.2.1 a.2.2 _ e).2.2.1 rfl)]
 ·rw [e, ZuC a, ((nx_6 a.1 a.2.1 a.2.2 _ e).2.1 rfl)]
 ·rw [e, ZuB a, ((nx_6 a.1 a.2.1 a.2.2 _ e).2.2.1 rfl)]
 ·rw [e, ZuA a, ((nx_3 a.1 a.2.1 a.2.2 _ e).2.2.1 rfl)]
 ·rw [e, Zuz a, ((nx_4 a.1 a.2.1 a.2.2 _ e).2.2.1 rfl)]
 ·rw [e, Zuy a, ((nx_1 a.1 a.2.1 a.2.2 _ e).2.2.2.1 rfl)]
 ·rw [e, Zux a, ((nx_2 a.1 a.2.1 a.2.2 _ e).2.2.2.1 rfl)]
 ·rw [e, Zuw a, ((nx_3 a.1 a.2.1 a.2.2 _ e).2.2.2.1 rfl)]
 ·rw [e, Zuv a, ((nx_4 a.1 a.2.1 a.2.2 _ e).2.2.2.1 rfl)]
 ·rw [e, Zuu a, ((nx_1 a.1 a.2.1 a.2.2 _ e).2.2.2.2.1 rfl)]
 ·rw [e, Zut a, ((nx_2 a.1 a.2.1 a.2.2 _ e).2.2.2.2.1 rfl)]
 ·rw [e, Zus a, ((nx_8 a.1 a.2.1 a.2.2 _ e).1 rfl)]
 ·rw [e, Zur a, ((nx_8 a.1 a.2.1 a.2.2 _ e).2.1 rfl)]
 ·rw [e, Zuq a, ((nx_9 a.1 a.2.1 a.2.2 _ e).1 rfl)]
 ·rw [e, Zup a, ((nx_3 a.1 a.2.1 a.2.2 _ e).2.2.2.2.1 rfl)]
 ·rw [e, Zuo a, ((nx_4 a.1 a.2.1 a.2.2 _ e).2.2.2.2.1 rfl)]
 ·rw [e, Zun a, ((nx_1 a.1 a.2.1 a.2.2 _ e).2.2.2.2.2.1 rfl)]
 ·rw [e, Zum a, ((ZMh a.1 a.2.1 a.2.2 _ e).1 rfl)]
 ·rw [e, Zul a, ((nx_2 a.1 a.2.1 a.2.2 _ e).2.2.2.2.2.1 rfl)]
 ·rw [e, Zuk a, ((ZG0 a.1 a.2.1 a.2.2 _ e).1 rfl)]
 ·rw [e, Zuj a, ((nx_3 a.1 a.2.1 a.2.2 _ e).2.2.2.2.2.1 rfl)]
 ·rw [e, Zui a, ((nx_4 a.1 a.2.1 a.2.2 _ e).2.2.2.2.2.1 rfl)]
 ·rw [e, Zuh a, ((nx_1 a.1 a.2.1 a.2.2 _ e).2.2.2.2.2.2.1 rfl)]
 ·rw [e, Zug a, ((nx_2 a.1 a.2.1 a.2.2 _ e).2.2.2.2.2.2.1 rfl)]
 ·rw [e, Zuf a, ((ZG0 a.1 a.2.1 a.2.2 _ e).2.1 rfl)]
 ·rw [e, Zue a, ((nx_3 a.1 a.2.1 a.2.2 _ e).2.2.2.2.2.2.1 rfl)]
 ·rw [e, Zud a, ((nx_4 a.1 a.2.1 a.2.2 _ e).2.2.2.2.2.2.1 rfl)]
 ·rw [e, Zuc a, ((nx_1 a.1 a.2.1 a.2.2 _ e).2.2.2.2.2.2.2.1 rfl)]
 ·rw [e, Zub a, ((nx_2 a.1 a.2.1 a.2.2 _ e).2.2.2.2.2.2.2.1 rfl)]
 ·rw [e, Zua a, ((nx_3 a.1 a.2.1 a.2.2 _ e).2.2.2.2.2.2.2.1 rfl)]
 ·rw [e, Zt9 a, ((nx_4 a.1 a.2.1 a.2.2 _ e).2.2.2.2.2.2.2.1 rfl)]
 ·rw [e, Zt8 a, ((nx_1 a.1 a.2.1 a.2.2 _ e).2.2.2.2.2.2.2.2.1 rfl)]
 ·rw [e, Zt7 a, ((nx_9 a.1 a.2.1 a.2.2 _ e).2.1 rfl)]
 ·rw [e, Zt6 a, ((nx_2 a.1 a.2.1 a.2.2 _ e).2.2.2.2.2.2.2.2.1 rfl)]
 ·rw [e, Zt5 a, ((nx_3 a.1 a.2.1 a.2.2 _ e).2.2.2.2.2.2.2.2.1 rfl)]
def Zgq : Entry := Zm Zh Zy (fun _ => none) (fun a => Zi a.1 a.2.1 a.2.2)
theorem ZiD : Zb Tryz.prog 113 Zgq := Zn9 Tryz.func113 rfl (by kernel_rfl) Tryz.call113 fun a h _ => ZGH a h
theorem ZF4 (a : HL Zg) (h : okHL Zg a) : ∃ l, ZcS Tryz.prog l ∧ (Zk (envX Tryz.prog l [] 2047 8) Tryz.f42 Zg Zx a).val = some (Zi a.1 a.2.1 a.2.2) := by
 have hk := ZvB a.1.1 _ (ZvJ h.2.2)
 refine ⟨ZT (Zc a.1.1 (a.2.2.getD 0 0)).1, ZBL _, ?_⟩
 rcases ZvA hk.1 hk.2 with e | e | e | e | e | e | e | e | e | e | e | e | e | e | e | e | e | e | e | e | e | e | e | e | e | e | e | e | e | e | e | e | e | e | e | e | e | e | e | e | e | e | e | e | e | e | e
 ·rw [e, ZyB a, ((nx_1 a.1 a.2.1 a.2.2 _ e).2.2.2.2.2.2.2.2.2.1 rfl)]
 ·rw [e, ZyA a, ((nx_5 a.1 a.2.1 a.2.2 _ e).2 rfl)]
 ·rw [e, Zyz a, ((nx_6 a.1 a.2.1 a.2.2 _ e).2.2.2.1 rfl)]
 ·rw [e, Zyy a, ((nx_2 a.1 a.2.1 a.2.2 _ e).2.2.2.2.2.2.2.2.2.1 rfl)]
 ·rw [e, Zyx a, ((nx_3 a.1 a.2.1 a.2.2 _ e).2.2.2.2.2.2.2.2.2.1 rfl)]
 ·rw [e, Zyw a, ((nx_4 a.1 a.2.1 a.2.2 _ e).2.2.2.2.2.2.2.2.1 rfl)]
 ·rw [e, Zyv a, ((nx_1 a.1 a.2.1 a.2.2 _ e).2.2.2.2.2.2.2.2.2.2.1 rfl)]
 ·rw [e, Zyu a, ((nx_2 a.1 a.2.1 a.2.2 _ e).2.2.2.2.2.2.2.2.2.2.1 rfl)]
 ·rw [e, Zyt a, ((nx_3 a.1 a.2.1 a.2.2 _ e).2.2.2.2.2.2.2.2.2.2.1 rfl)]
 ·rw [e, Ztw a, ((nx_4 a.1 a.2.1 a.2.2 _ e).2.2.2.2.2.2.2.2.2.1 rfl)]
 ·rw [e, Ztv a, ((nx_1 a.1 a.2.1 a.2.2 _ e).2.2.2.2.2.2.2.2.2.2.2.1 rfl)]
 ·rw [e, Ztu a, ((nx_7 a.1 a.2.1 a.2.2 _ e).2 rfl)]
 ·rw [e, Ztt a, ((nx_2 a.1 a.2.1 a.2.2 _ e).2.2.2.2.2.2.2.2.2.2.2.1 rfl)]
 ·rw [e, Zts a, ((nx_6 a.1 a.2.1 a.2.2 _ e).2.2.2.2.1 rfl)]
 ·rw [e, Ztr a, ((nx_6 a.1 a.2.1 a.2.2 _ e).2.2.2.2.2 rfl)]
 ·rw [e, Ztq a, ((nx_3 a.1 a.2.1 a.2.2 _ e).2.2.2.2.2.2.2.2.2.2.2.1 rfl)]
 ·rw [e, Ztp a, ((nx_4 a.1 a.2.1 a.2.2 _ e).2.2.2.2.2.2.2.2.2.2.1 rfl)]
 ·rw [e, Zto a, ((nx_1 a.1 a.2.1 a.2.2 _ e).2.2.2.2.2.2.2.2.2.2.2.2.1 rfl)]
 ·rw [e, Ztn a, ((nx_2 a.1 a.2.1 a.2.2 _ e).2.2.2.2.2.2.2.2.2.2.2.2.1 rfl)]
 ·rw [e, Ztm a, ((nx_3 a.1 a.2.1 a.2.2 _ e).2.2.2.2.2.2.2.2.2.2.2.2.1 rfl)]
 ·rw [e, Ztl a, ((nx_4 a.1 a.2.1 a.2.2 _ e).2.2.2.2.2.2.2.2.2.2.2.1 rfl)]
 ·rw [e, Ztk a, ((nx_1 a.1 a.2.1 a.2.2 _ e).2.2.2.2.2.2.2.2.2.2.2.2.2.1 rfl)]
 ·rw [e, Ztj a, ((nx_2 a.1 a.2.1 a.2.2 _ e).2.2.2.2.2.2.2.2.2.2.2.2.2.1 rfl)]
 ·rw [e, Zti a, ((nx_8 a.1 a.2.1 a.2.2 _ e).2.2.1 rfl)]
 ·rw [e, Zth a, ((nx_8 a.1 a.2.1 a.2.2 _ e).2.2.2 rfl)]
 ·rw [e, Ztg a, ((nx_9 a.1 a.2.1 a.2.2 _ e).2.2.1 rfl)]
 ·rw [e, Ztf a, ((nx_3 a.1 a.2.1 a.2.2 _ e).2.2.2.2.2.2.2.2.2.2.2.2.2.1 rfl)]
 ·rw [e, Zte a, ((nx_4 a.1 a.2.1 a.2.2 _ e).2.2.2.2.2.2.2.2.2.2.2.2.1 rfl)]
 ·rw [e, Ztd a, ((nx_1 a.1 a.2.1 a.2.2 _ e).2.2.2.2.2.2.2.2.2.2.2.2.2.2.1 rfl)]
 ·rw [e, Ztc a, ((ZMh a.1 a.2.1 a.2.2 _ e).2 rfl)]
 ·rw [e, Ztb a, ((nx_2 a.1 a.2.1 a.2.2 _ e).2.2.2.2.2.2.2.2.2.2.2.2.2.2.1 rfl)]
 ·rw [e, Zta a, ((ZG0 a.1 a.2.1 a.2.2 _ e).2.2.1 rfl)]
 ·rw [e, Zs9 a, ((nx_3 a.1 a.2.1 a.2.2 _ e).2.2.2.2.2.2.2.2.2.2.2.2.2.2.1 rfl)]
 ·rw [e, Zs8 a, ((nx_4 a.1 a.2.1 a.2.2 _ e).2.2.2.2.2.2.2.2.2.2.2.2.2.1 rfl)]
 ·rw [e, Zs7 a, ((nx_1 a.1 a.2.1 a.2.2 _ e).2.2.2.2.2.2.2.2.2.2.2.2.2.2.2.1 rfl)]
 ·rw [e, Zs6 a, ((nx_2 a.1 a.2.1 a.2.2 _ e).2.2.2.2.2.2.2.2.2.2.2.2.2.2.2.1 rfl)]
 ·rw [e, Zs5 a, ((ZG0 a.1 a.2.1 a.2.2 _ e).2.2.2 rfl)]
 ·rw [e, Zs4 a, ((nx_3 a.1 a.2.1 a.2.2 _ e).2.2.2.2.2.2.2.2.2.2.2.2.2.2.2.1 rfl)]
 ·rw [e, Zs3 a, ((nx_4 a.1 a.2.1 a.2.2 _ e).2.2.2.2.2.2.2.2.2.2.2.2.2.2.1 rfl)]
 ·rw [e, Zs2 a, ((nx_1 a.1 a.2.1 a.2.2 _ e).2.2.2.2.2.2.2.2.2.2.2.2.2.2.2.2.1 rfl)]
 ·rw [e, Zs1 a, ((nx_2 a.1 a.2.1 a.2.2 _ e).2.2.2.2.2.2.2.2.2.2.2.2.2.2.2.2.1 rfl)]
 ·rw [e, Zs0 a, ((nx_3 a.1 a.2.1 a.2.2 _ e).2.2.2.2.2.2.2.2.2.2.2.2.2.2.2.2.1 rfl)]
 ·rw [e, ZsZ a, ((nx_4 a.1 a.2.1 a.2.2 _ e).2.2.2.2.2.2.2.2.2.2.2.2.2.2.2 rfl)]
 ·rw [e, ZsY a, ((nx_1 a.1 a.2.1 a.2.2 _ e).2.2.2.2.2.2.2.2.2.2.2.2.2.2.2.2.2 rfl)]
 ·rw [e, ZsX a, ((nx_9 a.1 a.2.1 a.2.2 _ e).2.2.2 rfl)]
 ·rw [e, ZsW a, ((nx_2 a.1 a.2.1 a.2.2 _ e).2.2.2.2.2.2.2.2.2.2.2.2.2.2.2.2.2 rfl)]
 ·rw [e, ZsV a, ((nx_3 a.1 a.2.1 a.2.2 _ e).2.2.2.2.2.2.2.2.2.2.2.2.2.2.2.2.2 rfl)]
def ZwH : Entry := Zm Zg Zx (fun _ => none) (fun a => Zi a.1 a.2.1 a.2.2)
theorem ZwG : Zb Tryz.prog 42 ZwH := Zn9 Tryz.func42 rfl (by kernel_rfl) Tryz.call42 fun a h _ => ZF4 a h
def wPC (r : RegT) (v : Int) : RegT := (r.1, r.2.1, r.2.2.1, r.2.2.2.1, r.2.2.2.2.1, r.2.2.2.2.2.1, r.2.2.2.2.2.2.1, r.2.2.2.2.2.2.2.1, r.2.2.2.2.2.2.2.2.1, v)
def wSP (r : RegT) (v : Int) : RegT := (r.1, r.2.1, r.2.2.1, r.2.2.2.1, r.2.2.2.2.1, r.2.2.2.2.2.1, r.2.2.2.2.2.2.1, r.2.2.2.2.2.2.2.1, v, r.2.2.2.2.2.2.2.2.2)
def wA (r : RegT) (v : Int) : RegT := (v, r.2)
def wF (r : RegT) (f : FlgT) : RegT := (r.1, r.2.1, r.2.2.1, r.2.2.2.1, r.2.2.2.2.1, r.2.2.2.2.2.1, r.2.2.2.2.2.2.1, f, r.2.2.2.2.2.2.2.2)
def fCY (f : FlgT) (b : Bool) : FlgT := (f.1, f.2.1, f.2.2.1, f.2.2.2.1, f.2.2.2.2.1, f.2.2.2.2.2.1, b)
def fVCY (f : FlgT) (v b : Bool) : FlgT := (f.1, f.2.1, f.2.2.1, f.2.2.2.1, f.2.2.2.2.1, v, b)
def Zeu (r : RegT) : Int := r.2.2.2.2.2.2.2.2.1
def flOf (r : RegT) : FlgT := r.2.2.2.2.2.2.2.1
def finR (c : CpuT) (r r0 : RegT) (g : List Int) (i : InsT) : RegT :=
 let dst := i.2.2.1
 let src := i.2.2.2.1
 let pr := i.2.2.2.2.1
 let op := i.2.2.2.2.2.1
 let g1 := g.getD 1 0
 let tk := ZdD i.2.2.2.2.2.2.1 (flOf r)
 bif i.1 == 2 then rSet r0 dst (bif src == 6 then g1 else rGet r src) else
 bif i.1 == 3 then rSet r0 dst g1 else
 bif i.1 == 4 then ZS r0 pr (Zbr g 1) else
 bif i.1 == 5 then wA r0 (g.getD 3 0) else
 bif i.1 == 7 then ZS r0 2 (Zbr g 3) else
 bif i.1 == 9 then wA r0 g1 else
 bif i.1 == 11 then (r0.1, r0.2.1, r0.2.2.1, r0.2.2.2.2.2.1, r0.2.2.2.2.2.2.1, r0.2.2.2.1, r0.2.2.2.2.1, r0.2.2.2.2.2.2.2) else
 bif i.1 == 12 then (let q := rDo c.1 op r.1 (bif src == 6 then g1 else rGet r src) (flOf r); wA (wF r0 q.2) q.1) else
 bif i.1 == 13 then (let q := rDo c.1 op r.1 g1 (flOf r); wA (wF r0 q.2) q.1) else
 bif i.1 == 14 then (let q := rInr c.1 (bif dst == 6 then g1 else rGet r dst) (flOf r); rSet (wF r0 q.2) dst q.1) else
 bif i.1 == 15 then (let q := rDcr c.1 (bif dst == 6 then g1 else rGet r dst) (flOf r); rSet (wF r0 q.2) dst q.1) else
 bif i.1 == 16 then (let q := rInx c.1 (ZaW r pr) (flOf r); ZS (wF r0 q.2) pr q.1) else
 bif i.1 == 17 then (let q := rDcx c.1 (ZaW r pr) (flOf r); ZS (wF r0 q.2) pr q.1) else
 bif i.1 == 18 then (let q := rDad c.1 (ZaW r 2) (ZaW r pr) (flOf r); ZS (wF r0 q.2) 2 q.1) else
 bif i.1 == 19 then (let q := rDaa c.1 r.1 (flOf r); wA (wF r0 q.2) q.1) else
 bif i.1 == 20 then wA r0 (notI .u8 r.1) else
 bif i.1 == 21 then wF r0 (fCY (flOf r) true) else
 bif i.1 == 22 then wF r0 (fCY (flOf r) (!(flOf r).2.2.2.2.2.2)) else
 bif i.1 == 23 then (let q := rRot op r.1 (flOf r).2.2.2.2.2.2; wA (wF r0 (fCY (flOf r) q.2)) q.1) else
 bif i.1 == 24 then (bif tk then wPC r0 (Zbr g 1) else r0) else
 bif i.1 == 25 then (bif tk then wPC (wSP r0 (IntKind.wrap .u16 (Zeu r - 2))) (Zbr g 1) else r0) else
 bif i.1 == 26 then (bif tk then wPC (wSP r0 (IntKind.wrap .u16 (Zeu r + 2))) (Zbr g 1) else r0) else
 bif i.1 == 27 then wPC (wSP r0 (IntKind.wrap .u16 (Zeu r - 2))) (IntKind.wrap .u16 (IntKind.wrap .i64 (8 * i.2.2.2.2.2.2.2))) else
 bif i.1 == 28 then wPC r0 (ZaW r 2) else
 bif i.1 == 29 then wSP r0 (ZaW r 2) else
 bif i.1 == 30 then wSP r0 (IntKind.wrap .u16 (Zeu r - 2)) else
 bif i.1 == 31 then (let q := bif pr == 3 then Zjd c.1 r0 (Zbr g 1) else ZS r0 pr (Zbr g 1); wSP q (IntKind.wrap .u16 (Zeu q + 2))) else
 bif i.1 == 32 then ZS r0 2 (Zbr g 1) else
 bif i.1 == 33 then wA r0 (g.getD 2 0) else
 bif i.1 == 40 then (let q := ZB1 (ZaW r 2) (ZaW r 0); ZS (wF r0 q.2) 2 q.1) else
 bif i.1 == 41 then (let q := ZGi (ZaW r 2); ZS (wF r0 (fCY (flOf r) q.2)) 2 q.1) else
 bif i.1 == 42 then (let q := ZBq (ZaW r 1) (flOf r).2.2.2.2.2.2; ZS (wF r0 (fVCY (flOf r) q.2.2 q.2.1)) 1 q.1) else
 bif i.1 == 43 then ZS r0 1 (IntKind.wrap .u16 (ZaW r 2 + IntKind.wrap .u16 g1)) else
 bif i.1 == 44 then ZS r0 1 (IntKind.wrap .u16 (Zeu r + IntKind.wrap .u16 g1)) else
 bif i.1 == 45 then (bif tk then wPC (wSP r0 (IntKind.wrap .u16 (Zeu r - 2))) 64 else r0) else
 bif i.1 == 47 then ZS r0 2 (Zbr g 1) else
 r0
def finI (c : CpuT) (inj : Bool) (g : List Int) (l : QT1) (i : InsT) : CpuT :=
 let r0 := wPC c.2.1 (ZR c inj i)
 let d : CpuT := (c.1, r0, c.2.2.1, false, false, c.2.2.2.2.2)
 bif i.1 == 38 then (let q := rRim d l; (q.2.1, wA q.2.2.1 q.1, q.2.2.2)) else
 bif i.1 == 39 then rSim d c.2.1.1 else
 (c.1, finR c c.2.1 r0 g i, bif i.1 == 35 then true else bif i.1 == 36 then false else c.2.2.1, i.1 == 35, i.1 == 37, c.2.2.2.2.2)
def finX (c : CpuT) (s : Int) (g : List Int) (l : QT1) : CpuT :=
 bif Za s then (c.1, wPC (wSP c.2.1 (IntKind.wrap .u16 (spOf c - 2))) (Zu s), c.2.2)
 else finI c (s == 5) g l (Zc c.1 (g.getD 0 0))
theorem ZLw (c : CpuT) (l) : (rRim c l).2 = (c.1, c.2.1, c.2.2.1, c.2.2.2.1, c.2.2.2.2.1, c.2.2.2.2.2.1, c.2.2.2.2.2.2.1, c.2.2.2.2.2.2.2.1, c.2.2.2.2.2.2.2.2.1, c.2.2.2.2.2.2.2.2.2.1, false, false, c.2.2.2.2.2.2.2.2.2.2.2.2) := by
 have h3 : ∀ b, Zan b 3 = true := fun b => by cases b <;> rfl
 have h4 : ∀ b, Zan b 4 = true := fun b => by cases b <;> rfl
 have h5 : ∀ b, Zan b 5 = true := fun b => by cases b <;> rfl
 have h6 : ∀ b, Zan b 6 = true := fun b => by cases b <;> rfl
 have h7 : ∀ b, Zan b 7 = true := fun b => by cases b <;> rfl
 simp only [rRim, ZFT, RT.val, h3, h4, h5, h6, h7, Bool.not_true, Bool.false_or, cond_true, getO]
theorem Zfs (s) : ZeB s = true ∧ Zgg s = bif (s.2.2.2.1.1 == 13 || s.2.2.2.1.2.2.2.1 == 6) then s.2.2.1.getD 1 0 else rGet s.1.2.1 s.2.2.2.1.2.2.2.1 := by
 simp only [ZeB, Zgg, Zgf, RT.val, qat1, ZaF]
 cases (s.2.2.2.1.1 == 13 || s.2.2.2.1.2.2.2.1 == 6) <;> simp [okB, getO]
theorem w16 {n : Nat} (h : n < 65536) : IntKind.wrap .u16 (n : Int) = n := ZiP ⟨by simp [IntKind.min, IntKind.signed], by simp [IntKind.max, IntKind.signed, IntKind.bits]; omega⟩
def ZcE (k : Int) : Entry := .tree (ZI (envX Tryz.prog [(182, Zri k), (222, qAtE)] [] 255 8) Tryz.f178)
theorem Zei (k : Int) : Zb Tryz.prog 178 (ZcE k) := Zab (P := Tryz.prog) (n := 255) (k := 8) (l := [(182, Zri k), (222, qAtE)]) (ol := []) ⟨(Zxq k), Zgk, trivial⟩ Tryz.func178 rfl (by kernel_rfl) Tryz.call178 trivial
def Zbt : Entry := .tree (ZI (envX Tryz.prog [(222, qAtE), (232, ZqV), (268, Zq9), (269, Zbo), (270, Zj2)] [] 2597417327555236063515274458956831 8) Tryz.f224)
theorem Zej : Zb Tryz.prog 224 Zbt := Zab (P := Tryz.prog) (n := 2597417327555236063515274458956831) (k := 8) (l := [(222, qAtE), (232, ZqV), (268, Zq9), (269, Zbo), (270, Zj2)]) (ol := []) ⟨Zgk, Zn2, Zw2, Zdm, Zn3, trivial⟩ Tryz.func224 rfl (by kernel_rfl) Tryz.call224 trivial
def Za2 : Entry := .tree (ZI (envX Tryz.prog [(222, qAtE), (231, ZeA), (232, ZqV), (268, Zq9), (269, Zbo), (271, ZKh), (272, Zj1), (273, Zxh), (274, Zxt), (275, ZDd), (276, ZDD), (277, ZDH), (278, ZDJ), (279, ZCJ)] [] 7069140681974987581262622498806463579024171163532525608263727578473562367 8) Tryz.f225)
theorem Zdv : Zb Tryz.prog 225 Za2 := Zab (P := Tryz.prog) (n := 7069140681974987581262622498806463579024171163532525608263727578473562367) (k := 8) (l := [(222, qAtE), (231, ZeA), (232, ZqV), (268, Zq9), (269, Zbo), (271, ZKh), (272, Zj1), (273, Zxh), (274, Zxt), (275, ZDd), (276, ZDD), (277, ZDH), (278, ZDJ), (279, ZCJ)]) (ol := []) ⟨Zgk, Zge, Zn2, Zw2, Zdm, ZKg, ZtG, Zxg, Zxs, ZGI, ZGQ, ZGS, ZGU, ZGx, trivial⟩ Tryz.func225 rfl (by kernel_rfl) Tryz.call225 trivial
def Za1 : Entry := .tree (ZI (envX Tryz.prog [(231, ZeA), (269, Zbo), (270, Zj2), (280, ZfH), (281, Zke)] [] 1300629477622019213679053869679119 8) Tryz.f226)
theorem Zdu : Zb Tryz.prog 226 Za1 := Zab (P := Tryz.prog) (n := 1300629477622019213679053869679119) (k := 8) (l := [(231, ZeA), (269, Zbo), (270, Zj2), (280, ZfH), (281, Zke)]) (ol := []) ⟨Zge, Zdm, Zn3, ZjY, ZtS, trivial⟩ Tryz.func226 rfl (by kernel_rfl) Tryz.call226 trivial
def Zbi : Entry := .tree (ZI (envX Tryz.prog [(222, qAtE), (231, ZeA), (269, Zbo), (283, ZuY), (284, Zu2), (285, ZtY)] [] 19808249554387950831669350527 8) Tryz.f229)
theorem Zd3 : Zb Tryz.prog 229 Zbi := Zab (P := Tryz.prog) (n := 19808249554387950831669350527) (k := 8) (l := [(222, qAtE), (231, ZeA), (269, Zbo), (283, ZuY), (284, Zu2), (285, ZtY)]) (ol := []) ⟨Zgk, Zge, Zdm, ZDw, ZDL, ZCP, trivial⟩ Tryz.func229 rfl (by kernel_rfl) Tryz.call229 trivial
def Zb3 : Entry := .tree (ZI (envX Tryz.prog [(223, Zgj), (224, Zbt), (225, Za2), (226, Za1), (227, ZCL), (228, ZCC), (229, Zbi)] [] 1299342484808491477133836286951679 8) Tryz.f179)
theorem ZdK : Zb Tryz.prog 179 Zb3 := Zab (P := Tryz.prog) (n := 1299342484808491477133836286951679) (k := 8) (l := [(223, Zgj), (224, Zbt), (225, Za2), (226, Za1), (227, ZCL), (228, ZCC), (229, Zbi)]) (ol := []) ⟨ZmG, Zej, Zdv, Zdu, ZGz, ZGt, Zd3, trivial⟩ Tryz.func179 rfl (by kernel_rfl) Tryz.call179 trivial
abbrev Zl : List Sh := [Sh.agg ZaT, Sh.one (R.int i64), Sh.one (R.sl (R.int u8)), Sh.agg (R.pair R.bool (R.pair R.bool rcF7))]
abbrev ZV : Rs := Rs.one (Sh.agg ZaT)
def Zar (k : Int) : List (FuncId × Entry) := [(176, Zhi), (177, Zq4), (178, ZcE k), (179, Zb3)]
theorem ZGM (k : Int) : ZcS Tryz.prog (Zar k) := ⟨ZhU, ZtO, (Zei k), ZdK, trivial⟩
end
end Go.Proofs.YtghoimllhpjkjaaGreat
