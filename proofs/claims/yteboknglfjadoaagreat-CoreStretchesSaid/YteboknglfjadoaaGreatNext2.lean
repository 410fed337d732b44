/-
  Contracts of functions; each found by the symbolic executor and checked by the kernel. Conditions: none.
-/
import Derived.Test.YteboknglfjadoaaGreatS3D
import Derived.Test.YteboknglfjadoaaGreatProg
import Derived.Test.YteboknglfjadoaaGreatNext0
set_option linter.unusedSimpArgs false
open Go Go.S3 Go.Proofs
set_option linter.unusedVariables false
set_option maxRecDepth 100000
namespace Go.Proofs.YteboknglfjadoaaGreat
noncomputable section
noncomputable def pNext_2T (c : TC) (s : Int) (g : List Int) : RT (Option (TY × Bool)) :=
  let x1 : TC × Bool × List Int × TI × List TY := (c, s == 5, g, (0, 0, 0, 0, 0, 0, 0, 0), [])
  let x2 : Bool := qAtC x1 0
  let x3 : Int × Int × Int × Int × Int × Int × Int × Int := rDecode c.1 (qAt x1 0)
  let x4 : Bool := !x2 || x3.1 == 2
  let x5 : List TY := [] ++ [(12, pcOf c, 0, 6)] ++ [(5, IntKind.u16.wrap ((spOf c) - 1), IntKind.u8.wrap (shrI IntKind.u16 (pcOf c) 8), 3)] ++ [(5, IntKind.u16.wrap ((spOf c) - 2), IntKind.u8.wrap (pcOf c), 3)]
  let x7 : Int × Int × Int := ((pcOf c), 0, 4)
  let x8 : List TY := [] ++ [(bif s == 5 then 8 else 1, x7)]
  let x10 : Int × Int × Int × Int × Int × Int × Int := x3.2
  let x11 : Int × Int × Int × Int × Int × Int := x10.2
  let x12 : Int := x11.2.1
  let x13 : List TY := [] ++ [(1, x7)]
  let x14 : TC × Bool × List Int × TI × List TY := (c, s == 5, g, (2, x10), x13)
  let x15 : Int := qPair x14 2
  let x16 : List TY := bif x12 == 6 then x13 ++ [(2, x15, 0, 3)] else bif x11.1 == 6 then x13 ++ [(3, x15, qReg x14 x12, 3)] else x13
  .br (!x4 || x2)
  (.br (x4)
   (.br (pInternal s)
    (fin3 g x5)
    (.br (iN (List.length g) == 0)
     (fin3 g x8)
     (fin3 g x16)))
   (.leaf none))
  (.leaf none)

noncomputable def pNext_2 (c : TC) (s : Int) (g : List Int) : TY × Bool := getO pNextRs.dflt (pNext_2T c s g).val

noncomputable def pNext_2C (c : TC) (s : Int) (g : List Int) : Bool := okB (pNext_2T c s g).val

theorem pNext_2_ev (a : HL pNextTs) : evVal (envX Tryz.prog (pNextL 2) [] 1125900980585471 8) Tryz.f120 pNextTs pNextRs a = pNext_2T a.1 a.2.1 a.2.2 := by kernel_rfl

noncomputable def pNext_6T (c : TC) (s : Int) (g : List Int) : RT (Option (TY × Bool)) :=
  let x1 : TC × Bool × List Int × TI × List TY := (c, s == 5, g, (0, 0, 0, 0, 0, 0, 0, 0), [])
  let x2 : Bool := qAtC x1 0
  let x3 : Int × Int × Int × Int × Int × Int × Int × Int := rDecode c.1 (qAt x1 0)
  let x4 : Bool := !x2 || x3.1 == 6
  let x5 : Int × Int × Int := ((pcOf c), 0, 4)
  let x6 : List TY := [] ++ [(1, x5)]
  let x7 : List TY := [(9, pcOf c, 0, 3)]
  let x8 : List TY := bif s == 5 then x6 ++ x7 else x6 ++ [(2, IntKind.u16.wrap ((pcOf c) + IntKind.u16.wrap 1), 0, 3)]
  let x9 : List TY := bif s == 5 then x8 ++ x7 else x8 ++ [(2, IntKind.u16.wrap ((pcOf c) + IntKind.u16.wrap (IntKind.i64.wrap (1 + 1))), 0, 3)]
  let x10 : TC × Bool × List Int × TI × List TY := (c, s == 5, g, (6, x3.2), x9)
  let x11 : List TY := [] ++ [(12, pcOf c, 0, 6)] ++ [(5, IntKind.u16.wrap ((spOf c) - 1), IntKind.u8.wrap (shrI IntKind.u16 (pcOf c) 8), 3)] ++ [(5, IntKind.u16.wrap ((spOf c) - 2), IntKind.u8.wrap (pcOf c), 3)]
  let x13 : List TY := [] ++ [(bif s == 5 then 8 else 1, x5)]
  let x15 : List TY := x9 ++ [(3, qJoin x10 1, c.2.1.1, 3)]
  .br (!x4 || x2)
  (.br (x4)
   (.br (pInternal s || (iN (List.length g) == 0 || qJoinC x10 1))
    (.br (pInternal s)
     (fin3 g x11)
     (.br (iN (List.length g) == 0)
      (fin3 g x13)
      (fin3 g x15)))
    (.leaf none))
   (.leaf none))
  (.leaf none)

noncomputable def pNext_6 (c : TC) (s : Int) (g : List Int) : TY × Bool := getO pNextRs.dflt (pNext_6T c s g).val

noncomputable def pNext_6C (c : TC) (s : Int) (g : List Int) : Bool := okB (pNext_6T c s g).val

theorem pNext_6_ev (a : HL pNextTs) : evVal (envX Tryz.prog (pNextL 6) [] 1125900980585471 8) Tryz.f120 pNextTs pNextRs a = pNext_6T a.1 a.2.1 a.2.2 := by kernel_rfl

noncomputable def pNext_10T (c : TC) (s : Int) (g : List Int) : RT (Option (TY × Bool)) :=
  let x1 : TC × Bool × List Int × TI × List TY := (c, s == 5, g, (0, 0, 0, 0, 0, 0, 0, 0), [])
  let x2 : Bool := qAtC x1 0
  let x3 : Int × Int × Int × Int × Int × Int × Int × Int := rDecode c.1 (qAt x1 0)
  let x4 : Bool := !x2 || x3.1 == 10
  let x5 : List TY := [] ++ [(12, pcOf c, 0, 6)] ++ [(5, IntKind.u16.wrap ((spOf c) - 1), IntKind.u8.wrap (shrI IntKind.u16 (pcOf c) 8), 3)] ++ [(5, IntKind.u16.wrap ((spOf c) - 2), IntKind.u8.wrap (pcOf c), 3)]
  let x7 : Int × Int × Int := ((pcOf c), 0, 4)
  let x8 : List TY := [] ++ [(bif s == 5 then 8 else 1, x7)]
  let x10 : List TY := [] ++ [(1, x7)]
  let x11 : Int × Int × Int × Int × Int × Int × Int := x3.2
  let x12 : List TY := x10 ++ [(3, qPair (c, s == 5, g, (10, x11), x10) x11.2.2.2.1, c.2.1.1, 3)]
  .br (!x4 || x2)
  (.br (x4)
   (.br (pInternal s)
    (fin3 g x5)
    (.br (iN (List.length g) == 0)
     (fin3 g x8)
     (fin3 g x12)))
   (.leaf none))
  (.leaf none)

noncomputable def pNext_10 (c : TC) (s : Int) (g : List Int) : TY × Bool := getO pNextRs.dflt (pNext_10T c s g).val

noncomputable def pNext_10C (c : TC) (s : Int) (g : List Int) : Bool := okB (pNext_10T c s g).val

theorem pNext_10_ev (a : HL pNextTs) : evVal (envX Tryz.prog (pNextL 10) [] 1125900980585471 8) Tryz.f120 pNextTs pNextRs a = pNext_10T a.1 a.2.1 a.2.2 := by kernel_rfl

noncomputable def pNext_14T (c : TC) (s : Int) (g : List Int) : RT (Option (TY × Bool)) :=
  let x1 : TC × Bool × List Int × TI × List TY := (c, s == 5, g, (0, 0, 0, 0, 0, 0, 0, 0), [])
  let x2 : Bool := qAtC x1 0
  let x3 : Int × Int × Int × Int × Int × Int × Int × Int := rDecode c.1 (qAt x1 0)
  let x4 : Bool := !x2 || x3.1 == 14
  let x5 : Int × Int × Int × Int × Int × Int × Int := x3.2
  let x6 : Bool := x5.2.1 == 6
  let x7 : Int × Int × Int × Int × Int × Int × Int × Int := (14, x5)
  let x8 : Int × Int × Int := ((pcOf c), 0, 4)
  let x9 : List TY := [] ++ [(1, x8)]
  let x10 : Int := qPair (c, s == 5, g, x7, x9) 2
  let x11 : List TY := x9 ++ [(2, x10, 0, 3)]
  let x12 : TC × Bool × List Int × TI × List TY := (c, s == 5, g, x7, x11)
  let x13 : List TY := [] ++ [(12, pcOf c, 0, 6)] ++ [(5, IntKind.u16.wrap ((spOf c) - 1), IntKind.u8.wrap (shrI IntKind.u16 (pcOf c) 8), 3)] ++ [(5, IntKind.u16.wrap ((spOf c) - 2), IntKind.u8.wrap (pcOf c), 3)]
  let x15 : List TY := [] ++ [(bif s == 5 then 8 else 1, x8)]
  let x17 : List TY := bif x6 then x11 ++ [(3, x10, qCounted x12, 3)] else x9
  .br (!x4 || x2)
  (.br (x4)
   (.br (pInternal s || (iN (List.length g) == 0 || (!x6 || qCountedC x12)))
    (.br (pInternal s)
     (fin3 g x13)
     (.br (iN (List.length g) == 0)
      (fin3 g x15)
      (fin3 g x17)))
    (.leaf none))
   (.leaf none))
  (.leaf none)

noncomputable def pNext_14 (c : TC) (s : Int) (g : List Int) : TY × Bool := getO pNextRs.dflt (pNext_14T c s g).val

noncomputable def pNext_14C (c : TC) (s : Int) (g : List Int) : Bool := okB (pNext_14T c s g).val

theorem pNext_14_ev (a : HL pNextTs) : evVal (envX Tryz.prog (pNextL 14) [] 1125900980585471 8) Tryz.f120 pNextTs pNextRs a = pNext_14T a.1 a.2.1 a.2.2 := by kernel_rfl

noncomputable def pNext_18T (c : TC) (s : Int) (g : List Int) : RT (Option (TY × Bool)) :=
  let x1 : TC × Bool × List Int × TI × List TY := (c, s == 5, g, (0, 0, 0, 0, 0, 0, 0, 0), [])
  let x2 : Bool := qAtC x1 0
  let x3 : Bool := !x2 || (rDecode c.1 (qAt x1 0)).1 == 18
  let x4 : List TY := [] ++ [(12, pcOf c, 0, 6)] ++ [(5, IntKind.u16.wrap ((spOf c) - 1), IntKind.u8.wrap (shrI IntKind.u16 (pcOf c) 8), 3)] ++ [(5, IntKind.u16.wrap ((spOf c) - 2), IntKind.u8.wrap (pcOf c), 3)]
  let x6 : Int × Int × Int := ((pcOf c), 0, 4)
  let x7 : List TY := [] ++ [(bif s == 5 then 8 else 1, x6)]
  let x9 : List TY := [(11, pcOf c, 0, 3)]
  let x10 : List TY := [] ++ [(1, x6)] ++ x9 ++ x9
  .br (!x3 || x2)
  (.br (x3)
   (.br (pInternal s)
    (fin3 g x4)
    (.br (iN (List.length g) == 0)
     (fin3 g x7)
     (fin3 g x10)))
   (.leaf none))
  (.leaf none)

noncomputable def pNext_18 (c : TC) (s : Int) (g : List Int) : TY × Bool := getO pNextRs.dflt (pNext_18T c s g).val

noncomputable def pNext_18C (c : TC) (s : Int) (g : List Int) : Bool := okB (pNext_18T c s g).val

theorem pNext_18_ev (a : HL pNextTs) : evVal (envX Tryz.prog (pNextL 18) [] 1125900980585471 8) Tryz.f120 pNextTs pNextRs a = pNext_18T a.1 a.2.1 a.2.2 := by kernel_rfl

noncomputable def pNext_22T (c : TC) (s : Int) (g : List Int) : RT (Option (TY × Bool)) :=
  let x1 : TC × Bool × List Int × TI × List TY := (c, s == 5, g, (0, 0, 0, 0, 0, 0, 0, 0), [])
  let x2 : Bool := qAtC x1 0
  let x3 : Bool := !x2 || (rDecode c.1 (qAt x1 0)).1 == 22
  let x4 : List TY := [] ++ [(12, pcOf c, 0, 6)] ++ [(5, IntKind.u16.wrap ((spOf c) - 1), IntKind.u8.wrap (shrI IntKind.u16 (pcOf c) 8), 3)] ++ [(5, IntKind.u16.wrap ((spOf c) - 2), IntKind.u8.wrap (pcOf c), 3)]
  let x6 : Int × Int × Int := ((pcOf c), 0, 4)
  let x7 : List TY := [] ++ [(bif s == 5 then 8 else 1, x6)]
  let x9 : List TY := [] ++ [(1, x6)]
  .br (!x3 || x2)
  (.br (x3)
   (.br (pInternal s)
    (fin3 g x4)
    (.br (iN (List.length g) == 0)
     (fin3 g x7)
     (fin3 g x9)))
   (.leaf none))
  (.leaf none)

noncomputable def pNext_22 (c : TC) (s : Int) (g : List Int) : TY × Bool := getO pNextRs.dflt (pNext_22T c s g).val

noncomputable def pNext_22C (c : TC) (s : Int) (g : List Int) : Bool := okB (pNext_22T c s g).val

theorem pNext_22_ev (a : HL pNextTs) : evVal (envX Tryz.prog (pNextL 22) [] 1125900980585471 8) Tryz.f120 pNextTs pNextRs a = pNext_22T a.1 a.2.1 a.2.2 := by kernel_rfl

noncomputable def pNext_26T (c : TC) (s : Int) (g : List Int) : RT (Option (TY × Bool)) :=
  let x1 : TC × Bool × List Int × TI × List TY := (c, s == 5, g, (0, 0, 0, 0, 0, 0, 0, 0), [])
  let x2 : Bool := qAtC x1 0
  let x3 : Int × Int × Int × Int × Int × Int × Int × Int := rDecode c.1 (qAt x1 0)
  let x4 : Bool := !x2 || x3.1 == 26
  let x5 : List TY := [] ++ [(12, pcOf c, 0, 6)] ++ [(5, IntKind.u16.wrap ((spOf c) - 1), IntKind.u8.wrap (shrI IntKind.u16 (pcOf c) 8), 3)] ++ [(5, IntKind.u16.wrap ((spOf c) - 2), IntKind.u8.wrap (pcOf c), 3)]
  let x7 : Int × Int × Int := ((pcOf c), 0, 4)
  let x8 : List TY := [] ++ [(bif s == 5 then 8 else 1, x7)]
  let x10 : List TY := [] ++ [(1, x7)]
  let x11 : List TY := bif qTaken (c, s == 5, g, (26, x3.2), x10) then x10 ++ [(4, spOf c, 0, 3)] ++ [(4, IntKind.u16.wrap ((spOf c) + 1), 0, 3)] else x10
  .br (!x4 || x2)
  (.br (x4)
   (.br (pInternal s)
    (fin3 g x5)
    (.br (iN (List.length g) == 0)
     (fin3 g x8)
     (fin3 g x11)))
   (.leaf none))
  (.leaf none)

noncomputable def pNext_26 (c : TC) (s : Int) (g : List Int) : TY × Bool := getO pNextRs.dflt (pNext_26T c s g).val

noncomputable def pNext_26C (c : TC) (s : Int) (g : List Int) : Bool := okB (pNext_26T c s g).val

theorem pNext_26_ev (a : HL pNextTs) : evVal (envX Tryz.prog (pNextL 26) [] 1125900980585471 8) Tryz.f120 pNextTs pNextRs a = pNext_26T a.1 a.2.1 a.2.2 := by kernel_rfl

noncomputable def pNext_30T (c : TC) (s : Int) (g : List Int) : RT (Option (TY × Bool)) :=
  let x1 : TC × Bool × List Int × TI × List TY := (c, s == 5, g, (0, 0, 0, 0, 0, 0, 0, 0), [])
  let x2 : Bool := qAtC x1 0
  let x3 : Int × Int × Int × Int × Int × Int × Int × Int := rDecode c.1 (qAt x1 0)
  let x4 : Bool := !x2 || x3.1 == 30
  let x5 : Int := IntKind.u16.wrap ((spOf c) - 1)
  let x6 : Int := IntKind.u16.wrap ((spOf c) - 2)
  let x7 : List TY := [] ++ [(12, pcOf c, 0, 6)] ++ [(5, x5, IntKind.u8.wrap (shrI IntKind.u16 (pcOf c) 8), 3)] ++ [(5, x6, IntKind.u8.wrap (pcOf c), 3)]
  let x9 : Int × Int × Int := ((pcOf c), 0, 4)
  let x10 : List TY := [] ++ [(bif s == 5 then 8 else 1, x9)]
  let x12 : List TY := [] ++ [(1, x9)]
  let x13 : Int × Int × Int × Int × Int × Int × Int := x3.2
  let x14 : Int := x13.2.2.2.1
  let x15 : Int := bif x14 == 3 then rPSW c.1 c.2.1 else qPair (c, s == 5, g, (30, x13), x12) x14
  let x16 : List TY := x12 ++ [(5, x5, IntKind.u8.wrap (shrI IntKind.u16 x15 8), 3)] ++ [(5, x6, IntKind.u8.wrap x15, 3)]
  .br (!x4 || x2)
  (.br (x4)
   (.br (pInternal s)
    (fin3 g x7)
    (.br (iN (List.length g) == 0)
     (fin3 g x10)
     (fin3 g x16)))
   (.leaf none))
  (.leaf none)

noncomputable def pNext_30 (c : TC) (s : Int) (g : List Int) : TY × Bool := getO pNextRs.dflt (pNext_30T c s g).val

noncomputable def pNext_30C (c : TC) (s : Int) (g : List Int) : Bool := okB (pNext_30T c s g).val

theorem pNext_30_ev (a : HL pNextTs) : evVal (envX Tryz.prog (pNextL 30) [] 1125900980585471 8) Tryz.f120 pNextTs pNextRs a = pNext_30T a.1 a.2.1 a.2.2 := by kernel_rfl

noncomputable def pNext_34T (c : TC) (s : Int) (g : List Int) : RT (Option (TY × Bool)) :=
  let x1 : TC × Bool × List Int × TI × List TY := (c, s == 5, g, (0, 0, 0, 0, 0, 0, 0, 0), [])
  let x2 : Bool := qAtC x1 0
  let x3 : Int × Int × Int × Int × Int × Int × Int × Int := rDecode c.1 (qAt x1 0)
  let x4 : Bool := !x2 || x3.1 == 34
  let x5 : Int × Int × Int := ((pcOf c), 0, 4)
  let x6 : List TY := [] ++ [(1, x5)]
  let x7 : List TY := bif s == 5 then x6 ++ [(9, pcOf c, 0, 3)] else x6 ++ [(2, IntKind.u16.wrap ((pcOf c) + IntKind.u16.wrap 1), 0, 3)]
  let x8 : TC × Bool × List Int × TI × List TY := (c, s == 5, g, (34, x3.2), x7)
  let x9 : Bool := qAtC x8 1
  let x10 : Bool := !x9 || x9
  let x11 : Bool := !x10 || x9
  let x12 : Bool := pInternal s || (iN (List.length g) == 0 || (!x11 || x10))
  let x13 : List TY := [] ++ [(12, pcOf c, 0, 6)] ++ [(5, IntKind.u16.wrap ((spOf c) - 1), IntKind.u8.wrap (shrI IntKind.u16 (pcOf c) 8), 3)] ++ [(5, IntKind.u16.wrap ((spOf c) - 2), IntKind.u8.wrap (pcOf c), 3)]
  let x15 : List TY := [] ++ [(bif s == 5 then 8 else 1, x5)]
  let x17 : Int := qAt x8 1
  let x18 : List TY := x7 ++ [(7, rJoin x17 x17, c.2.1.1, 3)]
  .br (!x4 || x2)
  (.br (x4)
   (.br (!x12 || (pInternal s || (iN (List.length g) == 0 || x11)))
    (.br (x12)
     (.br (pInternal s)
      (fin3 g x13)
      (.br (iN (List.length g) == 0)
       (fin3 g x15)
       (fin3 g x18)))
     (.leaf none))
    (.leaf none))
   (.leaf none))
  (.leaf none)

noncomputable def pNext_34 (c : TC) (s : Int) (g : List Int) : TY × Bool := getO pNextRs.dflt (pNext_34T c s g).val

noncomputable def pNext_34C (c : TC) (s : Int) (g : List Int) : Bool := okB (pNext_34T c s g).val

theorem pNext_34_ev (a : HL pNextTs) : evVal (envX Tryz.prog (pNextL 34) [] 1125900980585471 8) Tryz.f120 pNextTs pNextRs a = pNext_34T a.1 a.2.1 a.2.2 := by kernel_rfl

noncomputable def pNext_38T (c : TC) (s : Int) (g : List Int) : RT (Option (TY × Bool)) :=
  let x1 : TC × Bool × List Int × TI × List TY := (c, s == 5, g, (0, 0, 0, 0, 0, 0, 0, 0), [])
  let x2 : Bool := qAtC x1 0
  let x3 : Bool := !x2 || (rDecode c.1 (qAt x1 0)).1 == 38
  let x4 : List TY := [] ++ [(12, pcOf c, 0, 6)] ++ [(5, IntKind.u16.wrap ((spOf c) - 1), IntKind.u8.wrap (shrI IntKind.u16 (pcOf c) 8), 3)] ++ [(5, IntKind.u16.wrap ((spOf c) - 2), IntKind.u8.wrap (pcOf c), 3)]
  let x6 : Int × Int × Int := ((pcOf c), 0, 4)
  let x7 : List TY := [] ++ [(bif s == 5 then 8 else 1, x6)]
  let x9 : List TY := [] ++ [(1, x6)]
  .br (!x3 || x2)
  (.br (x3)
   (.br (pInternal s)
    (fin3 g x4)
    (.br (iN (List.length g) == 0)
     (fin3 g x7)
     (fin3 g x9)))
   (.leaf none))
  (.leaf none)

noncomputable def pNext_38 (c : TC) (s : Int) (g : List Int) : TY × Bool := getO pNextRs.dflt (pNext_38T c s g).val

noncomputable def pNext_38C (c : TC) (s : Int) (g : List Int) : Bool := okB (pNext_38T c s g).val

theorem pNext_38_ev (a : HL pNextTs) : evVal (envX Tryz.prog (pNextL 38) [] 1125900980585471 8) Tryz.f120 pNextTs pNextRs a = pNext_38T a.1 a.2.1 a.2.2 := by kernel_rfl

noncomputable def pNext_42T (c : TC) (s : Int) (g : List Int) : RT (Option (TY × Bool)) :=
  let x1 : TC × Bool × List Int × TI × List TY := (c, s == 5, g, (0, 0, 0, 0, 0, 0, 0, 0), [])
  let x2 : Bool := qAtC x1 0
  let x3 : Bool := !x2 || (rDecode c.1 (qAt x1 0)).1 == 42
  let x4 : List TY := [] ++ [(12, pcOf c, 0, 6)] ++ [(5, IntKind.u16.wrap ((spOf c) - 1), IntKind.u8.wrap (shrI IntKind.u16 (pcOf c) 8), 3)] ++ [(5, IntKind.u16.wrap ((spOf c) - 2), IntKind.u8.wrap (pcOf c), 3)]
  let x6 : Int × Int × Int := ((pcOf c), 0, 4)
  let x7 : List TY := [] ++ [(bif s == 5 then 8 else 1, x6)]
  let x9 : List TY := [(11, pcOf c, 0, 3)]
  let x10 : List TY := [] ++ [(1, x6)] ++ x9 ++ x9
  .br (!x3 || x2)
  (.br (x3)
   (.br (pInternal s)
    (fin3 g x4)
    (.br (iN (List.length g) == 0)
     (fin3 g x7)
     (fin3 g x10)))
   (.leaf none))
  (.leaf none)

noncomputable def pNext_42 (c : TC) (s : Int) (g : List Int) : TY × Bool := getO pNextRs.dflt (pNext_42T c s g).val

noncomputable def pNext_42C (c : TC) (s : Int) (g : List Int) : Bool := okB (pNext_42T c s g).val

theorem pNext_42_ev (a : HL pNextTs) : evVal (envX Tryz.prog (pNextL 42) [] 1125900980585471 8) Tryz.f120 pNextTs pNextRs a = pNext_42T a.1 a.2.1 a.2.2 := by kernel_rfl

noncomputable def pNext_46T (c : TC) (s : Int) (g : List Int) : RT (Option (TY × Bool)) :=
  let x1 : TC × Bool × List Int × TI × List TY := (c, s == 5, g, (0, 0, 0, 0, 0, 0, 0, 0), [])
  let x2 : Bool := qAtC x1 0
  let x3 : Int × Int × Int × Int × Int × Int × Int × Int := rDecode c.1 (qAt x1 0)
  let x4 : Bool := !x2 || x3.1 == 46
  let x5 : List TY := [] ++ [(12, pcOf c, 0, 6)] ++ [(5, IntKind.u16.wrap ((spOf c) - 1), IntKind.u8.wrap (shrI IntKind.u16 (pcOf c) 8), 3)] ++ [(5, IntKind.u16.wrap ((spOf c) - 2), IntKind.u8.wrap (pcOf c), 3)]
  let x7 : Int × Int × Int := ((pcOf c), 0, 4)
  let x8 : List TY := [] ++ [(bif s == 5 then 8 else 1, x7)]
  let x10 : List TY := [] ++ [(1, x7)]
  let x11 : Int := qPair (c, s == 5, g, (46, x3.2), x10) 1
  let x12 : List TY := x10 ++ [(3, x11, c.2.1.2.2.2.2.2.2.1, 3)] ++ [(3, IntKind.u16.wrap (x11 + 1), c.2.1.2.2.2.2.2.1, 3)]
  .br (!x4 || x2)
  (.br (x4)
   (.br (pInternal s)
    (fin3 g x5)
    (.br (iN (List.length g) == 0)
     (fin3 g x8)
     (fin3 g x12)))
   (.leaf none))
  (.leaf none)

noncomputable def pNext_46 (c : TC) (s : Int) (g : List Int) : TY × Bool := getO pNextRs.dflt (pNext_46T c s g).val

noncomputable def pNext_46C (c : TC) (s : Int) (g : List Int) : Bool := okB (pNext_46T c s g).val

theorem pNext_46_ev (a : HL pNextTs) : evVal (envX Tryz.prog (pNextL 46) [] 1125900980585471 8) Tryz.f120 pNextTs pNextRs a = pNext_46T a.1 a.2.1 a.2.2 := by kernel_rfl

noncomputable def rNext_3T (c : TC) (s : Int) (g : List Int) : RT (Option (TY × Bool)) :=
  let x1 : Bool := !(rDecode c.1 (R.get (R.int IntKind.u8) g 0)).2.2.1 == 6
  let x2 : List TY := [(bif s == 5 then 8 else 1, pcOf c, 0, 4)]
  let x3 : List TY := x2 ++ [(9, pcOf c, 0, 3)]
  let x4 : TC × Bool × List Int × List TY := (c, s == 5, g, x3)
  let x5 : Bool := !s == 5 || (x1 || mAtC x4 1)
  let x6 : List TY := x2 ++ [(2, IntKind.u16.wrap ((pcOf c) + IntKind.u16.wrap 1), 0, 3)]
  let x7 : TC × Bool × List Int × List TY := (c, s == 5, g, x6)
  let x8 : List TY := [(12, pcOf c, 0, 6)] ++ [(5, IntKind.u16.wrap ((spOf c) - 1), IntKind.u8.wrap (shrI IntKind.u16 (pcOf c) 8), 3)] ++ [(5, IntKind.u16.wrap ((spOf c) - 2), IntKind.u8.wrap (pcOf c), 3)]
  let x10 : List TY := bif (rDecode c.1 (R.get (R.int IntKind.u8) g 0)).2.2.1 == 6 then x3 ++ [(3, rPair c.2.1 2, mAt x4 1, 3)] else x3
  let x12 : List TY := bif (rDecode c.1 (R.get (R.int IntKind.u8) g 0)).2.2.1 == 6 then x6 ++ [(3, rPair c.2.1 2, mAt x7 1, 3)] else x6
  .br (rInternal s || (!decide (iN (List.length g) > 0) || (!inRng 0 (List.length g) || (!(rDecode c.1 (R.get (R.int IntKind.u8) g 0)).1 == 3 || (!x5 || (s == 5 || (x1 || mAtC x7 1)))))))
  (.br (rInternal s || (!decide (iN (List.length g) > 0) || (!inRng 0 (List.length g) || (!(rDecode c.1 (R.get (R.int IntKind.u8) g 0)).1 == 3 || x5))))
   (.br (rInternal s || (!decide (iN (List.length g) > 0) || (!inRng 0 (List.length g) || (rDecode c.1 (R.get (R.int IntKind.u8) g 0)).1 == 3)))
    (.br (rInternal s || (!decide (iN (List.length g) > 0) || inRng 0 (List.length g)))
     (.br (rInternal s)
      (fin3 g x8)
      (.br (decide (iN (List.length g) > 0))
       (.br (s == 5)
        (fin3 g x10)
        (fin3 g x12))
       (fin3 g x2)))
     (.leaf none))
    (.leaf none))
   (.leaf none))
  (.leaf none)

noncomputable def rNext_3 (c : TC) (s : Int) (g : List Int) : TY × Bool := getO rNextRs.dflt (rNext_3T c s g).val

noncomputable def rNext_3C (c : TC) (s : Int) (g : List Int) : Bool := okB (rNext_3T c s g).val

theorem rNext_3_ev (a : HL rNextTs) : evVal (envX Tryz.prog (rNextL 3) [] 2047 8) Tryz.f20 rNextTs rNextRs a = rNext_3T a.1 a.2.1 a.2.2 := by kernel_rfl

noncomputable def rNext_7T (c : TC) (s : Int) (g : List Int) : RT (Option (TY × Bool)) :=
  let x1 : List TY := [(bif s == 5 then 8 else 1, pcOf c, 0, 4)]
  let x2 : List TY := [(9, pcOf c, 0, 3)]
  let x3 : List TY := x1 ++ x2
  let x4 : List TY := [(2, IntKind.u16.wrap ((pcOf c) + IntKind.u16.wrap (IntKind.i64.wrap (1 + 1))), 0, 3)]
  let x5 : List TY := bif s == 5 then x3 ++ x2 else x3 ++ x4
  let x6 : TC × Bool × List Int × List TY := (c, s == 5, g, x5)
  let x7 : Bool := mWordC x6 1
  let x8 : List TY := x5 ++ [(2, mWord x6 1, 0, 3)]
  let x9 : TC × Bool × List Int × List TY := (c, s == 5, g, x8)
  let x10 : Bool := !s == 5 || (!x7 || mWordC x9 1)
  let x11 : Bool := !x10
  let x12 : Bool := !s == 5 || x7
  let x13 : Bool := !x12
  let x14 : List TY := x1 ++ [(2, IntKind.u16.wrap ((pcOf c) + IntKind.u16.wrap 1), 0, 3)]
  let x15 : List TY := bif s == 5 then x14 ++ x2 else x14 ++ x4
  let x16 : TC × Bool × List Int × List TY := (c, s == 5, g, x15)
  let x17 : Bool := mWordC x16 1
  let x18 : List TY := x15 ++ [(2, mWord x16 1, 0, 3)]
  let x19 : TC × Bool × List Int × List TY := (c, s == 5, g, x18)
  let x20 : Bool := s == 5 || (!x17 || mWordC x19 1)
  let x21 : List TY := [(12, pcOf c, 0, 6)] ++ [(5, IntKind.u16.wrap ((spOf c) - 1), IntKind.u8.wrap (shrI IntKind.u16 (pcOf c) 8), 3)] ++ [(5, IntKind.u16.wrap ((spOf c) - 2), IntKind.u8.wrap (pcOf c), 3)]
  let x23 : List TY := x8 ++ [(2, IntKind.u16.wrap (mWord x9 1 + 1), 0, 3)]
  let x25 : List TY := x18 ++ [(2, IntKind.u16.wrap (mWord x19 1 + 1), 0, 3)]
  .br (rInternal s || (!decide (iN (List.length g) > 0) || (!inRng 0 (List.length g) || (!(rDecode c.1 (R.get (R.int IntKind.u8) g 0)).1 == 7 || (x11 || (x13 || (!x20 || (s == 5 || x17))))))))
  (.br (rInternal s || (!decide (iN (List.length g) > 0) || (!inRng 0 (List.length g) || (!(rDecode c.1 (R.get (R.int IntKind.u8) g 0)).1 == 7 || (x11 || (x13 || x20))))))
   (.br (rInternal s || (!decide (iN (List.length g) > 0) || (!inRng 0 (List.length g) || (!(rDecode c.1 (R.get (R.int IntKind.u8) g 0)).1 == 7 || (x11 || x12)))))
    (.br (rInternal s || (!decide (iN (List.length g) > 0) || (!inRng 0 (List.length g) || (!(rDecode c.1 (R.get (R.int IntKind.u8) g 0)).1 == 7 || x10))))
     (.br (rInternal s || (!decide (iN (List.length g) > 0) || (!inRng 0 (List.length g) || (rDecode c.1 (R.get (R.int IntKind.u8) g 0)).1 == 7)))
      (.br (rInternal s || (!decide (iN (List.length g) > 0) || inRng 0 (List.length g)))
       (.br (rInternal s)
        (fin3 g x21)
        (.br (decide (iN (List.length g) > 0))
         (.br (s == 5)
          (fin3 g x23)
          (fin3 g x25))
         (fin3 g x1)))
       (.leaf none))
      (.leaf none))
     (.leaf none))
    (.leaf none))
   (.leaf none))
  (.leaf none)

noncomputable def rNext_7 (c : TC) (s : Int) (g : List Int) : TY × Bool := getO rNextRs.dflt (rNext_7T c s g).val

noncomputable def rNext_7C (c : TC) (s : Int) (g : List Int) : Bool := okB (rNext_7T c s g).val

theorem rNext_7_ev (a : HL rNextTs) : evVal (envX Tryz.prog (rNextL 7) [] 2047 8) Tryz.f20 rNextTs rNextRs a = rNext_7T a.1 a.2.1 a.2.2 := by kernel_rfl

noncomputable def rNext_11T (c : TC) (s : Int) (g : List Int) : RT (Option (TY × Bool)) :=
  let x1 : List TY := [(12, pcOf c, 0, 6)] ++ [(5, IntKind.u16.wrap ((spOf c) - 1), IntKind.u8.wrap (shrI IntKind.u16 (pcOf c) 8), 3)] ++ [(5, IntKind.u16.wrap ((spOf c) - 2), IntKind.u8.wrap (pcOf c), 3)]
  let x3 : List TY := [(bif s == 5 then 8 else 1, pcOf c, 0, 4)]
  .br (rInternal s || (!decide (iN (List.length g) > 0) || (!inRng 0 (List.length g) || (rDecode c.1 (R.get (R.int IntKind.u8) g 0)).1 == 11)))
  (.br (rInternal s || (!decide (iN (List.length g) > 0) || inRng 0 (List.length g)))
   (.br (rInternal s)
    (fin3 g x1)
    (fin3 g x3))
   (.leaf none))
  (.leaf none)

noncomputable def rNext_11 (c : TC) (s : Int) (g : List Int) : TY × Bool := getO rNextRs.dflt (rNext_11T c s g).val

noncomputable def rNext_11C (c : TC) (s : Int) (g : List Int) : Bool := okB (rNext_11T c s g).val

theorem rNext_11_ev (a : HL rNextTs) : evVal (envX Tryz.prog (rNextL 11) [] 2047 8) Tryz.f20 rNextTs rNextRs a = rNext_11T a.1 a.2.1 a.2.2 := by kernel_rfl

noncomputable def rNext_15T (c : TC) (s : Int) (g : List Int) : RT (Option (TY × Bool)) :=
  let x1 : List TY := [(bif s == 5 then 8 else 1, pcOf c, 0, 4)]
  let x2 : TC × Bool × List Int × List TY := (c, s == 5, g, x1)
  let x3 : List TY := [(12, pcOf c, 0, 6)] ++ [(5, IntKind.u16.wrap ((spOf c) - 1), IntKind.u8.wrap (shrI IntKind.u16 (pcOf c) 8), 3)] ++ [(5, IntKind.u16.wrap ((spOf c) - 2), IntKind.u8.wrap (pcOf c), 3)]
  let x5 : List TY := x1 ++ [(2, rPair c.2.1 2, 0, 3)] ++ [(3, rPair c.2.1 2, (rStepped c (15, (rDecode c.1 (R.get (R.int IntKind.u8) g 0)).2) (mAt x2 1)).1, 3)]
  let x7 : Nat := List.length x1
  let x8 : Bool := decide (iN (List.length g) ≥ iN x7)
  let x9 : Bool := inRng (iN (List.length g)) x7
  let x10 : TY × Bool := (R.get (RY) x1 (iN (List.length g)), true)
  .br (rInternal s || (!decide (iN (List.length g) > 0) || (!inRng 0 (List.length g) || (!(rDecode c.1 (R.get (R.int IntKind.u8) g 0)).1 == 15 || (!(rDecode c.1 (R.get (R.int IntKind.u8) g 0)).2.2.1 == 6 || mAtC x2 1)))))
  (.br (rInternal s || (!decide (iN (List.length g) > 0) || (!inRng 0 (List.length g) || (rDecode c.1 (R.get (R.int IntKind.u8) g 0)).1 == 15)))
   (.br (rInternal s || (!decide (iN (List.length g) > 0) || inRng 0 (List.length g)))
    (.br (rInternal s)
     (fin3 g x3)
     (.br (decide (iN (List.length g) > 0))
      (.br ((rDecode c.1 (R.get (R.int IntKind.u8) g 0)).2.2.1 == 6)
       (fin3 g x5)
       (.br (x8)
        (.leaf (some (((0, 0, 0, 0), false))))
        (.br (x9)
         (.leaf (some (x10)))
         (.leaf none))))
      (.br (x8)
       (.leaf (some (((0, 0, 0, 0), false))))
       (.br (x9)
        (.leaf (some (x10)))
        (.leaf none)))))
    (.leaf none))
   (.leaf none))
  (.leaf none)

noncomputable def rNext_15 (c : TC) (s : Int) (g : List Int) : TY × Bool := getO rNextRs.dflt (rNext_15T c s g).val

noncomputable def rNext_15C (c : TC) (s : Int) (g : List Int) : Bool := okB (rNext_15T c s g).val

theorem rNext_15_ev (a : HL rNextTs) : evVal (envX Tryz.prog (rNextL 15) [] 2047 8) Tryz.f20 rNextTs rNextRs a = rNext_15T a.1 a.2.1 a.2.2 := by kernel_rfl

noncomputable def rNext_19T (c : TC) (s : Int) (g : List Int) : RT (Option (TY × Bool)) :=
  let x1 : List TY := [(12, pcOf c, 0, 6)] ++ [(5, IntKind.u16.wrap ((spOf c) - 1), IntKind.u8.wrap (shrI IntKind.u16 (pcOf c) 8), 3)] ++ [(5, IntKind.u16.wrap ((spOf c) - 2), IntKind.u8.wrap (pcOf c), 3)]
  let x3 : List TY := [(bif s == 5 then 8 else 1, pcOf c, 0, 4)]
  .br (rInternal s || (!decide (iN (List.length g) > 0) || (!inRng 0 (List.length g) || (rDecode c.1 (R.get (R.int IntKind.u8) g 0)).1 == 19)))
  (.br (rInternal s || (!decide (iN (List.length g) > 0) || inRng 0 (List.length g)))
   (.br (rInternal s)
    (fin3 g x1)
    (fin3 g x3))
   (.leaf none))
  (.leaf none)

noncomputable def rNext_19 (c : TC) (s : Int) (g : List Int) : TY × Bool := getO rNextRs.dflt (rNext_19T c s g).val

noncomputable def rNext_19C (c : TC) (s : Int) (g : List Int) : Bool := okB (rNext_19T c s g).val

theorem rNext_19_ev (a : HL rNextTs) : evVal (envX Tryz.prog (rNextL 19) [] 2047 8) Tryz.f20 rNextTs rNextRs a = rNext_19T a.1 a.2.1 a.2.2 := by kernel_rfl

noncomputable def rNext_23T (c : TC) (s : Int) (g : List Int) : RT (Option (TY × Bool)) :=
  let x1 : List TY := [(12, pcOf c, 0, 6)] ++ [(5, IntKind.u16.wrap ((spOf c) - 1), IntKind.u8.wrap (shrI IntKind.u16 (pcOf c) 8), 3)] ++ [(5, IntKind.u16.wrap ((spOf c) - 2), IntKind.u8.wrap (pcOf c), 3)]
  let x3 : List TY := [(bif s == 5 then 8 else 1, pcOf c, 0, 4)]
  .br (rInternal s || (!decide (iN (List.length g) > 0) || (!inRng 0 (List.length g) || (rDecode c.1 (R.get (R.int IntKind.u8) g 0)).1 == 23)))
  (.br (rInternal s || (!decide (iN (List.length g) > 0) || inRng 0 (List.length g)))
   (.br (rInternal s)
    (fin3 g x1)
    (fin3 g x3))
   (.leaf none))
  (.leaf none)

noncomputable def rNext_23 (c : TC) (s : Int) (g : List Int) : TY × Bool := getO rNextRs.dflt (rNext_23T c s g).val

noncomputable def rNext_23C (c : TC) (s : Int) (g : List Int) : Bool := okB (rNext_23T c s g).val

theorem rNext_23_ev (a : HL rNextTs) : evVal (envX Tryz.prog (rNextL 23) [] 2047 8) Tryz.f20 rNextTs rNextRs a = rNext_23T a.1 a.2.1 a.2.2 := by kernel_rfl

noncomputable def rNext_27T (c : TC) (s : Int) (g : List Int) : RT (Option (TY × Bool)) :=
  let x1 : Int := IntKind.u16.wrap ((spOf c) - 1)
  let x2 : Int := IntKind.u16.wrap ((spOf c) - 2)
  let x3 : List TY := [(12, pcOf c, 0, 6)] ++ [(5, x1, IntKind.u8.wrap (shrI IntKind.u16 (pcOf c) 8), 3)] ++ [(5, x2, IntKind.u8.wrap (pcOf c), 3)]
  let x5 : List TY := [(bif s == 5 then 8 else 1, pcOf c, 0, 4)]
  let x6 : Int := mBehind (c, s == 5, g, x5) (rDecode c.1 (R.get (R.int IntKind.u8) g 0)).2.1
  let x7 : List TY := x5 ++ [(5, x1, IntKind.u8.wrap (shrI IntKind.u16 x6 8), 3)] ++ [(5, x2, IntKind.u8.wrap x6, 3)]
  .br (rInternal s || (!decide (iN (List.length g) > 0) || (!inRng 0 (List.length g) || (rDecode c.1 (R.get (R.int IntKind.u8) g 0)).1 == 27)))
  (.br (rInternal s || (!decide (iN (List.length g) > 0) || inRng 0 (List.length g)))
   (.br (rInternal s)
    (fin3 g x3)
    (.br (decide (iN (List.length g) > 0))
     (fin3 g x7)
     (fin3 g x5)))
   (.leaf none))
  (.leaf none)

noncomputable def rNext_27 (c : TC) (s : Int) (g : List Int) : TY × Bool := getO rNextRs.dflt (rNext_27T c s g).val

noncomputable def rNext_27C (c : TC) (s : Int) (g : List Int) : Bool := okB (rNext_27T c s g).val

theorem rNext_27_ev (a : HL rNextTs) : evVal (envX Tryz.prog (rNextL 27) [] 2047 8) Tryz.f20 rNextTs rNextRs a = rNext_27T a.1 a.2.1 a.2.2 := by kernel_rfl

noncomputable def rNext_31T (c : TC) (s : Int) (g : List Int) : RT (Option (TY × Bool)) :=
  let x1 : List TY := [(12, pcOf c, 0, 6)] ++ [(5, IntKind.u16.wrap ((spOf c) - 1), IntKind.u8.wrap (shrI IntKind.u16 (pcOf c) 8), 3)] ++ [(5, IntKind.u16.wrap ((spOf c) - 2), IntKind.u8.wrap (pcOf c), 3)]
  let x3 : List TY := [(bif s == 5 then 8 else 1, pcOf c, 0, 4)]
  let x4 : List TY := x3 ++ [(4, spOf c, 0, 3)] ++ [(4, IntKind.u16.wrap ((spOf c) + 1), 0, 3)]
  .br (rInternal s || (!decide (iN (List.length g) > 0) || (!inRng 0 (List.length g) || (rDecode c.1 (R.get (R.int IntKind.u8) g 0)).1 == 31)))
  (.br (rInternal s || (!decide (iN (List.length g) > 0) || inRng 0 (List.length g)))
   (.br (rInternal s)
    (fin3 g x1)
    (.br (decide (iN (List.length g) > 0))
     (fin3 g x4)
     (fin3 g x3)))
   (.leaf none))
  (.leaf none)

noncomputable def rNext_31 (c : TC) (s : Int) (g : List Int) : TY × Bool := getO rNextRs.dflt (rNext_31T c s g).val

noncomputable def rNext_31C (c : TC) (s : Int) (g : List Int) : Bool := okB (rNext_31T c s g).val

theorem rNext_31_ev (a : HL rNextTs) : evVal (envX Tryz.prog (rNextL 31) [] 2047 8) Tryz.f20 rNextTs rNextRs a = rNext_31T a.1 a.2.1 a.2.2 := by kernel_rfl

noncomputable def rNext_35T (c : TC) (s : Int) (g : List Int) : RT (Option (TY × Bool)) :=
  let x1 : List TY := [(12, pcOf c, 0, 6)] ++ [(5, IntKind.u16.wrap ((spOf c) - 1), IntKind.u8.wrap (shrI IntKind.u16 (pcOf c) 8), 3)] ++ [(5, IntKind.u16.wrap ((spOf c) - 2), IntKind.u8.wrap (pcOf c), 3)]
  let x3 : List TY := [(bif s == 5 then 8 else 1, pcOf c, 0, 4)]
  .br (rInternal s || (!decide (iN (List.length g) > 0) || (!inRng 0 (List.length g) || (rDecode c.1 (R.get (R.int IntKind.u8) g 0)).1 == 35)))
  (.br (rInternal s || (!decide (iN (List.length g) > 0) || inRng 0 (List.length g)))
   (.br (rInternal s)
    (fin3 g x1)
    (fin3 g x3))
   (.leaf none))
  (.leaf none)

noncomputable def rNext_35 (c : TC) (s : Int) (g : List Int) : TY × Bool := getO rNextRs.dflt (rNext_35T c s g).val

noncomputable def rNext_35C (c : TC) (s : Int) (g : List Int) : Bool := okB (rNext_35T c s g).val

theorem rNext_35_ev (a : HL rNextTs) : evVal (envX Tryz.prog (rNextL 35) [] 2047 8) Tryz.f20 rNextTs rNextRs a = rNext_35T a.1 a.2.1 a.2.2 := by kernel_rfl

noncomputable def rNext_39T (c : TC) (s : Int) (g : List Int) : RT (Option (TY × Bool)) :=
  let x1 : List TY := [(12, pcOf c, 0, 6)] ++ [(5, IntKind.u16.wrap ((spOf c) - 1), IntKind.u8.wrap (shrI IntKind.u16 (pcOf c) 8), 3)] ++ [(5, IntKind.u16.wrap ((spOf c) - 2), IntKind.u8.wrap (pcOf c), 3)]
  let x3 : List TY := [(bif s == 5 then 8 else 1, pcOf c, 0, 4)]
  .br (rInternal s || (!decide (iN (List.length g) > 0) || (!inRng 0 (List.length g) || (rDecode c.1 (R.get (R.int IntKind.u8) g 0)).1 == 39)))
  (.br (rInternal s || (!decide (iN (List.length g) > 0) || inRng 0 (List.length g)))
   (.br (rInternal s)
    (fin3 g x1)
    (fin3 g x3))
   (.leaf none))
  (.leaf none)

noncomputable def rNext_39 (c : TC) (s : Int) (g : List Int) : TY × Bool := getO rNextRs.dflt (rNext_39T c s g).val

noncomputable def rNext_39C (c : TC) (s : Int) (g : List Int) : Bool := okB (rNext_39T c s g).val

theorem rNext_39_ev (a : HL rNextTs) : evVal (envX Tryz.prog (rNextL 39) [] 2047 8) Tryz.f20 rNextTs rNextRs a = rNext_39T a.1 a.2.1 a.2.2 := by kernel_rfl

noncomputable def rNext_43T (c : TC) (s : Int) (g : List Int) : RT (Option (TY × Bool)) :=
  let x1 : List TY := [(12, pcOf c, 0, 6)] ++ [(5, IntKind.u16.wrap ((spOf c) - 1), IntKind.u8.wrap (shrI IntKind.u16 (pcOf c) 8), 3)] ++ [(5, IntKind.u16.wrap ((spOf c) - 2), IntKind.u8.wrap (pcOf c), 3)]
  let x3 : List TY := [(bif s == 5 then 8 else 1, pcOf c, 0, 4)]
  let x4 : Int × Int × Int := ((pcOf c), 0, 3)
  let x5 : List TY := [(11, x4)]
  let x6 : List TY := x3 ++ [(9, x4)] ++ x5
  let x8 : List TY := x3 ++ [(2, IntKind.u16.wrap ((pcOf c) + IntKind.u16.wrap 1), 0, 3)] ++ x5
  .br (rInternal s || (!decide (iN (List.length g) > 0) || (!inRng 0 (List.length g) || (rDecode c.1 (R.get (R.int IntKind.u8) g 0)).1 == 43)))
  (.br (rInternal s || (!decide (iN (List.length g) > 0) || inRng 0 (List.length g)))
   (.br (rInternal s)
    (fin3 g x1)
    (.br (decide (iN (List.length g) > 0))
     (.br (s == 5)
      (fin3 g x6)
      (fin3 g x8))
     (fin3 g x3)))
   (.leaf none))
  (.leaf none)

noncomputable def rNext_43 (c : TC) (s : Int) (g : List Int) : TY × Bool := getO rNextRs.dflt (rNext_43T c s g).val

noncomputable def rNext_43C (c : TC) (s : Int) (g : List Int) : Bool := okB (rNext_43T c s g).val

theorem rNext_43_ev (a : HL rNextTs) : evVal (envX Tryz.prog (rNextL 43) [] 2047 8) Tryz.f20 rNextTs rNextRs a = rNext_43T a.1 a.2.1 a.2.2 := by kernel_rfl

noncomputable def rNext_47T (c : TC) (s : Int) (g : List Int) : RT (Option (TY × Bool)) :=
  let x1 : List TY := [(12, pcOf c, 0, 6)] ++ [(5, IntKind.u16.wrap ((spOf c) - 1), IntKind.u8.wrap (shrI IntKind.u16 (pcOf c) 8), 3)] ++ [(5, IntKind.u16.wrap ((spOf c) - 2), IntKind.u8.wrap (pcOf c), 3)]
  let x3 : List TY := [(bif s == 5 then 8 else 1, pcOf c, 0, 4)]
  let x4 : List TY := x3 ++ [(2, rPair c.2.1 1, 0, 3)] ++ [(2, IntKind.u16.wrap (rPair c.2.1 1 + 1), 0, 3)]
  .br (rInternal s || (!decide (iN (List.length g) > 0) || (!inRng 0 (List.length g) || (rDecode c.1 (R.get (R.int IntKind.u8) g 0)).1 == 47)))
  (.br (rInternal s || (!decide (iN (List.length g) > 0) || inRng 0 (List.length g)))
   (.br (rInternal s)
    (fin3 g x1)
    (.br (decide (iN (List.length g) > 0))
     (fin3 g x4)
     (fin3 g x3)))
   (.leaf none))
  (.leaf none)

noncomputable def rNext_47 (c : TC) (s : Int) (g : List Int) : TY × Bool := getO rNextRs.dflt (rNext_47T c s g).val

noncomputable def rNext_47C (c : TC) (s : Int) (g : List Int) : Bool := okB (rNext_47T c s g).val

theorem rNext_47_ev (a : HL rNextTs) : evVal (envX Tryz.prog (rNextL 47) [] 2047 8) Tryz.f20 rNextTs rNextRs a = rNext_47T a.1 a.2.1 a.2.2 := by kernel_rfl
end
end Go.Proofs.YteboknglfjadoaaGreat
