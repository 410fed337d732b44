/-
  Contracts of functions; each found by the symbolic executor and checked by the kernel. Conditions: none.
-/
import Derived.Test.YteboknglfjadoaaGreatS3D
import Derived.Test.YteboknglfjadoaaGreatProg
import Derived.Test.YteboknglfjadoaaGreatNext0
set_option linter.unusedSimpArgs false
open Go Go.S3 Go.Proofs
set_option linter.unusedVariables false
set_option maxRecDepth 100000
namespace Go.Proofs.YteboknglfjadoaaGreat
noncomputable section
noncomputable def pNext_3T (c : TC) (s : Int) (g : List Int) : RT (Option (TY × Bool)) :=
  let x1 : TC × Bool × List Int × TI × List TY := (c, s == 5, g, (0, 0, 0, 0, 0, 0, 0, 0), [])
  let x2 : Bool := qAtC x1 0
  let x3 : Int × Int × Int × Int × Int × Int × Int × Int := rDecode c.1 (qAt x1 0)
  let x4 : Bool := !x2 || x3.1 == 3
  let x5 : Int × Int × Int × Int × Int × Int × Int := x3.2
  let x6 : Bool := x5.2.1 == 6
  let x7 : Int × Int × Int × Int × Int × Int × Int × Int := (3, x5)
  let x8 : Int × Int × Int := ((pcOf c), 0, 4)
  let x9 : List TY := [] ++ [(1, x8)]
  let x10 : List TY := bif s == 5 then x9 ++ [(9, pcOf c, 0, 3)] else x9 ++ [(2, IntKind.u16.wrap ((pcOf c) + IntKind.u16.wrap 1), 0, 3)]
  let x11 : TC × Bool × List Int × TI × List TY := (c, s == 5, g, x7, x10)
  let x12 : List TY := [] ++ [(12, pcOf c, 0, 6)] ++ [(5, IntKind.u16.wrap ((spOf c) - 1), IntKind.u8.wrap (shrI IntKind.u16 (pcOf c) 8), 3)] ++ [(5, IntKind.u16.wrap ((spOf c) - 2), IntKind.u8.wrap (pcOf c), 3)]
  let x14 : List TY := [] ++ [(bif s == 5 then 8 else 1, x8)]
  let x16 : List TY := bif x6 then x10 ++ [(3, qPair (c, s == 5, g, x7, x9) 2, qAt x11 1, 3)] else x10
  .br (!x4 || x2)
  (.br (x4)
   (.br (pInternal s || (iN (List.length g) == 0 || (!x6 || qAtC x11 1)))
    (.br (pInternal s)
     (fin3 g x12)
     (.br (iN (List.length g) == 0)
      (fin3 g x14)
      (fin3 g x16)))
    (.leaf none))
   (.leaf none))
  (.leaf none)

noncomputable def pNext_3 (c : TC) (s : Int) (g : List Int) : TY × Bool := getO pNextRs.dflt (pNext_3T c s g).val

noncomputable def pNext_3C (c : TC) (s : Int) (g : List Int) : Bool := okB (pNext_3T c s g).val

theorem pNext_3_ev (a : HL pNextTs) : evVal (envX Tryz.prog (pNextL 3) [] 1125900980585471 8) Tryz.f120 pNextTs pNextRs a = pNext_3T a.1 a.2.1 a.2.2 := by kernel_rfl

noncomputable def pNext_7T (c : TC) (s : Int) (g : List Int) : RT (Option (TY × Bool)) :=
  let x1 : TC × Bool × List Int × TI × List TY := (c, s == 5, g, (0, 0, 0, 0, 0, 0, 0, 0), [])
  let x2 : Bool := qAtC x1 0
  let x3 : Int × Int × Int × Int × Int × Int × Int × Int := rDecode c.1 (qAt x1 0)
  let x4 : Bool := !x2 || x3.1 == 7
  let x5 : Int × Int × Int := ((pcOf c), 0, 4)
  let x6 : List TY := [] ++ [(1, x5)]
  let x7 : List TY := [(9, pcOf c, 0, 3)]
  let x8 : List TY := bif s == 5 then x6 ++ x7 else x6 ++ [(2, IntKind.u16.wrap ((pcOf c) + IntKind.u16.wrap 1), 0, 3)]
  let x9 : List TY := bif s == 5 then x8 ++ x7 else x8 ++ [(2, IntKind.u16.wrap ((pcOf c) + IntKind.u16.wrap (IntKind.i64.wrap (1 + 1))), 0, 3)]
  let x10 : TC × Bool × List Int × TI × List TY := (c, s == 5, g, (7, x3.2), x9)
  let x11 : List TY := [] ++ [(12, pcOf c, 0, 6)] ++ [(5, IntKind.u16.wrap ((spOf c) - 1), IntKind.u8.wrap (shrI IntKind.u16 (pcOf c) 8), 3)] ++ [(5, IntKind.u16.wrap ((spOf c) - 2), IntKind.u8.wrap (pcOf c), 3)]
  let x13 : List TY := [] ++ [(bif s == 5 then 8 else 1, x5)]
  let x15 : Int := qJoin x10 1
  let x16 : List TY := x9 ++ [(2, x15, 0, 3)] ++ [(2, IntKind.u16.wrap (x15 + 1), 0, 3)]
  .br (!x4 || x2)
  (.br (x4)
   (.br (pInternal s || (iN (List.length g) == 0 || qJoinC x10 1))
    (.br (pInternal s)
     (fin3 g x11)
     (.br (iN (List.length g) == 0)
      (fin3 g x13)
      (fin3 g x16)))
    (.leaf none))
   (.leaf none))
  (.leaf none)

noncomputable def pNext_7 (c : TC) (s : Int) (g : List Int) : TY × Bool := getO pNextRs.dflt (pNext_7T c s g).val

noncomputable def pNext_7C (c : TC) (s : Int) (g : List Int) : Bool := okB (pNext_7T c s g).val

theorem pNext_7_ev (a : HL pNextTs) : evVal (envX Tryz.prog (pNextL 7) [] 1125900980585471 8) Tryz.f120 pNextTs pNextRs a = pNext_7T a.1 a.2.1 a.2.2 := by kernel_rfl

noncomputable def pNext_11T (c : TC) (s : Int) (g : List Int) : RT (Option (TY × Bool)) :=
  let x1 : TC × Bool × List Int × TI × List TY := (c, s == 5, g, (0, 0, 0, 0, 0, 0, 0, 0), [])
  let x2 : Bool := qAtC x1 0
  let x3 : Bool := !x2 || (rDecode c.1 (qAt x1 0)).1 == 11
  let x4 : List TY := [] ++ [(12, pcOf c, 0, 6)] ++ [(5, IntKind.u16.wrap ((spOf c) - 1), IntKind.u8.wrap (shrI IntKind.u16 (pcOf c) 8), 3)] ++ [(5, IntKind.u16.wrap ((spOf c) - 2), IntKind.u8.wrap (pcOf c), 3)]
  let x6 : Int × Int × Int := ((pcOf c), 0, 4)
  let x7 : List TY := [] ++ [(bif s == 5 then 8 else 1, x6)]
  let x9 : List TY := [] ++ [(1, x6)]
  .br (!x3 || x2)
  (.br (x3)
   (.br (pInternal s)
    (fin3 g x4)
    (.br (iN (List.length g) == 0)
     (fin3 g x7)
     (fin3 g x9)))
   (.leaf none))
  (.leaf none)

noncomputable def pNext_11 (c : TC) (s : Int) (g : List Int) : TY × Bool := getO pNextRs.dflt (pNext_11T c s g).val

noncomputable def pNext_11C (c : TC) (s : Int) (g : List Int) : Bool := okB (pNext_11T c s g).val

theorem pNext_11_ev (a : HL pNextTs) : evVal (envX Tryz.prog (pNextL 11) [] 1125900980585471 8) Tryz.f120 pNextTs pNextRs a = pNext_11T a.1 a.2.1 a.2.2 := by kernel_rfl

noncomputable def pNext_15T (c : TC) (s : Int) (g : List Int) : RT (Option (TY × Bool)) :=
  let x1 : TC × Bool × List Int × TI × List TY := (c, s == 5, g, (0, 0, 0, 0, 0, 0, 0, 0), [])
  let x2 : Bool := qAtC x1 0
  let x3 : Int × Int × Int × Int × Int × Int × Int × Int := rDecode c.1 (qAt x1 0)
  let x4 : Bool := !x2 || x3.1 == 15
  let x5 : Int × Int × Int × Int × Int × Int × Int := x3.2
  let x6 : Bool := x5.2.1 == 6
  let x7 : Int × Int × Int × Int × Int × Int × Int × Int := (15, x5)
  let x8 : Int × Int × Int := ((pcOf c), 0, 4)
  let x9 : List TY := [] ++ [(1, x8)]
  let x10 : Int := qPair (c, s == 5, g, x7, x9) 2
  let x11 : List TY := x9 ++ [(2, x10, 0, 3)]
  let x12 : TC × Bool × List Int × TI × List TY := (c, s == 5, g, x7, x11)
  let x13 : List TY := [] ++ [(12, pcOf c, 0, 6)] ++ [(5, IntKind.u16.wrap ((spOf c) - 1), IntKind.u8.wrap (shrI IntKind.u16 (pcOf c) 8), 3)] ++ [(5, IntKind.u16.wrap ((spOf c) - 2), IntKind.u8.wrap (pcOf c), 3)]
  let x15 : List TY := [] ++ [(bif s == 5 then 8 else 1, x8)]
  let x17 : List TY := bif x6 then x11 ++ [(3, x10, qCounted x12, 3)] else x9
  .br (!x4 || x2)
  (.br (x4)
   (.br (pInternal s || (iN (List.length g) == 0 || (!x6 || qCountedC x12)))
    (.br (pInternal s)
     (fin3 g x13)
     (.br (iN (List.length g) == 0)
      (fin3 g x15)
      (fin3 g x17)))
    (.leaf none))
   (.leaf none))
  (.leaf none)

noncomputable def pNext_15 (c : TC) (s : Int) (g : List Int) : TY × Bool := getO pNextRs.dflt (pNext_15T c s g).val

noncomputable def pNext_15C (c : TC) (s : Int) (g : List Int) : Bool := okB (pNext_15T c s g).val

theorem pNext_15_ev (a : HL pNextTs) : evVal (envX Tryz.prog (pNextL 15) [] 1125900980585471 8) Tryz.f120 pNextTs pNextRs a = pNext_15T a.1 a.2.1 a.2.2 := by kernel_rfl

noncomputable def pNext_19T (c : TC) (s : Int) (g : List Int) : RT (Option (TY × Bool)) :=
  let x1 : TC × Bool × List Int × TI × List TY := (c, s == 5, g, (0, 0, 0, 0, 0, 0, 0, 0), [])
  let x2 : Bool := qAtC x1 0
  let x3 : Bool := !x2 || (rDecode c.1 (qAt x1 0)).1 == 19
  let x4 : List TY := [] ++ [(12, pcOf c, 0, 6)] ++ [(5, IntKind.u16.wrap ((spOf c) - 1), IntKind.u8.wrap (shrI IntKind.u16 (pcOf c) 8), 3)] ++ [(5, IntKind.u16.wrap ((spOf c) - 2), IntKind.u8.wrap (pcOf c), 3)]
  let x6 : Int × Int × Int := ((pcOf c), 0, 4)
  let x7 : List TY := [] ++ [(bif s == 5 then 8 else 1, x6)]
  let x9 : List TY := [] ++ [(1, x6)]
  .br (!x3 || x2)
  (.br (x3)
   (.br (pInternal s)
    (fin3 g x4)
    (.br (iN (List.length g) == 0)
     (fin3 g x7)
     (fin3 g x9)))
   (.leaf none))
  (.leaf none)

noncomputable def pNext_19 (c : TC) (s : Int) (g : List Int) : TY × Bool := getO pNextRs.dflt (pNext_19T c s g).val

noncomputable def pNext_19C (c : TC) (s : Int) (g : List Int) : Bool := okB (pNext_19T c s g).val

theorem pNext_19_ev (a : HL pNextTs) : evVal (envX Tryz.prog (pNextL 19) [] 1125900980585471 8) Tryz.f120 pNextTs pNextRs a = pNext_19T a.1 a.2.1 a.2.2 := by kernel_rfl

noncomputable def pNext_23T (c : TC) (s : Int) (g : List Int) : RT (Option (TY × Bool)) :=
  let x1 : TC × Bool × List Int × TI × List TY := (c, s == 5, g, (0, 0, 0, 0, 0, 0, 0, 0), [])
  let x2 : Bool := qAtC x1 0
  let x3 : Bool := !x2 || (rDecode c.1 (qAt x1 0)).1 == 23
  let x4 : List TY := [] ++ [(12, pcOf c, 0, 6)] ++ [(5, IntKind.u16.wrap ((spOf c) - 1), IntKind.u8.wrap (shrI IntKind.u16 (pcOf c) 8), 3)] ++ [(5, IntKind.u16.wrap ((spOf c) - 2), IntKind.u8.wrap (pcOf c), 3)]
  let x6 : Int × Int × Int := ((pcOf c), 0, 4)
  let x7 : List TY := [] ++ [(bif s == 5 then 8 else 1, x6)]
  let x9 : List TY := [] ++ [(1, x6)]
  .br (!x3 || x2)
  (.br (x3)
   (.br (pInternal s)
    (fin3 g x4)
    (.br (iN (List.length g) == 0)
     (fin3 g x7)
     (fin3 g x9)))
   (.leaf none))
  (.leaf none)

noncomputable def pNext_23 (c : TC) (s : Int) (g : List Int) : TY × Bool := getO pNextRs.dflt (pNext_23T c s g).val

noncomputable def pNext_23C (c : TC) (s : Int) (g : List Int) : Bool := okB (pNext_23T c s g).val

theorem pNext_23_ev (a : HL pNextTs) : evVal (envX Tryz.prog (pNextL 23) [] 1125900980585471 8) Tryz.f120 pNextTs pNextRs a = pNext_23T a.1 a.2.1 a.2.2 := by kernel_rfl

noncomputable def pNext_27T (c : TC) (s : Int) (g : List Int) : RT (Option (TY × Bool)) :=
  let x1 : TC × Bool × List Int × TI × List TY := (c, s == 5, g, (0, 0, 0, 0, 0, 0, 0, 0), [])
  let x2 : Bool := qAtC x1 0
  let x3 : Int × Int × Int × Int × Int × Int × Int × Int := rDecode c.1 (qAt x1 0)
  let x4 : Bool := !x2 || x3.1 == 27
  let x5 : Int := IntKind.u16.wrap ((spOf c) - 1)
  let x6 : Int := IntKind.u16.wrap ((spOf c) - 2)
  let x7 : List TY := [] ++ [(12, pcOf c, 0, 6)] ++ [(5, x5, IntKind.u8.wrap (shrI IntKind.u16 (pcOf c) 8), 3)] ++ [(5, x6, IntKind.u8.wrap (pcOf c), 3)]
  let x9 : Int × Int × Int := ((pcOf c), 0, 4)
  let x10 : List TY := [] ++ [(bif s == 5 then 8 else 1, x9)]
  let x12 : List TY := [] ++ [(1, x9)]
  let x13 : Int := qBehind (c, s == 5, g, (27, x3.2), x12)
  let x14 : List TY := x12 ++ [(5, x5, IntKind.u8.wrap (shrI IntKind.u16 x13 8), 3)] ++ [(5, x6, IntKind.u8.wrap x13, 3)]
  .br (!x4 || x2)
  (.br (x4)
   (.br (pInternal s)
    (fin3 g x7)
    (.br (iN (List.length g) == 0)
     (fin3 g x10)
     (fin3 g x14)))
   (.leaf none))
  (.leaf none)

noncomputable def pNext_27 (c : TC) (s : Int) (g : List Int) : TY × Bool := getO pNextRs.dflt (pNext_27T c s g).val

noncomputable def pNext_27C (c : TC) (s : Int) (g : List Int) : Bool := okB (pNext_27T c s g).val

theorem pNext_27_ev (a : HL pNextTs) : evVal (envX Tryz.prog (pNextL 27) [] 1125900980585471 8) Tryz.f120 pNextTs pNextRs a = pNext_27T a.1 a.2.1 a.2.2 := by kernel_rfl

noncomputable def pNext_31T (c : TC) (s : Int) (g : List Int) : RT (Option (TY × Bool)) :=
  let x1 : TC × Bool × List Int × TI × List TY := (c, s == 5, g, (0, 0, 0, 0, 0, 0, 0, 0), [])
  let x2 : Bool := qAtC x1 0
  let x3 : Bool := !x2 || (rDecode c.1 (qAt x1 0)).1 == 31
  let x4 : List TY := [] ++ [(12, pcOf c, 0, 6)] ++ [(5, IntKind.u16.wrap ((spOf c) - 1), IntKind.u8.wrap (shrI IntKind.u16 (pcOf c) 8), 3)] ++ [(5, IntKind.u16.wrap ((spOf c) - 2), IntKind.u8.wrap (pcOf c), 3)]
  let x6 : Int × Int × Int := ((pcOf c), 0, 4)
  let x7 : List TY := [] ++ [(bif s == 5 then 8 else 1, x6)]
  let x9 : List TY := [] ++ [(1, x6)] ++ [(4, spOf c, 0, 3)] ++ [(4, IntKind.u16.wrap ((spOf c) + 1), 0, 3)]
  .br (!x3 || x2)
  (.br (x3)
   (.br (pInternal s)
    (fin3 g x4)
    (.br (iN (List.length g) == 0)
     (fin3 g x7)
     (fin3 g x9)))
   (.leaf none))
  (.leaf none)

noncomputable def pNext_31 (c : TC) (s : Int) (g : List Int) : TY × Bool := getO pNextRs.dflt (pNext_31T c s g).val

noncomputable def pNext_31C (c : TC) (s : Int) (g : List Int) : Bool := okB (pNext_31T c s g).val

theorem pNext_31_ev (a : HL pNextTs) : evVal (envX Tryz.prog (pNextL 31) [] 1125900980585471 8) Tryz.f120 pNextTs pNextRs a = pNext_31T a.1 a.2.1 a.2.2 := by kernel_rfl

noncomputable def pNext_35T (c : TC) (s : Int) (g : List Int) : RT (Option (TY × Bool)) :=
  let x1 : TC × Bool × List Int × TI × List TY := (c, s == 5, g, (0, 0, 0, 0, 0, 0, 0, 0), [])
  let x2 : Bool := qAtC x1 0
  let x3 : Bool := !x2 || (rDecode c.1 (qAt x1 0)).1 == 35
  let x4 : List TY := [] ++ [(12, pcOf c, 0, 6)] ++ [(5, IntKind.u16.wrap ((spOf c) - 1), IntKind.u8.wrap (shrI IntKind.u16 (pcOf c) 8), 3)] ++ [(5, IntKind.u16.wrap ((spOf c) - 2), IntKind.u8.wrap (pcOf c), 3)]
  let x6 : Int × Int × Int := ((pcOf c), 0, 4)
  let x7 : List TY := [] ++ [(bif s == 5 then 8 else 1, x6)]
  let x9 : List TY := [] ++ [(1, x6)]
  .br (!x3 || x2)
  (.br (x3)
   (.br (pInternal s)
    (fin3 g x4)
    (.br (iN (List.length g) == 0)
     (fin3 g x7)
     (fin3 g x9)))
   (.leaf none))
  (.leaf none)

noncomputable def pNext_35 (c : TC) (s : Int) (g : List Int) : TY × Bool := getO pNextRs.dflt (pNext_35T c s g).val

noncomputable def pNext_35C (c : TC) (s : Int) (g : List Int) : Bool := okB (pNext_35T c s g).val

theorem pNext_35_ev (a : HL pNextTs) : evVal (envX Tryz.prog (pNextL 35) [] 1125900980585471 8) Tryz.f120 pNextTs pNextRs a = pNext_35T a.1 a.2.1 a.2.2 := by kernel_rfl

noncomputable def pNext_39T (c : TC) (s : Int) (g : List Int) : RT (Option (TY × Bool)) :=
  let x1 : TC × Bool × List Int × TI × List TY := (c, s == 5, g, (0, 0, 0, 0, 0, 0, 0, 0), [])
  let x2 : Bool := qAtC x1 0
  let x3 : Bool := !x2 || (rDecode c.1 (qAt x1 0)).1 == 39
  let x4 : List TY := [] ++ [(12, pcOf c, 0, 6)] ++ [(5, IntKind.u16.wrap ((spOf c) - 1), IntKind.u8.wrap (shrI IntKind.u16 (pcOf c) 8), 3)] ++ [(5, IntKind.u16.wrap ((spOf c) - 2), IntKind.u8.wrap (pcOf c), 3)]
  let x6 : Int × Int × Int := ((pcOf c), 0, 4)
  let x7 : List TY := [] ++ [(bif s == 5 then 8 else 1, x6)]
  let x9 : List TY := [] ++ [(1, x6)]
  .br (!x3 || x2)
  (.br (x3)
   (.br (pInternal s)
    (fin3 g x4)
    (.br (iN (List.length g) == 0)
     (fin3 g x7)
     (fin3 g x9)))
   (.leaf none))
  (.leaf none)

noncomputable def pNext_39 (c : TC) (s : Int) (g : List Int) : TY × Bool := getO pNextRs.dflt (pNext_39T c s g).val

noncomputable def pNext_39C (c : TC) (s : Int) (g : List Int) : Bool := okB (pNext_39T c s g).val

theorem pNext_39_ev (a : HL pNextTs) : evVal (envX Tryz.prog (pNextL 39) [] 1125900980585471 8) Tryz.f120 pNextTs pNextRs a = pNext_39T a.1 a.2.1 a.2.2 := by kernel_rfl

noncomputable def pNext_43T (c : TC) (s : Int) (g : List Int) : RT (Option (TY × Bool)) :=
  let x1 : TC × Bool × List Int × TI × List TY := (c, s == 5, g, (0, 0, 0, 0, 0, 0, 0, 0), [])
  let x2 : Bool := qAtC x1 0
  let x3 : Bool := !x2 || (rDecode c.1 (qAt x1 0)).1 == 43
  let x4 : List TY := [] ++ [(12, pcOf c, 0, 6)] ++ [(5, IntKind.u16.wrap ((spOf c) - 1), IntKind.u8.wrap (shrI IntKind.u16 (pcOf c) 8), 3)] ++ [(5, IntKind.u16.wrap ((spOf c) - 2), IntKind.u8.wrap (pcOf c), 3)]
  let x6 : Int × Int × Int := ((pcOf c), 0, 4)
  let x7 : List TY := [] ++ [(bif s == 5 then 8 else 1, x6)]
  let x9 : List TY := [] ++ [(1, x6)]
  let x10 : Int × Int × Int := ((pcOf c), 0, 3)
  let x11 : List TY := (bif s == 5 then x9 ++ [(9, x10)] else x9 ++ [(2, IntKind.u16.wrap ((pcOf c) + IntKind.u16.wrap 1), 0, 3)]) ++ [(11, x10)]
  .br (!x3 || x2)
  (.br (x3)
   (.br (pInternal s)
    (fin3 g x4)
    (.br (iN (List.length g) == 0)
     (fin3 g x7)
     (fin3 g x11)))
   (.leaf none))
  (.leaf none)

noncomputable def pNext_43 (c : TC) (s : Int) (g : List Int) : TY × Bool := getO pNextRs.dflt (pNext_43T c s g).val

noncomputable def pNext_43C (c : TC) (s : Int) (g : List Int) : Bool := okB (pNext_43T c s g).val

theorem pNext_43_ev (a : HL pNextTs) : evVal (envX Tryz.prog (pNextL 43) [] 1125900980585471 8) Tryz.f120 pNextTs pNextRs a = pNext_43T a.1 a.2.1 a.2.2 := by kernel_rfl

noncomputable def pNext_47T (c : TC) (s : Int) (g : List Int) : RT (Option (TY × Bool)) :=
  let x1 : TC × Bool × List Int × TI × List TY := (c, s == 5, g, (0, 0, 0, 0, 0, 0, 0, 0), [])
  let x2 : Bool := qAtC x1 0
  let x3 : Int × Int × Int × Int × Int × Int × Int × Int := rDecode c.1 (qAt x1 0)
  let x4 : Bool := !x2 || x3.1 == 47
  let x5 : List TY := [] ++ [(12, pcOf c, 0, 6)] ++ [(5, IntKind.u16.wrap ((spOf c) - 1), IntKind.u8.wrap (shrI IntKind.u16 (pcOf c) 8), 3)] ++ [(5, IntKind.u16.wrap ((spOf c) - 2), IntKind.u8.wrap (pcOf c), 3)]
  let x7 : Int × Int × Int := ((pcOf c), 0, 4)
  let x8 : List TY := [] ++ [(bif s == 5 then 8 else 1, x7)]
  let x10 : List TY := [] ++ [(1, x7)]
  let x11 : Int := qPair (c, s == 5, g, (47, x3.2), x10) 1
  let x12 : List TY := x10 ++ [(2, x11, 0, 3)] ++ [(2, IntKind.u16.wrap (x11 + 1), 0, 3)]
  .br (!x4 || x2)
  (.br (x4)
   (.br (pInternal s)
    (fin3 g x5)
    (.br (iN (List.length g) == 0)
     (fin3 g x8)
     (fin3 g x12)))
   (.leaf none))
  (.leaf none)

noncomputable def pNext_47 (c : TC) (s : Int) (g : List Int) : TY × Bool := getO pNextRs.dflt (pNext_47T c s g).val

noncomputable def pNext_47C (c : TC) (s : Int) (g : List Int) : Bool := okB (pNext_47T c s g).val

theorem pNext_47_ev (a : HL pNextTs) : evVal (envX Tryz.prog (pNextL 47) [] 1125900980585471 8) Tryz.f120 pNextTs pNextRs a = pNext_47T a.1 a.2.1 a.2.2 := by kernel_rfl

noncomputable def rNext_4T (c : TC) (s : Int) (g : List Int) : RT (Option (TY × Bool)) :=
  let x1 : List TY := [(12, pcOf c, 0, 6)] ++ [(5, IntKind.u16.wrap ((spOf c) - 1), IntKind.u8.wrap (shrI IntKind.u16 (pcOf c) 8), 3)] ++ [(5, IntKind.u16.wrap ((spOf c) - 2), IntKind.u8.wrap (pcOf c), 3)]
  let x3 : List TY := [(bif s == 5 then 8 else 1, pcOf c, 0, 4)]
  let x4 : List TY := [(9, pcOf c, 0, 3)]
  let x5 : List TY := x3 ++ x4
  let x6 : List TY := [(2, IntKind.u16.wrap ((pcOf c) + IntKind.u16.wrap (IntKind.i64.wrap (1 + 1))), 0, 3)]
  let x7 : List TY := bif s == 5 then x5 ++ x4 else x5 ++ x6
  let x9 : List TY := x3 ++ [(2, IntKind.u16.wrap ((pcOf c) + IntKind.u16.wrap 1), 0, 3)]
  let x10 : List TY := bif s == 5 then x9 ++ x4 else x9 ++ x6
  .br (rInternal s || (!decide (iN (List.length g) > 0) || (!inRng 0 (List.length g) || (rDecode c.1 (R.get (R.int IntKind.u8) g 0)).1 == 4)))
  (.br (rInternal s || (!decide (iN (List.length g) > 0) || inRng 0 (List.length g)))
   (.br (rInternal s)
    (fin3 g x1)
    (.br (decide (iN (List.length g) > 0))
     (.br (s == 5)
      (fin3 g x7)
      (fin3 g x10))
     (fin3 g x3)))
   (.leaf none))
  (.leaf none)

noncomputable def rNext_4 (c : TC) (s : Int) (g : List Int) : TY × Bool := getO rNextRs.dflt (rNext_4T c s g).val

noncomputable def rNext_4C (c : TC) (s : Int) (g : List Int) : Bool := okB (rNext_4T c s g).val

theorem rNext_4_ev (a : HL rNextTs) : evVal (envX Tryz.prog (rNextL 4) [] 2047 8) Tryz.f20 rNextTs rNextRs a = rNext_4T a.1 a.2.1 a.2.2 := by kernel_rfl

noncomputable def rNext_8T (c : TC) (s : Int) (g : List Int) : RT (Option (TY × Bool)) :=
  let x1 : List TY := [(bif s == 5 then 8 else 1, pcOf c, 0, 4)]
  let x2 : List TY := [(9, pcOf c, 0, 3)]
  let x3 : List TY := x1 ++ x2
  let x4 : List TY := [(2, IntKind.u16.wrap ((pcOf c) + IntKind.u16.wrap (IntKind.i64.wrap (1 + 1))), 0, 3)]
  let x5 : List TY := bif s == 5 then x3 ++ x2 else x3 ++ x4
  let x6 : TC × Bool × List Int × List TY := (c, s == 5, g, x5)
  let x7 : Bool := mWordC x6 1
  let x8 : List TY := x5 ++ [(3, mWord x6 1, c.2.1.2.2.2.2.2.2.1, 3)]
  let x9 : TC × Bool × List Int × List TY := (c, s == 5, g, x8)
  let x10 : Bool := !s == 5 || (!x7 || mWordC x9 1)
  let x11 : Bool := !x10
  let x12 : Bool := !s == 5 || x7
  let x13 : Bool := !x12
  let x14 : List TY := x1 ++ [(2, IntKind.u16.wrap ((pcOf c) + IntKind.u16.wrap 1), 0, 3)]
  let x15 : List TY := bif s == 5 then x14 ++ x2 else x14 ++ x4
  let x16 : TC × Bool × List Int × List TY := (c, s == 5, g, x15)
  let x17 : Bool := mWordC x16 1
  let x18 : List TY := x15 ++ [(3, mWord x16 1, c.2.1.2.2.2.2.2.2.1, 3)]
  let x19 : TC × Bool × List Int × List TY := (c, s == 5, g, x18)
  let x20 : Bool := s == 5 || (!x17 || mWordC x19 1)
  let x21 : List TY := [(12, pcOf c, 0, 6)] ++ [(5, IntKind.u16.wrap ((spOf c) - 1), IntKind.u8.wrap (shrI IntKind.u16 (pcOf c) 8), 3)] ++ [(5, IntKind.u16.wrap ((spOf c) - 2), IntKind.u8.wrap (pcOf c), 3)]
  let x23 : List TY := x8 ++ [(3, IntKind.u16.wrap (mWord x9 1 + 1), c.2.1.2.2.2.2.2.1, 3)]
  let x25 : List TY := x18 ++ [(3, IntKind.u16.wrap (mWord x19 1 + 1), c.2.1.2.2.2.2.2.1, 3)]
  .br (rInternal s || (!decide (iN (List.length g) > 0) || (!inRng 0 (List.length g) || (!(rDecode c.1 (R.get (R.int IntKind.u8) g 0)).1 == 8 || (x11 || (x13 || (!x20 || (s == 5 || x17))))))))
  (.br (rInternal s || (!decide (iN (List.length g) > 0) || (!inRng 0 (List.length g) || (!(rDecode c.1 (R.get (R.int IntKind.u8) g 0)).1 == 8 || (x11 || (x13 || x20))))))
   (.br (rInternal s || (!decide (iN (List.length g) > 0) || (!inRng 0 (List.length g) || (!(rDecode c.1 (R.get (R.int IntKind.u8) g 0)).1 == 8 || (x11 || x12)))))
    (.br (rInternal s || (!decide (iN (List.length g) > 0) || (!inRng 0 (List.length g) || (!(rDecode c.1 (R.get (R.int IntKind.u8) g 0)).1 == 8 || x10))))
     (.br (rInternal s || (!decide (iN (List.length g) > 0) || (!inRng 0 (List.length g) || (rDecode c.1 (R.get (R.int IntKind.u8) g 0)).1 == 8)))
      (.br (rInternal s || (!decide (iN (List.length g) > 0) || inRng 0 (List.length g)))
       (.br (rInternal s)
        (fin3 g x21)
        (.br (decide (iN (List.length g) > 0))
         (.br (s == 5)
          (fin3 g x23)
          (fin3 g x25))
         (fin3 g x1)))
       (.leaf none))
      (.leaf none))
     (.leaf none))
    (.leaf none))
   (.leaf none))
  (.leaf none)

noncomputable def rNext_8 (c : TC) (s : Int) (g : List Int) : TY × Bool := getO rNextRs.dflt (rNext_8T c s g).val

noncomputable def rNext_8C (c : TC) (s : Int) (g : List Int) : Bool := okB (rNext_8T c s g).val

theorem rNext_8_ev (a : HL rNextTs) : evVal (envX Tryz.prog (rNextL 8) [] 2047 8) Tryz.f20 rNextTs rNextRs a = rNext_8T a.1 a.2.1 a.2.2 := by kernel_rfl

noncomputable def rNext_12T (c : TC) (s : Int) (g : List Int) : RT (Option (TY × Bool)) :=
  let x1 : List TY := [(12, pcOf c, 0, 6)] ++ [(5, IntKind.u16.wrap ((spOf c) - 1), IntKind.u8.wrap (shrI IntKind.u16 (pcOf c) 8), 3)] ++ [(5, IntKind.u16.wrap ((spOf c) - 2), IntKind.u8.wrap (pcOf c), 3)]
  let x3 : List TY := [(bif s == 5 then 8 else 1, pcOf c, 0, 4)]
  let x4 : List TY := x3 ++ [(2, rPair c.2.1 2, 0, 3)]
  let x6 : Nat := List.length x3
  let x7 : Bool := decide (iN (List.length g) ≥ iN x6)
  let x8 : Bool := inRng (iN (List.length g)) x6
  let x9 : TY × Bool := (R.get (RY) x3 (iN (List.length g)), true)
  .br (rInternal s || (!decide (iN (List.length g) > 0) || (!inRng 0 (List.length g) || (rDecode c.1 (R.get (R.int IntKind.u8) g 0)).1 == 12)))
  (.br (rInternal s || (!decide (iN (List.length g) > 0) || inRng 0 (List.length g)))
   (.br (rInternal s)
    (fin3 g x1)
    (.br (decide (iN (List.length g) > 0))
     (.br ((rDecode c.1 (R.get (R.int IntKind.u8) g 0)).2.2.2.1 == 6)
      (fin3 g x4)
      (.br (x7)
       (.leaf (some (((0, 0, 0, 0), false))))
       (.br (x8)
        (.leaf (some (x9)))
        (.leaf none))))
     (.br (x7)
      (.leaf (some (((0, 0, 0, 0), false))))
      (.br (x8)
       (.leaf (some (x9)))
       (.leaf none)))))
   (.leaf none))
  (.leaf none)

noncomputable def rNext_12 (c : TC) (s : Int) (g : List Int) : TY × Bool := getO rNextRs.dflt (rNext_12T c s g).val

noncomputable def rNext_12C (c : TC) (s : Int) (g : List Int) : Bool := okB (rNext_12T c s g).val

theorem rNext_12_ev (a : HL rNextTs) : evVal (envX Tryz.prog (rNextL 12) [] 2047 8) Tryz.f20 rNextTs rNextRs a = rNext_12T a.1 a.2.1 a.2.2 := by kernel_rfl

noncomputable def rNext_16T (c : TC) (s : Int) (g : List Int) : RT (Option (TY × Bool)) :=
  let x1 : List TY := [(12, pcOf c, 0, 6)] ++ [(5, IntKind.u16.wrap ((spOf c) - 1), IntKind.u8.wrap (shrI IntKind.u16 (pcOf c) 8), 3)] ++ [(5, IntKind.u16.wrap ((spOf c) - 2), IntKind.u8.wrap (pcOf c), 3)]
  let x3 : List TY := [(bif s == 5 then 8 else 1, pcOf c, 0, 4)]
  .br (rInternal s || (!decide (iN (List.length g) > 0) || (!inRng 0 (List.length g) || (rDecode c.1 (R.get (R.int IntKind.u8) g 0)).1 == 16)))
  (.br (rInternal s || (!decide (iN (List.length g) > 0) || inRng 0 (List.length g)))
   (.br (rInternal s)
    (fin3 g x1)
    (fin3 g x3))
   (.leaf none))
  (.leaf none)

noncomputable def rNext_16 (c : TC) (s : Int) (g : List Int) : TY × Bool := getO rNextRs.dflt (rNext_16T c s g).val

noncomputable def rNext_16C (c : TC) (s : Int) (g : List Int) : Bool := okB (rNext_16T c s g).val

theorem rNext_16_ev (a : HL rNextTs) : evVal (envX Tryz.prog (rNextL 16) [] 2047 8) Tryz.f20 rNextTs rNextRs a = rNext_16T a.1 a.2.1 a.2.2 := by kernel_rfl

noncomputable def rNext_20T (c : TC) (s : Int) (g : List Int) : RT (Option (TY × Bool)) :=
  let x1 : List TY := [(12, pcOf c, 0, 6)] ++ [(5, IntKind.u16.wrap ((spOf c) - 1), IntKind.u8.wrap (shrI IntKind.u16 (pcOf c) 8), 3)] ++ [(5, IntKind.u16.wrap ((spOf c) - 2), IntKind.u8.wrap (pcOf c), 3)]
  let x3 : List TY := [(bif s == 5 then 8 else 1, pcOf c, 0, 4)]
  .br (rInternal s || (!decide (iN (List.length g) > 0) || (!inRng 0 (List.length g) || (rDecode c.1 (R.get (R.int IntKind.u8) g 0)).1 == 20)))
  (.br (rInternal s || (!decide (iN (List.length g) > 0) || inRng 0 (List.length g)))
   (.br (rInternal s)
    (fin3 g x1)
    (fin3 g x3))
   (.leaf none))
  (.leaf none)

noncomputable def rNext_20 (c : TC) (s : Int) (g : List Int) : TY × Bool := getO rNextRs.dflt (rNext_20T c s g).val

noncomputable def rNext_20C (c : TC) (s : Int) (g : List Int) : Bool := okB (rNext_20T c s g).val

theorem rNext_20_ev (a : HL rNextTs) : evVal (envX Tryz.prog (rNextL 20) [] 2047 8) Tryz.f20 rNextTs rNextRs a = rNext_20T a.1 a.2.1 a.2.2 := by kernel_rfl

noncomputable def rNext_24T (c : TC) (s : Int) (g : List Int) : RT (Option (TY × Bool)) :=
  let x1 : List TY := [(12, pcOf c, 0, 6)] ++ [(5, IntKind.u16.wrap ((spOf c) - 1), IntKind.u8.wrap (shrI IntKind.u16 (pcOf c) 8), 3)] ++ [(5, IntKind.u16.wrap ((spOf c) - 2), IntKind.u8.wrap (pcOf c), 3)]
  let x3 : List TY := [(bif s == 5 then 8 else 1, pcOf c, 0, 4)]
  let x4 : List TY := [(9, pcOf c, 0, 3)]
  let x5 : List TY := x3 ++ x4
  let x7 : List TY := x3 ++ [(2, IntKind.u16.wrap ((pcOf c) + IntKind.u16.wrap 1), 0, 3)]
  let x9 : List TY := [(2, IntKind.u16.wrap ((pcOf c) + IntKind.u16.wrap (IntKind.i64.wrap (1 + 1))), 0, 3)]
  let x10 : List TY := bif s == 5 then x5 ++ x4 else x5 ++ x9
  let x12 : List TY := bif s == 5 then x7 ++ x4 else x7 ++ x9
  .br (rInternal s || (!decide (iN (List.length g) > 0) || (!inRng 0 (List.length g) || (rDecode c.1 (R.get (R.int IntKind.u8) g 0)).1 == 24)))
  (.br (rInternal s || (!decide (iN (List.length g) > 0) || inRng 0 (List.length g)))
   (.br (rInternal s)
    (fin3 g x1)
    (.br (decide (iN (List.length g) > 0))
     (.br (rOn c.1 && !mTaken (c, s == 5, g, x3) (24, (rDecode c.1 (R.get (R.int IntKind.u8) g 0)).2))
      (.br (s == 5)
       (fin3 g x5)
       (fin3 g x7))
      (.br (s == 5)
       (fin3 g x10)
       (fin3 g x12)))
     (fin3 g x3)))
   (.leaf none))
  (.leaf none)

noncomputable def rNext_24 (c : TC) (s : Int) (g : List Int) : TY × Bool := getO rNextRs.dflt (rNext_24T c s g).val

noncomputable def rNext_24C (c : TC) (s : Int) (g : List Int) : Bool := okB (rNext_24T c s g).val

theorem rNext_24_ev (a : HL rNextTs) : evVal (envX Tryz.prog (rNextL 24) [] 2047 8) Tryz.f20 rNextTs rNextRs a = rNext_24T a.1 a.2.1 a.2.2 := by kernel_rfl

noncomputable def rNext_28T (c : TC) (s : Int) (g : List Int) : RT (Option (TY × Bool)) :=
  let x1 : List TY := [(12, pcOf c, 0, 6)] ++ [(5, IntKind.u16.wrap ((spOf c) - 1), IntKind.u8.wrap (shrI IntKind.u16 (pcOf c) 8), 3)] ++ [(5, IntKind.u16.wrap ((spOf c) - 2), IntKind.u8.wrap (pcOf c), 3)]
  let x3 : List TY := [(bif s == 5 then 8 else 1, pcOf c, 0, 4)]
  .br (rInternal s || (!decide (iN (List.length g) > 0) || (!inRng 0 (List.length g) || (rDecode c.1 (R.get (R.int IntKind.u8) g 0)).1 == 28)))
  (.br (rInternal s || (!decide (iN (List.length g) > 0) || inRng 0 (List.length g)))
   (.br (rInternal s)
    (fin3 g x1)
    (fin3 g x3))
   (.leaf none))
  (.leaf none)

noncomputable def rNext_28 (c : TC) (s : Int) (g : List Int) : TY × Bool := getO rNextRs.dflt (rNext_28T c s g).val

noncomputable def rNext_28C (c : TC) (s : Int) (g : List Int) : Bool := okB (rNext_28T c s g).val

theorem rNext_28_ev (a : HL rNextTs) : evVal (envX Tryz.prog (rNextL 28) [] 2047 8) Tryz.f20 rNextTs rNextRs a = rNext_28T a.1 a.2.1 a.2.2 := by kernel_rfl

noncomputable def rNext_32T (c : TC) (s : Int) (g : List Int) : RT (Option (TY × Bool)) :=
  let x1 : List TY := [(12, pcOf c, 0, 6)] ++ [(5, IntKind.u16.wrap ((spOf c) - 1), IntKind.u8.wrap (shrI IntKind.u16 (pcOf c) 8), 3)] ++ [(5, IntKind.u16.wrap ((spOf c) - 2), IntKind.u8.wrap (pcOf c), 3)]
  let x3 : List TY := [(bif s == 5 then 8 else 1, pcOf c, 0, 4)]
  let x4 : Int := IntKind.u16.wrap ((spOf c) + 1)
  let x5 : List TY := x3 ++ [(4, spOf c, 0, 3)] ++ [(4, x4, 0, 3)] ++ [(5, x4, c.2.1.2.2.2.2.2.1, 3)] ++ [(5, spOf c, c.2.1.2.2.2.2.2.2.1, 3)]
  let x6 : Int := IntKind.i64.wrap (iN (List.length x5) - 1)
  let x7 : Int × Int × Int × Int := R.get (RY) x5 x6
  let x8 : Int × Int × Int := x7.2
  let x9 : List TY := bif !rOn c.1 then setI x5 x6 (x7.1, x8.1, x8.2.1, 5) else x5
  .br (rInternal s || (!decide (iN (List.length g) > 0) || (!inRng 0 (List.length g) || (rDecode c.1 (R.get (R.int IntKind.u8) g 0)).1 == 32)))
  (.br (rInternal s || (!decide (iN (List.length g) > 0) || inRng 0 (List.length g)))
   (.br (rInternal s)
    (fin3 g x1)
    (.br (decide (iN (List.length g) > 0))
     (fin3 g x9)
     (fin3 g x3)))
   (.leaf none))
  (.leaf none)

noncomputable def rNext_32 (c : TC) (s : Int) (g : List Int) : TY × Bool := getO rNextRs.dflt (rNext_32T c s g).val

noncomputable def rNext_32C (c : TC) (s : Int) (g : List Int) : Bool := okB (rNext_32T c s g).val

theorem rNext_32_ev (a : HL rNextTs) : evVal (envX Tryz.prog (rNextL 32) [] 2047 8) Tryz.f20 rNextTs rNextRs a = rNext_32T a.1 a.2.1 a.2.2 := by kernel_rfl

noncomputable def rNext_36T (c : TC) (s : Int) (g : List Int) : RT (Option (TY × Bool)) :=
  let x1 : List TY := [(12, pcOf c, 0, 6)] ++ [(5, IntKind.u16.wrap ((spOf c) - 1), IntKind.u8.wrap (shrI IntKind.u16 (pcOf c) 8), 3)] ++ [(5, IntKind.u16.wrap ((spOf c) - 2), IntKind.u8.wrap (pcOf c), 3)]
  let x3 : List TY := [(bif s == 5 then 8 else 1, pcOf c, 0, 4)]
  .br (rInternal s || (!decide (iN (List.length g) > 0) || (!inRng 0 (List.length g) || (rDecode c.1 (R.get (R.int IntKind.u8) g 0)).1 == 36)))
  (.br (rInternal s || (!decide (iN (List.length g) > 0) || inRng 0 (List.length g)))
   (.br (rInternal s)
    (fin3 g x1)
    (fin3 g x3))
   (.leaf none))
  (.leaf none)

noncomputable def rNext_36 (c : TC) (s : Int) (g : List Int) : TY × Bool := getO rNextRs.dflt (rNext_36T c s g).val

noncomputable def rNext_36C (c : TC) (s : Int) (g : List Int) : Bool := okB (rNext_36T c s g).val

theorem rNext_36_ev (a : HL rNextTs) : evVal (envX Tryz.prog (rNextL 36) [] 2047 8) Tryz.f20 rNextTs rNextRs a = rNext_36T a.1 a.2.1 a.2.2 := by kernel_rfl

noncomputable def rNext_40T (c : TC) (s : Int) (g : List Int) : RT (Option (TY × Bool)) :=
  let x1 : List TY := [(12, pcOf c, 0, 6)] ++ [(5, IntKind.u16.wrap ((spOf c) - 1), IntKind.u8.wrap (shrI IntKind.u16 (pcOf c) 8), 3)] ++ [(5, IntKind.u16.wrap ((spOf c) - 2), IntKind.u8.wrap (pcOf c), 3)]
  let x3 : List TY := [(bif s == 5 then 8 else 1, pcOf c, 0, 4)]
  let x4 : List TY := [(11, pcOf c, 0, 3)]
  let x5 : List TY := x3 ++ x4 ++ x4
  .br (rInternal s || (!decide (iN (List.length g) > 0) || (!inRng 0 (List.length g) || (rDecode c.1 (R.get (R.int IntKind.u8) g 0)).1 == 40)))
  (.br (rInternal s || (!decide (iN (List.length g) > 0) || inRng 0 (List.length g)))
   (.br (rInternal s)
    (fin3 g x1)
    (.br (decide (iN (List.length g) > 0))
     (fin3 g x5)
     (fin3 g x3)))
   (.leaf none))
  (.leaf none)

noncomputable def rNext_40 (c : TC) (s : Int) (g : List Int) : TY × Bool := getO rNextRs.dflt (rNext_40T c s g).val

noncomputable def rNext_40C (c : TC) (s : Int) (g : List Int) : Bool := okB (rNext_40T c s g).val

theorem rNext_40_ev (a : HL rNextTs) : evVal (envX Tryz.prog (rNextL 40) [] 2047 8) Tryz.f20 rNextTs rNextRs a = rNext_40T a.1 a.2.1 a.2.2 := by kernel_rfl

noncomputable def rNext_44T (c : TC) (s : Int) (g : List Int) : RT (Option (TY × Bool)) :=
  let x1 : List TY := [(12, pcOf c, 0, 6)] ++ [(5, IntKind.u16.wrap ((spOf c) - 1), IntKind.u8.wrap (shrI IntKind.u16 (pcOf c) 8), 3)] ++ [(5, IntKind.u16.wrap ((spOf c) - 2), IntKind.u8.wrap (pcOf c), 3)]
  let x3 : List TY := [(bif s == 5 then 8 else 1, pcOf c, 0, 4)]
  let x4 : Int × Int × Int := ((pcOf c), 0, 3)
  let x5 : List TY := [(11, x4)]
  let x6 : List TY := x3 ++ [(9, x4)] ++ x5
  let x8 : List TY := x3 ++ [(2, IntKind.u16.wrap ((pcOf c) + IntKind.u16.wrap 1), 0, 3)] ++ x5
  .br (rInternal s || (!decide (iN (List.length g) > 0) || (!inRng 0 (List.length g) || (rDecode c.1 (R.get (R.int IntKind.u8) g 0)).1 == 44)))
  (.br (rInternal s || (!decide (iN (List.length g) > 0) || inRng 0 (List.length g)))
   (.br (rInternal s)
    (fin3 g x1)
    (.br (decide (iN (List.length g) > 0))
     (.br (s == 5)
      (fin3 g x6)
      (fin3 g x8))
     (fin3 g x3)))
   (.leaf none))
  (.leaf none)

noncomputable def rNext_44 (c : TC) (s : Int) (g : List Int) : TY × Bool := getO rNextRs.dflt (rNext_44T c s g).val

noncomputable def rNext_44C (c : TC) (s : Int) (g : List Int) : Bool := okB (rNext_44T c s g).val

theorem rNext_44_ev (a : HL rNextTs) : evVal (envX Tryz.prog (rNextL 44) [] 2047 8) Tryz.f20 rNextTs rNextRs a = rNext_44T a.1 a.2.1 a.2.2 := by kernel_rfl
end
end Go.Proofs.YteboknglfjadoaaGreat
