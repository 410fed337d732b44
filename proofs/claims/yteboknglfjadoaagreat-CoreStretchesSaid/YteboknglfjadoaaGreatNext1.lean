/-
  Contracts of functions; each found by the symbolic executor and checked by the kernel. Conditions: none.
-/
import Derived.Test.YteboknglfjadoaaGreatS3D
import Derived.Test.YteboknglfjadoaaGreatProg
import Derived.Test.YteboknglfjadoaaGreatNext0
set_option linter.unusedSimpArgs false
open Go Go.S3 Go.Proofs
set_option linter.unusedVariables false
set_option maxRecDepth 100000
namespace Go.Proofs.YteboknglfjadoaaGreat
noncomputable section
noncomputable def pNext_1T (c : TC) (s : Int) (g : List Int) : RT (Option (TY × Bool)) :=
  let x1 : TC × Bool × List Int × TI × List TY := (c, s == 5, g, (0, 0, 0, 0, 0, 0, 0, 0), [])
  let x2 : Bool := qAtC x1 0
  let x3 : Bool := !x2 || (rDecode c.1 (qAt x1 0)).1 == 1
  let x4 : List TY := [] ++ [(12, pcOf c, 0, 6)] ++ [(5, IntKind.u16.wrap ((spOf c) - 1), IntKind.u8.wrap (shrI IntKind.u16 (pcOf c) 8), 3)] ++ [(5, IntKind.u16.wrap ((spOf c) - 2), IntKind.u8.wrap (pcOf c), 3)]
  let x6 : Int × Int × Int := ((pcOf c), 0, 4)
  let x7 : List TY := [] ++ [(bif s == 5 then 8 else 1, x6)]
  let x9 : List TY := [] ++ [(1, x6)]
  .br (!x3 || x2)
  (.br (x3)
   (.br (pInternal s)
    (fin3 g x4)
    (.br (iN (List.length g) == 0)
     (fin3 g x7)
     (fin3 g x9)))
   (.leaf none))
  (.leaf none)

noncomputable def pNext_1 (c : TC) (s : Int) (g : List Int) : TY × Bool := getO pNextRs.dflt (pNext_1T c s g).val

noncomputable def pNext_1C (c : TC) (s : Int) (g : List Int) : Bool := okB (pNext_1T c s g).val

theorem pNext_1_ev (a : HL pNextTs) : evVal (envX Tryz.prog (pNextL 1) [] 1125900980585471 8) Tryz.f120 pNextTs pNextRs a = pNext_1T a.1 a.2.1 a.2.2 := by kernel_rfl

noncomputable def pNext_5T (c : TC) (s : Int) (g : List Int) : RT (Option (TY × Bool)) :=
  let x1 : TC × Bool × List Int × TI × List TY := (c, s == 5, g, (0, 0, 0, 0, 0, 0, 0, 0), [])
  let x2 : Bool := qAtC x1 0
  let x3 : Int × Int × Int × Int × Int × Int × Int × Int := rDecode c.1 (qAt x1 0)
  let x4 : Bool := !x2 || x3.1 == 5
  let x5 : Int × Int × Int := ((pcOf c), 0, 4)
  let x6 : List TY := [] ++ [(1, x5)]
  let x7 : List TY := [(9, pcOf c, 0, 3)]
  let x8 : List TY := bif s == 5 then x6 ++ x7 else x6 ++ [(2, IntKind.u16.wrap ((pcOf c) + IntKind.u16.wrap 1), 0, 3)]
  let x9 : List TY := bif s == 5 then x8 ++ x7 else x8 ++ [(2, IntKind.u16.wrap ((pcOf c) + IntKind.u16.wrap (IntKind.i64.wrap (1 + 1))), 0, 3)]
  let x10 : TC × Bool × List Int × TI × List TY := (c, s == 5, g, (5, x3.2), x9)
  let x11 : List TY := [] ++ [(12, pcOf c, 0, 6)] ++ [(5, IntKind.u16.wrap ((spOf c) - 1), IntKind.u8.wrap (shrI IntKind.u16 (pcOf c) 8), 3)] ++ [(5, IntKind.u16.wrap ((spOf c) - 2), IntKind.u8.wrap (pcOf c), 3)]
  let x13 : List TY := [] ++ [(bif s == 5 then 8 else 1, x5)]
  let x15 : List TY := x9 ++ [(2, qJoin x10 1, 0, 3)]
  .br (!x4 || x2)
  (.br (x4)
   (.br (pInternal s || (iN (List.length g) == 0 || qJoinC x10 1))
    (.br (pInternal s)
     (fin3 g x11)
     (.br (iN (List.length g) == 0)
      (fin3 g x13)
      (fin3 g x15)))
    (.leaf none))
   (.leaf none))
  (.leaf none)

noncomputable def pNext_5 (c : TC) (s : Int) (g : List Int) : TY × Bool := getO pNextRs.dflt (pNext_5T c s g).val

noncomputable def pNext_5C (c : TC) (s : Int) (g : List Int) : Bool := okB (pNext_5T c s g).val

theorem pNext_5_ev (a : HL pNextTs) : evVal (envX Tryz.prog (pNextL 5) [] 1125900980585471 8) Tryz.f120 pNextTs pNextRs a = pNext_5T a.1 a.2.1 a.2.2 := by kernel_rfl

noncomputable def pNext_9T (c : TC) (s : Int) (g : List Int) : RT (Option (TY × Bool)) :=
  let x1 : TC × Bool × List Int × TI × List TY := (c, s == 5, g, (0, 0, 0, 0, 0, 0, 0, 0), [])
  let x2 : Bool := qAtC x1 0
  let x3 : Int × Int × Int × Int × Int × Int × Int × Int := rDecode c.1 (qAt x1 0)
  let x4 : Bool := !x2 || x3.1 == 9
  let x5 : List TY := [] ++ [(12, pcOf c, 0, 6)] ++ [(5, IntKind.u16.wrap ((spOf c) - 1), IntKind.u8.wrap (shrI IntKind.u16 (pcOf c) 8), 3)] ++ [(5, IntKind.u16.wrap ((spOf c) - 2), IntKind.u8.wrap (pcOf c), 3)]
  let x7 : Int × Int × Int := ((pcOf c), 0, 4)
  let x8 : List TY := [] ++ [(bif s == 5 then 8 else 1, x7)]
  let x10 : List TY := [] ++ [(1, x7)]
  let x11 : Int × Int × Int × Int × Int × Int × Int := x3.2
  let x12 : List TY := x10 ++ [(2, qPair (c, s == 5, g, (9, x11), x10) x11.2.2.2.1, 0, 3)]
  .br (!x4 || x2)
  (.br (x4)
   (.br (pInternal s)
    (fin3 g x5)
    (.br (iN (List.length g) == 0)
     (fin3 g x8)
     (fin3 g x12)))
   (.leaf none))
  (.leaf none)

noncomputable def pNext_9 (c : TC) (s : Int) (g : List Int) : TY × Bool := getO pNextRs.dflt (pNext_9T c s g).val

noncomputable def pNext_9C (c : TC) (s : Int) (g : List Int) : Bool := okB (pNext_9T c s g).val

theorem pNext_9_ev (a : HL pNextTs) : evVal (envX Tryz.prog (pNextL 9) [] 1125900980585471 8) Tryz.f120 pNextTs pNextRs a = pNext_9T a.1 a.2.1 a.2.2 := by kernel_rfl

noncomputable def pNext_13T (c : TC) (s : Int) (g : List Int) : RT (Option (TY × Bool)) :=
  let x1 : TC × Bool × List Int × TI × List TY := (c, s == 5, g, (0, 0, 0, 0, 0, 0, 0, 0), [])
  let x2 : Bool := qAtC x1 0
  let x3 : Bool := !x2 || (rDecode c.1 (qAt x1 0)).1 == 13
  let x4 : List TY := [] ++ [(12, pcOf c, 0, 6)] ++ [(5, IntKind.u16.wrap ((spOf c) - 1), IntKind.u8.wrap (shrI IntKind.u16 (pcOf c) 8), 3)] ++ [(5, IntKind.u16.wrap ((spOf c) - 2), IntKind.u8.wrap (pcOf c), 3)]
  let x6 : Int × Int × Int := ((pcOf c), 0, 4)
  let x7 : List TY := [] ++ [(bif s == 5 then 8 else 1, x6)]
  let x9 : List TY := [] ++ [(1, x6)]
  let x10 : List TY := bif s == 5 then x9 ++ [(9, pcOf c, 0, 3)] else x9 ++ [(2, IntKind.u16.wrap ((pcOf c) + IntKind.u16.wrap 1), 0, 3)]
  .br (!x3 || x2)
  (.br (x3)
   (.br (pInternal s)
    (fin3 g x4)
    (.br (iN (List.length g) == 0)
     (fin3 g x7)
     (fin3 g x10)))
   (.leaf none))
  (.leaf none)

noncomputable def pNext_13 (c : TC) (s : Int) (g : List Int) : TY × Bool := getO pNextRs.dflt (pNext_13T c s g).val

noncomputable def pNext_13C (c : TC) (s : Int) (g : List Int) : Bool := okB (pNext_13T c s g).val

theorem pNext_13_ev (a : HL pNextTs) : evVal (envX Tryz.prog (pNextL 13) [] 1125900980585471 8) Tryz.f120 pNextTs pNextRs a = pNext_13T a.1 a.2.1 a.2.2 := by kernel_rfl

noncomputable def pNext_17T (c : TC) (s : Int) (g : List Int) : RT (Option (TY × Bool)) :=
  let x1 : TC × Bool × List Int × TI × List TY := (c, s == 5, g, (0, 0, 0, 0, 0, 0, 0, 0), [])
  let x2 : Bool := qAtC x1 0
  let x3 : Bool := !x2 || (rDecode c.1 (qAt x1 0)).1 == 17
  let x4 : List TY := [] ++ [(12, pcOf c, 0, 6)] ++ [(5, IntKind.u16.wrap ((spOf c) - 1), IntKind.u8.wrap (shrI IntKind.u16 (pcOf c) 8), 3)] ++ [(5, IntKind.u16.wrap ((spOf c) - 2), IntKind.u8.wrap (pcOf c), 3)]
  let x6 : Int × Int × Int := ((pcOf c), 0, 4)
  let x7 : List TY := [] ++ [(bif s == 5 then 8 else 1, x6)]
  let x9 : List TY := [] ++ [(1, x6)]
  .br (!x3 || x2)
  (.br (x3)
   (.br (pInternal s)
    (fin3 g x4)
    (.br (iN (List.length g) == 0)
     (fin3 g x7)
     (fin3 g x9)))
   (.leaf none))
  (.leaf none)

noncomputable def pNext_17 (c : TC) (s : Int) (g : List Int) : TY × Bool := getO pNextRs.dflt (pNext_17T c s g).val

noncomputable def pNext_17C (c : TC) (s : Int) (g : List Int) : Bool := okB (pNext_17T c s g).val

theorem pNext_17_ev (a : HL pNextTs) : evVal (envX Tryz.prog (pNextL 17) [] 1125900980585471 8) Tryz.f120 pNextTs pNextRs a = pNext_17T a.1 a.2.1 a.2.2 := by kernel_rfl

noncomputable def pNext_21T (c : TC) (s : Int) (g : List Int) : RT (Option (TY × Bool)) :=
  let x1 : TC × Bool × List Int × TI × List TY := (c, s == 5, g, (0, 0, 0, 0, 0, 0, 0, 0), [])
  let x2 : Bool := qAtC x1 0
  let x3 : Bool := !x2 || (rDecode c.1 (qAt x1 0)).1 == 21
  let x4 : List TY := [] ++ [(12, pcOf c, 0, 6)] ++ [(5, IntKind.u16.wrap ((spOf c) - 1), IntKind.u8.wrap (shrI IntKind.u16 (pcOf c) 8), 3)] ++ [(5, IntKind.u16.wrap ((spOf c) - 2), IntKind.u8.wrap (pcOf c), 3)]
  let x6 : Int × Int × Int := ((pcOf c), 0, 4)
  let x7 : List TY := [] ++ [(bif s == 5 then 8 else 1, x6)]
  let x9 : List TY := [] ++ [(1, x6)]
  .br (!x3 || x2)
  (.br (x3)
   (.br (pInternal s)
    (fin3 g x4)
    (.br (iN (List.length g) == 0)
     (fin3 g x7)
     (fin3 g x9)))
   (.leaf none))
  (.leaf none)

noncomputable def pNext_21 (c : TC) (s : Int) (g : List Int) : TY × Bool := getO pNextRs.dflt (pNext_21T c s g).val

noncomputable def pNext_21C (c : TC) (s : Int) (g : List Int) : Bool := okB (pNext_21T c s g).val

theorem pNext_21_ev (a : HL pNextTs) : evVal (envX Tryz.prog (pNextL 21) [] 1125900980585471 8) Tryz.f120 pNextTs pNextRs a = pNext_21T a.1 a.2.1 a.2.2 := by kernel_rfl

noncomputable def pNext_25T (c : TC) (s : Int) (g : List Int) : RT (Option (TY × Bool)) :=
  let x1 : TC × Bool × List Int × TI × List TY := (c, s == 5, g, (0, 0, 0, 0, 0, 0, 0, 0), [])
  let x2 : Bool := qAtC x1 0
  let x3 : Int × Int × Int × Int × Int × Int × Int × Int := rDecode c.1 (qAt x1 0)
  let x4 : Bool := !x2 || x3.1 == 25
  let x5 : Int := IntKind.u16.wrap ((spOf c) - 1)
  let x6 : Int := IntKind.u16.wrap ((spOf c) - 2)
  let x7 : List TY := [] ++ [(12, pcOf c, 0, 6)] ++ [(5, x5, IntKind.u8.wrap (shrI IntKind.u16 (pcOf c) 8), 3)] ++ [(5, x6, IntKind.u8.wrap (pcOf c), 3)]
  let x9 : Int × Int × Int := ((pcOf c), 0, 4)
  let x10 : List TY := [] ++ [(bif s == 5 then 8 else 1, x9)]
  let x12 : Int × Int × Int × Int × Int × Int × Int × Int := (25, x3.2)
  let x13 : List TY := [] ++ [(1, x9)]
  let x14 : Bool := qTaken (c, s == 5, g, x12, x13)
  let x15 : List TY := [(9, pcOf c, 0, 3)]
  let x16 : List TY := bif s == 5 then x13 ++ x15 else x13 ++ [(2, IntKind.u16.wrap ((pcOf c) + IntKind.u16.wrap 1), 0, 3)]
  let x17 : List TY := bif !x14 && c.1 == 2 then x16 else bif s == 5 then x16 ++ x15 else x16 ++ [(2, IntKind.u16.wrap ((pcOf c) + IntKind.u16.wrap (IntKind.i64.wrap (1 + 1))), 0, 3)]
  let x18 : Int := qBehind (c, s == 5, g, x12, x17)
  let x19 : List TY := bif x14 then x17 ++ [(5, x5, IntKind.u8.wrap (shrI IntKind.u16 x18 8), 3)] ++ [(5, x6, IntKind.u8.wrap x18, 3)] else x17
  .br (!x4 || x2)
  (.br (x4)
   (.br (pInternal s)
    (fin3 g x7)
    (.br (iN (List.length g) == 0)
     (fin3 g x10)
     (fin3 g x19)))
   (.leaf none))
  (.leaf none)

noncomputable def pNext_25 (c : TC) (s : Int) (g : List Int) : TY × Bool := getO pNextRs.dflt (pNext_25T c s g).val

noncomputable def pNext_25C (c : TC) (s : Int) (g : List Int) : Bool := okB (pNext_25T c s g).val

theorem pNext_25_ev (a : HL pNextTs) : evVal (envX Tryz.prog (pNextL 25) [] 1125900980585471 8) Tryz.f120 pNextTs pNextRs a = pNext_25T a.1 a.2.1 a.2.2 := by kernel_rfl

noncomputable def pNext_29T (c : TC) (s : Int) (g : List Int) : RT (Option (TY × Bool)) :=
  let x1 : TC × Bool × List Int × TI × List TY := (c, s == 5, g, (0, 0, 0, 0, 0, 0, 0, 0), [])
  let x2 : Bool := qAtC x1 0
  let x3 : Bool := !x2 || (rDecode c.1 (qAt x1 0)).1 == 29
  let x4 : List TY := [] ++ [(12, pcOf c, 0, 6)] ++ [(5, IntKind.u16.wrap ((spOf c) - 1), IntKind.u8.wrap (shrI IntKind.u16 (pcOf c) 8), 3)] ++ [(5, IntKind.u16.wrap ((spOf c) - 2), IntKind.u8.wrap (pcOf c), 3)]
  let x6 : Int × Int × Int := ((pcOf c), 0, 4)
  let x7 : List TY := [] ++ [(bif s == 5 then 8 else 1, x6)]
  let x9 : List TY := [] ++ [(1, x6)]
  .br (!x3 || x2)
  (.br (x3)
   (.br (pInternal s)
    (fin3 g x4)
    (.br (iN (List.length g) == 0)
     (fin3 g x7)
     (fin3 g x9)))
   (.leaf none))
  (.leaf none)

noncomputable def pNext_29 (c : TC) (s : Int) (g : List Int) : TY × Bool := getO pNextRs.dflt (pNext_29T c s g).val

noncomputable def pNext_29C (c : TC) (s : Int) (g : List Int) : Bool := okB (pNext_29T c s g).val

theorem pNext_29_ev (a : HL pNextTs) : evVal (envX Tryz.prog (pNextL 29) [] 1125900980585471 8) Tryz.f120 pNextTs pNextRs a = pNext_29T a.1 a.2.1 a.2.2 := by kernel_rfl

noncomputable def pNext_33T (c : TC) (s : Int) (g : List Int) : RT (Option (TY × Bool)) :=
  let x1 : TC × Bool × List Int × TI × List TY := (c, s == 5, g, (0, 0, 0, 0, 0, 0, 0, 0), [])
  let x2 : Bool := qAtC x1 0
  let x3 : Int × Int × Int × Int × Int × Int × Int × Int := rDecode c.1 (qAt x1 0)
  let x4 : Bool := !x2 || x3.1 == 33
  let x5 : Int × Int × Int := ((pcOf c), 0, 4)
  let x6 : List TY := [] ++ [(1, x5)]
  let x7 : List TY := bif s == 5 then x6 ++ [(9, pcOf c, 0, 3)] else x6 ++ [(2, IntKind.u16.wrap ((pcOf c) + IntKind.u16.wrap 1), 0, 3)]
  let x8 : TC × Bool × List Int × TI × List TY := (c, s == 5, g, (33, x3.2), x7)
  let x9 : Bool := qAtC x8 1
  let x10 : Bool := !x9 || x9
  let x11 : Bool := !x10 || x9
  let x12 : Bool := pInternal s || (iN (List.length g) == 0 || (!x11 || x10))
  let x13 : List TY := [] ++ [(12, pcOf c, 0, 6)] ++ [(5, IntKind.u16.wrap ((spOf c) - 1), IntKind.u8.wrap (shrI IntKind.u16 (pcOf c) 8), 3)] ++ [(5, IntKind.u16.wrap ((spOf c) - 2), IntKind.u8.wrap (pcOf c), 3)]
  let x15 : List TY := [] ++ [(bif s == 5 then 8 else 1, x5)]
  let x17 : Int := qAt x8 1
  let x18 : List TY := x7 ++ [(6, rJoin x17 x17, 0, 3)]
  .br (!x4 || x2)
  (.br (x4)
   (.br (!x12 || (pInternal s || (iN (List.length g) == 0 || x11)))
    (.br (x12)
     (.br (pInternal s)
      (fin3 g x13)
      (.br (iN (List.length g) == 0)
       (fin3 g x15)
       (fin3 g x18)))
     (.leaf none))
    (.leaf none))
   (.leaf none))
  (.leaf none)

noncomputable def pNext_33 (c : TC) (s : Int) (g : List Int) : TY × Bool := getO pNextRs.dflt (pNext_33T c s g).val

noncomputable def pNext_33C (c : TC) (s : Int) (g : List Int) : Bool := okB (pNext_33T c s g).val

theorem pNext_33_ev (a : HL pNextTs) : evVal (envX Tryz.prog (pNextL 33) [] 1125900980585471 8) Tryz.f120 pNextTs pNextRs a = pNext_33T a.1 a.2.1 a.2.2 := by kernel_rfl

noncomputable def pNext_37T (c : TC) (s : Int) (g : List Int) : RT (Option (TY × Bool)) :=
  let x1 : TC × Bool × List Int × TI × List TY := (c, s == 5, g, (0, 0, 0, 0, 0, 0, 0, 0), [])
  let x2 : Bool := qAtC x1 0
  let x3 : Bool := !x2 || (rDecode c.1 (qAt x1 0)).1 == 37
  let x4 : List TY := [] ++ [(12, pcOf c, 0, 6)] ++ [(5, IntKind.u16.wrap ((spOf c) - 1), IntKind.u8.wrap (shrI IntKind.u16 (pcOf c) 8), 3)] ++ [(5, IntKind.u16.wrap ((spOf c) - 2), IntKind.u8.wrap (pcOf c), 3)]
  let x6 : Int × Int × Int := ((pcOf c), 0, 4)
  let x7 : List TY := [] ++ [(bif s == 5 then 8 else 1, x6)]
  let x9 : List TY := [] ++ [(1, x6)]
  let x10 : List TY := bif c.1 != 2 then x9 ++ [(10, pcOf c, 0, 3)] else x9
  .br (!x3 || x2)
  (.br (x3)
   (.br (pInternal s)
    (fin3 g x4)
    (.br (iN (List.length g) == 0)
     (fin3 g x7)
     (fin3 g x10)))
   (.leaf none))
  (.leaf none)

noncomputable def pNext_37 (c : TC) (s : Int) (g : List Int) : TY × Bool := getO pNextRs.dflt (pNext_37T c s g).val

noncomputable def pNext_37C (c : TC) (s : Int) (g : List Int) : Bool := okB (pNext_37T c s g).val

theorem pNext_37_ev (a : HL pNextTs) : evVal (envX Tryz.prog (pNextL 37) [] 1125900980585471 8) Tryz.f120 pNextTs pNextRs a = pNext_37T a.1 a.2.1 a.2.2 := by kernel_rfl

noncomputable def pNext_41T (c : TC) (s : Int) (g : List Int) : RT (Option (TY × Bool)) :=
  let x1 : TC × Bool × List Int × TI × List TY := (c, s == 5, g, (0, 0, 0, 0, 0, 0, 0, 0), [])
  let x2 : Bool := qAtC x1 0
  let x3 : Bool := !x2 || (rDecode c.1 (qAt x1 0)).1 == 41
  let x4 : List TY := [] ++ [(12, pcOf c, 0, 6)] ++ [(5, IntKind.u16.wrap ((spOf c) - 1), IntKind.u8.wrap (shrI IntKind.u16 (pcOf c) 8), 3)] ++ [(5, IntKind.u16.wrap ((spOf c) - 2), IntKind.u8.wrap (pcOf c), 3)]
  let x6 : Int × Int × Int := ((pcOf c), 0, 4)
  let x7 : List TY := [] ++ [(bif s == 5 then 8 else 1, x6)]
  let x9 : List TY := [] ++ [(1, x6)] ++ [(11, pcOf c, 0, 3)]
  .br (!x3 || x2)
  (.br (x3)
   (.br (pInternal s)
    (fin3 g x4)
    (.br (iN (List.length g) == 0)
     (fin3 g x7)
     (fin3 g x9)))
   (.leaf none))
  (.leaf none)

noncomputable def pNext_41 (c : TC) (s : Int) (g : List Int) : TY × Bool := getO pNextRs.dflt (pNext_41T c s g).val

noncomputable def pNext_41C (c : TC) (s : Int) (g : List Int) : Bool := okB (pNext_41T c s g).val

theorem pNext_41_ev (a : HL pNextTs) : evVal (envX Tryz.prog (pNextL 41) [] 1125900980585471 8) Tryz.f120 pNextTs pNextRs a = pNext_41T a.1 a.2.1 a.2.2 := by kernel_rfl

noncomputable def pNext_45T (c : TC) (s : Int) (g : List Int) : RT (Option (TY × Bool)) :=
  let x1 : TC × Bool × List Int × TI × List TY := (c, s == 5, g, (0, 0, 0, 0, 0, 0, 0, 0), [])
  let x2 : Bool := qAtC x1 0
  let x3 : Int × Int × Int × Int × Int × Int × Int × Int := rDecode c.1 (qAt x1 0)
  let x4 : Bool := !x2 || x3.1 == 45
  let x5 : Int := IntKind.u16.wrap ((spOf c) - 1)
  let x6 : Int := IntKind.u16.wrap ((spOf c) - 2)
  let x7 : List TY := [] ++ [(12, pcOf c, 0, 6)] ++ [(5, x5, IntKind.u8.wrap (shrI IntKind.u16 (pcOf c) 8), 3)] ++ [(5, x6, IntKind.u8.wrap (pcOf c), 3)]
  let x9 : Int × Int × Int := ((pcOf c), 0, 4)
  let x10 : List TY := [] ++ [(bif s == 5 then 8 else 1, x9)]
  let x12 : List TY := [] ++ [(1, x9)]
  let x13 : TC × Bool × List Int × TI × List TY := (c, s == 5, g, (45, x3.2), x12)
  let x14 : Int := qBehind x13
  let x15 : List TY := bif qTaken x13 then x12 ++ [(5, x5, IntKind.u8.wrap (shrI IntKind.u16 x14 8), 3)] ++ [(5, x6, IntKind.u8.wrap x14, 3)] else x12
  .br (!x4 || x2)
  (.br (x4)
   (.br (pInternal s)
    (fin3 g x7)
    (.br (iN (List.length g) == 0)
     (fin3 g x10)
     (fin3 g x15)))
   (.leaf none))
  (.leaf none)

noncomputable def pNext_45 (c : TC) (s : Int) (g : List Int) : TY × Bool := getO pNextRs.dflt (pNext_45T c s g).val

noncomputable def pNext_45C (c : TC) (s : Int) (g : List Int) : Bool := okB (pNext_45T c s g).val

theorem pNext_45_ev (a : HL pNextTs) : evVal (envX Tryz.prog (pNextL 45) [] 1125900980585471 8) Tryz.f120 pNextTs pNextRs a = pNext_45T a.1 a.2.1 a.2.2 := by kernel_rfl

noncomputable def rNext_2T (c : TC) (s : Int) (g : List Int) : RT (Option (TY × Bool)) :=
  let x1 : List TY := [(12, pcOf c, 0, 6)] ++ [(5, IntKind.u16.wrap ((spOf c) - 1), IntKind.u8.wrap (shrI IntKind.u16 (pcOf c) 8), 3)] ++ [(5, IntKind.u16.wrap ((spOf c) - 2), IntKind.u8.wrap (pcOf c), 3)]
  let x3 : List TY := [(bif s == 5 then 8 else 1, pcOf c, 0, 4)]
  let x4 : List TY := x3 ++ [(2, rPair c.2.1 2, 0, 3)]
  let x6 : List TY := x3 ++ [(3, rPair c.2.1 2, rGet c.2.1 (rDecode c.1 (R.get (R.int IntKind.u8) g 0)).2.2.2.1, 3)]
  let x8 : Nat := List.length x3
  let x9 : Bool := decide (iN (List.length g) ≥ iN x8)
  let x10 : Bool := inRng (iN (List.length g)) x8
  let x11 : TY × Bool := (R.get (RY) x3 (iN (List.length g)), true)
  .br (rInternal s || (!decide (iN (List.length g) > 0) || (!inRng 0 (List.length g) || (rDecode c.1 (R.get (R.int IntKind.u8) g 0)).1 == 2)))
  (.br (rInternal s || (!decide (iN (List.length g) > 0) || inRng 0 (List.length g)))
   (.br (rInternal s)
    (fin3 g x1)
    (.br (decide (iN (List.length g) > 0))
     (.br ((rDecode c.1 (R.get (R.int IntKind.u8) g 0)).2.2.2.1 == 6)
      (fin3 g x4)
      (.br ((rDecode c.1 (R.get (R.int IntKind.u8) g 0)).2.2.1 == 6)
       (fin3 g x6)
       (.br (x9)
        (.leaf (some (((0, 0, 0, 0), false))))
        (.br (x10)
         (.leaf (some (x11)))
         (.leaf none)))))
     (.br (x9)
      (.leaf (some (((0, 0, 0, 0), false))))
      (.br (x10)
       (.leaf (some (x11)))
       (.leaf none)))))
   (.leaf none))
  (.leaf none)

noncomputable def rNext_2 (c : TC) (s : Int) (g : List Int) : TY × Bool := getO rNextRs.dflt (rNext_2T c s g).val

noncomputable def rNext_2C (c : TC) (s : Int) (g : List Int) : Bool := okB (rNext_2T c s g).val

theorem rNext_2_ev (a : HL rNextTs) : evVal (envX Tryz.prog (rNextL 2) [] 2047 8) Tryz.f20 rNextTs rNextRs a = rNext_2T a.1 a.2.1 a.2.2 := by kernel_rfl

noncomputable def rNext_6T (c : TC) (s : Int) (g : List Int) : RT (Option (TY × Bool)) :=
  let x1 : List TY := [(bif s == 5 then 8 else 1, pcOf c, 0, 4)]
  let x2 : List TY := [(9, pcOf c, 0, 3)]
  let x3 : List TY := x1 ++ x2
  let x4 : List TY := [(2, IntKind.u16.wrap ((pcOf c) + IntKind.u16.wrap (IntKind.i64.wrap (1 + 1))), 0, 3)]
  let x5 : List TY := bif s == 5 then x3 ++ x2 else x3 ++ x4
  let x6 : TC × Bool × List Int × List TY := (c, s == 5, g, x5)
  let x7 : Bool := !s == 5 || mWordC x6 1
  let x8 : List TY := x1 ++ [(2, IntKind.u16.wrap ((pcOf c) + IntKind.u16.wrap 1), 0, 3)]
  let x9 : List TY := bif s == 5 then x8 ++ x2 else x8 ++ x4
  let x10 : TC × Bool × List Int × List TY := (c, s == 5, g, x9)
  let x11 : List TY := [(12, pcOf c, 0, 6)] ++ [(5, IntKind.u16.wrap ((spOf c) - 1), IntKind.u8.wrap (shrI IntKind.u16 (pcOf c) 8), 3)] ++ [(5, IntKind.u16.wrap ((spOf c) - 2), IntKind.u8.wrap (pcOf c), 3)]
  let x13 : List TY := x5 ++ [(3, mWord x6 1, c.2.1.1, 3)]
  let x15 : List TY := x9 ++ [(3, mWord x10 1, c.2.1.1, 3)]
  .br (rInternal s || (!decide (iN (List.length g) > 0) || (!inRng 0 (List.length g) || (!(rDecode c.1 (R.get (R.int IntKind.u8) g 0)).1 == 6 || (!x7 || (s == 5 || mWordC x10 1))))))
  (.br (rInternal s || (!decide (iN (List.length g) > 0) || (!inRng 0 (List.length g) || (!(rDecode c.1 (R.get (R.int IntKind.u8) g 0)).1 == 6 || x7))))
   (.br (rInternal s || (!decide (iN (List.length g) > 0) || (!inRng 0 (List.length g) || (rDecode c.1 (R.get (R.int IntKind.u8) g 0)).1 == 6)))
    (.br (rInternal s || (!decide (iN (List.length g) > 0) || inRng 0 (List.length g)))
     (.br (rInternal s)
      (fin3 g x11)
      (.br (decide (iN (List.length g) > 0))
       (.br (s == 5)
        (fin3 g x13)
        (fin3 g x15))
       (fin3 g x1)))
     (.leaf none))
    (.leaf none))
   (.leaf none))
  (.leaf none)

noncomputable def rNext_6 (c : TC) (s : Int) (g : List Int) : TY × Bool := getO rNextRs.dflt (rNext_6T c s g).val

noncomputable def rNext_6C (c : TC) (s : Int) (g : List Int) : Bool := okB (rNext_6T c s g).val

theorem rNext_6_ev (a : HL rNextTs) : evVal (envX Tryz.prog (rNextL 6) [] 2047 8) Tryz.f20 rNextTs rNextRs a = rNext_6T a.1 a.2.1 a.2.2 := by kernel_rfl

noncomputable def rNext_10T (c : TC) (s : Int) (g : List Int) : RT (Option (TY × Bool)) :=
  let x1 : List TY := [(12, pcOf c, 0, 6)] ++ [(5, IntKind.u16.wrap ((spOf c) - 1), IntKind.u8.wrap (shrI IntKind.u16 (pcOf c) 8), 3)] ++ [(5, IntKind.u16.wrap ((spOf c) - 2), IntKind.u8.wrap (pcOf c), 3)]
  let x3 : List TY := [(bif s == 5 then 8 else 1, pcOf c, 0, 4)]
  let x4 : List TY := x3 ++ [(3, rPair c.2.1 (rDecode c.1 (R.get (R.int IntKind.u8) g 0)).2.2.2.2.1, c.2.1.1, 3)]
  .br (rInternal s || (!decide (iN (List.length g) > 0) || (!inRng 0 (List.length g) || (rDecode c.1 (R.get (R.int IntKind.u8) g 0)).1 == 10)))
  (.br (rInternal s || (!decide (iN (List.length g) > 0) || inRng 0 (List.length g)))
   (.br (rInternal s)
    (fin3 g x1)
    (.br (decide (iN (List.length g) > 0))
     (fin3 g x4)
     (fin3 g x3)))
   (.leaf none))
  (.leaf none)

noncomputable def rNext_10 (c : TC) (s : Int) (g : List Int) : TY × Bool := getO rNextRs.dflt (rNext_10T c s g).val

noncomputable def rNext_10C (c : TC) (s : Int) (g : List Int) : Bool := okB (rNext_10T c s g).val

theorem rNext_10_ev (a : HL rNextTs) : evVal (envX Tryz.prog (rNextL 10) [] 2047 8) Tryz.f20 rNextTs rNextRs a = rNext_10T a.1 a.2.1 a.2.2 := by kernel_rfl

noncomputable def rNext_14T (c : TC) (s : Int) (g : List Int) : RT (Option (TY × Bool)) :=
  let x1 : List TY := [(bif s == 5 then 8 else 1, pcOf c, 0, 4)]
  let x2 : TC × Bool × List Int × List TY := (c, s == 5, g, x1)
  let x3 : List TY := [(12, pcOf c, 0, 6)] ++ [(5, IntKind.u16.wrap ((spOf c) - 1), IntKind.u8.wrap (shrI IntKind.u16 (pcOf c) 8), 3)] ++ [(5, IntKind.u16.wrap ((spOf c) - 2), IntKind.u8.wrap (pcOf c), 3)]
  let x5 : List TY := x1 ++ [(2, rPair c.2.1 2, 0, 3)] ++ [(3, rPair c.2.1 2, (rStepped c (14, (rDecode c.1 (R.get (R.int IntKind.u8) g 0)).2) (mAt x2 1)).1, 3)]
  let x7 : Nat := List.length x1
  let x8 : Bool := decide (iN (List.length g) ≥ iN x7)
  let x9 : Bool := inRng (iN (List.length g)) x7
  let x10 : TY × Bool := (R.get (RY) x1 (iN (List.length g)), true)
  .br (rInternal s || (!decide (iN (List.length g) > 0) || (!inRng 0 (List.length g) || (!(rDecode c.1 (R.get (R.int IntKind.u8) g 0)).1 == 14 || (!(rDecode c.1 (R.get (R.int IntKind.u8) g 0)).2.2.1 == 6 || mAtC x2 1)))))
  (.br (rInternal s || (!decide (iN (List.length g) > 0) || (!inRng 0 (List.length g) || (rDecode c.1 (R.get (R.int IntKind.u8) g 0)).1 == 14)))
   (.br (rInternal s || (!decide (iN (List.length g) > 0) || inRng 0 (List.length g)))
    (.br (rInternal s)
     (fin3 g x3)
     (.br (decide (iN (List.length g) > 0))
      (.br ((rDecode c.1 (R.get (R.int IntKind.u8) g 0)).2.2.1 == 6)
       (fin3 g x5)
       (.br (x8)
        (.leaf (some (((0, 0, 0, 0), false))))
        (.br (x9)
         (.leaf (some (x10)))
         (.leaf none))))
      (.br (x8)
       (.leaf (some (((0, 0, 0, 0), false))))
       (.br (x9)
        (.leaf (some (x10)))
        (.leaf none)))))
    (.leaf none))
   (.leaf none))
  (.leaf none)

noncomputable def rNext_14 (c : TC) (s : Int) (g : List Int) : TY × Bool := getO rNextRs.dflt (rNext_14T c s g).val

noncomputable def rNext_14C (c : TC) (s : Int) (g : List Int) : Bool := okB (rNext_14T c s g).val

theorem rNext_14_ev (a : HL rNextTs) : evVal (envX Tryz.prog (rNextL 14) [] 2047 8) Tryz.f20 rNextTs rNextRs a = rNext_14T a.1 a.2.1 a.2.2 := by kernel_rfl

noncomputable def rNext_18T (c : TC) (s : Int) (g : List Int) : RT (Option (TY × Bool)) :=
  let x1 : List TY := [(12, pcOf c, 0, 6)] ++ [(5, IntKind.u16.wrap ((spOf c) - 1), IntKind.u8.wrap (shrI IntKind.u16 (pcOf c) 8), 3)] ++ [(5, IntKind.u16.wrap ((spOf c) - 2), IntKind.u8.wrap (pcOf c), 3)]
  let x3 : List TY := [(bif s == 5 then 8 else 1, pcOf c, 0, 4)]
  let x4 : List TY := [(11, pcOf c, 0, 3)]
  let x5 : List TY := x3 ++ x4 ++ x4
  .br (rInternal s || (!decide (iN (List.length g) > 0) || (!inRng 0 (List.length g) || (rDecode c.1 (R.get (R.int IntKind.u8) g 0)).1 == 18)))
  (.br (rInternal s || (!decide (iN (List.length g) > 0) || inRng 0 (List.length g)))
   (.br (rInternal s)
    (fin3 g x1)
    (.br (decide (iN (List.length g) > 0))
     (fin3 g x5)
     (fin3 g x3)))
   (.leaf none))
  (.leaf none)

noncomputable def rNext_18 (c : TC) (s : Int) (g : List Int) : TY × Bool := getO rNextRs.dflt (rNext_18T c s g).val

noncomputable def rNext_18C (c : TC) (s : Int) (g : List Int) : Bool := okB (rNext_18T c s g).val

theorem rNext_18_ev (a : HL rNextTs) : evVal (envX Tryz.prog (rNextL 18) [] 2047 8) Tryz.f20 rNextTs rNextRs a = rNext_18T a.1 a.2.1 a.2.2 := by kernel_rfl

noncomputable def rNext_22T (c : TC) (s : Int) (g : List Int) : RT (Option (TY × Bool)) :=
  let x1 : List TY := [(12, pcOf c, 0, 6)] ++ [(5, IntKind.u16.wrap ((spOf c) - 1), IntKind.u8.wrap (shrI IntKind.u16 (pcOf c) 8), 3)] ++ [(5, IntKind.u16.wrap ((spOf c) - 2), IntKind.u8.wrap (pcOf c), 3)]
  let x3 : List TY := [(bif s == 5 then 8 else 1, pcOf c, 0, 4)]
  .br (rInternal s || (!decide (iN (List.length g) > 0) || (!inRng 0 (List.length g) || (rDecode c.1 (R.get (R.int IntKind.u8) g 0)).1 == 22)))
  (.br (rInternal s || (!decide (iN (List.length g) > 0) || inRng 0 (List.length g)))
   (.br (rInternal s)
    (fin3 g x1)
    (fin3 g x3))
   (.leaf none))
  (.leaf none)

noncomputable def rNext_22 (c : TC) (s : Int) (g : List Int) : TY × Bool := getO rNextRs.dflt (rNext_22T c s g).val

noncomputable def rNext_22C (c : TC) (s : Int) (g : List Int) : Bool := okB (rNext_22T c s g).val

theorem rNext_22_ev (a : HL rNextTs) : evVal (envX Tryz.prog (rNextL 22) [] 2047 8) Tryz.f20 rNextTs rNextRs a = rNext_22T a.1 a.2.1 a.2.2 := by kernel_rfl

noncomputable def rNext_26T (c : TC) (s : Int) (g : List Int) : RT (Option (TY × Bool)) :=
  let x1 : List TY := [(12, pcOf c, 0, 6)] ++ [(5, IntKind.u16.wrap ((spOf c) - 1), IntKind.u8.wrap (shrI IntKind.u16 (pcOf c) 8), 3)] ++ [(5, IntKind.u16.wrap ((spOf c) - 2), IntKind.u8.wrap (pcOf c), 3)]
  let x3 : List TY := [(bif s == 5 then 8 else 1, pcOf c, 0, 4)]
  let x4 : List TY := x3 ++ [(4, spOf c, 0, 3)] ++ [(4, IntKind.u16.wrap ((spOf c) + 1), 0, 3)]
  let x6 : Nat := List.length x3
  let x7 : Bool := decide (iN (List.length g) ≥ iN x6)
  let x8 : Bool := inRng (iN (List.length g)) x6
  let x9 : TY × Bool := (R.get (RY) x3 (iN (List.length g)), true)
  .br (rInternal s || (!decide (iN (List.length g) > 0) || (!inRng 0 (List.length g) || (rDecode c.1 (R.get (R.int IntKind.u8) g 0)).1 == 26)))
  (.br (rInternal s || (!decide (iN (List.length g) > 0) || inRng 0 (List.length g)))
   (.br (rInternal s)
    (fin3 g x1)
    (.br (decide (iN (List.length g) > 0))
     (.br (mTaken (c, s == 5, g, x3) (26, (rDecode c.1 (R.get (R.int IntKind.u8) g 0)).2))
      (fin3 g x4)
      (.br (x7)
       (.leaf (some (((0, 0, 0, 0), false))))
       (.br (x8)
        (.leaf (some (x9)))
        (.leaf none))))
     (.br (x7)
      (.leaf (some (((0, 0, 0, 0), false))))
      (.br (x8)
       (.leaf (some (x9)))
       (.leaf none)))))
   (.leaf none))
  (.leaf none)

noncomputable def rNext_26 (c : TC) (s : Int) (g : List Int) : TY × Bool := getO rNextRs.dflt (rNext_26T c s g).val

noncomputable def rNext_26C (c : TC) (s : Int) (g : List Int) : Bool := okB (rNext_26T c s g).val

theorem rNext_26_ev (a : HL rNextTs) : evVal (envX Tryz.prog (rNextL 26) [] 2047 8) Tryz.f20 rNextTs rNextRs a = rNext_26T a.1 a.2.1 a.2.2 := by kernel_rfl

noncomputable def rNext_30T (c : TC) (s : Int) (g : List Int) : RT (Option (TY × Bool)) :=
  let x1 : Int := IntKind.u16.wrap ((spOf c) - 1)
  let x2 : Int := IntKind.u16.wrap ((spOf c) - 2)
  let x3 : List TY := [(12, pcOf c, 0, 6)] ++ [(5, x1, IntKind.u8.wrap (shrI IntKind.u16 (pcOf c) 8), 3)] ++ [(5, x2, IntKind.u8.wrap (pcOf c), 3)]
  let x5 : List TY := [(bif s == 5 then 8 else 1, pcOf c, 0, 4)]
  let x6 : Int := bif (rDecode c.1 (R.get (R.int IntKind.u8) g 0)).2.2.2.2.1 == 3 then rPSW c.1 c.2.1 else rPair c.2.1 (rDecode c.1 (R.get (R.int IntKind.u8) g 0)).2.2.2.2.1
  let x7 : List TY := x5 ++ [(5, x1, IntKind.u8.wrap (shrI IntKind.u16 x6 8), 3)] ++ [(5, x2, IntKind.u8.wrap x6, 3)]
  .br (rInternal s || (!decide (iN (List.length g) > 0) || (!inRng 0 (List.length g) || (rDecode c.1 (R.get (R.int IntKind.u8) g 0)).1 == 30)))
  (.br (rInternal s || (!decide (iN (List.length g) > 0) || inRng 0 (List.length g)))
   (.br (rInternal s)
    (fin3 g x3)
    (.br (decide (iN (List.length g) > 0))
     (fin3 g x7)
     (fin3 g x5)))
   (.leaf none))
  (.leaf none)

noncomputable def rNext_30 (c : TC) (s : Int) (g : List Int) : TY × Bool := getO rNextRs.dflt (rNext_30T c s g).val

noncomputable def rNext_30C (c : TC) (s : Int) (g : List Int) : Bool := okB (rNext_30T c s g).val

theorem rNext_30_ev (a : HL rNextTs) : evVal (envX Tryz.prog (rNextL 30) [] 2047 8) Tryz.f20 rNextTs rNextRs a = rNext_30T a.1 a.2.1 a.2.2 := by kernel_rfl

noncomputable def rNext_34T (c : TC) (s : Int) (g : List Int) : RT (Option (TY × Bool)) :=
  let x1 : List TY := [(bif s == 5 then 8 else 1, pcOf c, 0, 4)]
  let x2 : List TY := x1 ++ [(9, pcOf c, 0, 3)]
  let x3 : TC × Bool × List Int × List TY := (c, s == 5, g, x2)
  let x4 : Bool := mAtC x3 1
  let x5 : Bool := !x4 || x4
  let x6 : Bool := !s == 5 || (!x5 || x4)
  let x7 : Bool := !x6
  let x8 : Bool := !s == 5 || x5
  let x9 : Bool := !x8
  let x10 : List TY := x1 ++ [(2, IntKind.u16.wrap ((pcOf c) + IntKind.u16.wrap 1), 0, 3)]
  let x11 : TC × Bool × List Int × List TY := (c, s == 5, g, x10)
  let x12 : Bool := mAtC x11 1
  let x13 : Bool := !x12 || x12
  let x14 : Bool := s == 5 || (!x13 || x12)
  let x15 : List TY := [(12, pcOf c, 0, 6)] ++ [(5, IntKind.u16.wrap ((spOf c) - 1), IntKind.u8.wrap (shrI IntKind.u16 (pcOf c) 8), 3)] ++ [(5, IntKind.u16.wrap ((spOf c) - 2), IntKind.u8.wrap (pcOf c), 3)]
  let x17 : Int := mAt x3 1
  let x18 : List TY := x2 ++ [(7, rJoin x17 x17, c.2.1.1, 3)]
  let x20 : Int := mAt x11 1
  let x21 : List TY := x10 ++ [(7, rJoin x20 x20, c.2.1.1, 3)]
  .br (rInternal s || (!decide (iN (List.length g) > 0) || (!inRng 0 (List.length g) || (!(rDecode c.1 (R.get (R.int IntKind.u8) g 0)).1 == 34 || (x7 || (x9 || (!x14 || (s == 5 || x13))))))))
  (.br (rInternal s || (!decide (iN (List.length g) > 0) || (!inRng 0 (List.length g) || (!(rDecode c.1 (R.get (R.int IntKind.u8) g 0)).1 == 34 || (x7 || (x9 || x14))))))
   (.br (rInternal s || (!decide (iN (List.length g) > 0) || (!inRng 0 (List.length g) || (!(rDecode c.1 (R.get (R.int IntKind.u8) g 0)).1 == 34 || (x7 || x8)))))
    (.br (rInternal s || (!decide (iN (List.length g) > 0) || (!inRng 0 (List.length g) || (!(rDecode c.1 (R.get (R.int IntKind.u8) g 0)).1 == 34 || x6))))
     (.br (rInternal s || (!decide (iN (List.length g) > 0) || (!inRng 0 (List.length g) || (rDecode c.1 (R.get (R.int IntKind.u8) g 0)).1 == 34)))
      (.br (rInternal s || (!decide (iN (List.length g) > 0) || inRng 0 (List.length g)))
       (.br (rInternal s)
        (fin3 g x15)
        (.br (decide (iN (List.length g) > 0))
         (.br (s == 5)
          (fin3 g x18)
          (fin3 g x21))
         (fin3 g x1)))
       (.leaf none))
      (.leaf none))
     (.leaf none))
    (.leaf none))
   (.leaf none))
  (.leaf none)

noncomputable def rNext_34 (c : TC) (s : Int) (g : List Int) : TY × Bool := getO rNextRs.dflt (rNext_34T c s g).val

noncomputable def rNext_34C (c : TC) (s : Int) (g : List Int) : Bool := okB (rNext_34T c s g).val

theorem rNext_34_ev (a : HL rNextTs) : evVal (envX Tryz.prog (rNextL 34) [] 2047 8) Tryz.f20 rNextTs rNextRs a = rNext_34T a.1 a.2.1 a.2.2 := by kernel_rfl

noncomputable def rNext_38T (c : TC) (s : Int) (g : List Int) : RT (Option (TY × Bool)) :=
  let x1 : List TY := [(12, pcOf c, 0, 6)] ++ [(5, IntKind.u16.wrap ((spOf c) - 1), IntKind.u8.wrap (shrI IntKind.u16 (pcOf c) 8), 3)] ++ [(5, IntKind.u16.wrap ((spOf c) - 2), IntKind.u8.wrap (pcOf c), 3)]
  let x3 : List TY := [(bif s == 5 then 8 else 1, pcOf c, 0, 4)]
  .br (rInternal s || (!decide (iN (List.length g) > 0) || (!inRng 0 (List.length g) || (rDecode c.1 (R.get (R.int IntKind.u8) g 0)).1 == 38)))
  (.br (rInternal s || (!decide (iN (List.length g) > 0) || inRng 0 (List.length g)))
   (.br (rInternal s)
    (fin3 g x1)
    (fin3 g x3))
   (.leaf none))
  (.leaf none)

noncomputable def rNext_38 (c : TC) (s : Int) (g : List Int) : TY × Bool := getO rNextRs.dflt (rNext_38T c s g).val

noncomputable def rNext_38C (c : TC) (s : Int) (g : List Int) : Bool := okB (rNext_38T c s g).val

theorem rNext_38_ev (a : HL rNextTs) : evVal (envX Tryz.prog (rNextL 38) [] 2047 8) Tryz.f20 rNextTs rNextRs a = rNext_38T a.1 a.2.1 a.2.2 := by kernel_rfl

noncomputable def rNext_42T (c : TC) (s : Int) (g : List Int) : RT (Option (TY × Bool)) :=
  let x1 : List TY := [(12, pcOf c, 0, 6)] ++ [(5, IntKind.u16.wrap ((spOf c) - 1), IntKind.u8.wrap (shrI IntKind.u16 (pcOf c) 8), 3)] ++ [(5, IntKind.u16.wrap ((spOf c) - 2), IntKind.u8.wrap (pcOf c), 3)]
  let x3 : List TY := [(bif s == 5 then 8 else 1, pcOf c, 0, 4)]
  let x4 : List TY := [(11, pcOf c, 0, 3)]
  let x5 : List TY := x3 ++ x4 ++ x4
  .br (rInternal s || (!decide (iN (List.length g) > 0) || (!inRng 0 (List.length g) || (rDecode c.1 (R.get (R.int IntKind.u8) g 0)).1 == 42)))
  (.br (rInternal s || (!decide (iN (List.length g) > 0) || inRng 0 (List.length g)))
   (.br (rInternal s)
    (fin3 g x1)
    (.br (decide (iN (List.length g) > 0))
     (fin3 g x5)
     (fin3 g x3)))
   (.leaf none))
  (.leaf none)

noncomputable def rNext_42 (c : TC) (s : Int) (g : List Int) : TY × Bool := getO rNextRs.dflt (rNext_42T c s g).val

noncomputable def rNext_42C (c : TC) (s : Int) (g : List Int) : Bool := okB (rNext_42T c s g).val

theorem rNext_42_ev (a : HL rNextTs) : evVal (envX Tryz.prog (rNextL 42) [] 2047 8) Tryz.f20 rNextTs rNextRs a = rNext_42T a.1 a.2.1 a.2.2 := by kernel_rfl

noncomputable def rNext_46T (c : TC) (s : Int) (g : List Int) : RT (Option (TY × Bool)) :=
  let x1 : List TY := [(12, pcOf c, 0, 6)] ++ [(5, IntKind.u16.wrap ((spOf c) - 1), IntKind.u8.wrap (shrI IntKind.u16 (pcOf c) 8), 3)] ++ [(5, IntKind.u16.wrap ((spOf c) - 2), IntKind.u8.wrap (pcOf c), 3)]
  let x3 : List TY := [(bif s == 5 then 8 else 1, pcOf c, 0, 4)]
  let x4 : List TY := x3 ++ [(3, rPair c.2.1 1, c.2.1.2.2.2.2.2.2.1, 3)] ++ [(3, IntKind.u16.wrap (rPair c.2.1 1 + 1), c.2.1.2.2.2.2.2.1, 3)]
  .br (rInternal s || (!decide (iN (List.length g) > 0) || (!inRng 0 (List.length g) || (rDecode c.1 (R.get (R.int IntKind.u8) g 0)).1 == 46)))
  (.br (rInternal s || (!decide (iN (List.length g) > 0) || inRng 0 (List.length g)))
   (.br (rInternal s)
    (fin3 g x1)
    (.br (decide (iN (List.length g) > 0))
     (fin3 g x4)
     (fin3 g x3)))
   (.leaf none))
  (.leaf none)

noncomputable def rNext_46 (c : TC) (s : Int) (g : List Int) : TY × Bool := getO rNextRs.dflt (rNext_46T c s g).val

noncomputable def rNext_46C (c : TC) (s : Int) (g : List Int) : Bool := okB (rNext_46T c s g).val

theorem rNext_46_ev (a : HL rNextTs) : evVal (envX Tryz.prog (rNextL 46) [] 2047 8) Tryz.f20 rNextTs rNextRs a = rNext_46T a.1 a.2.1 a.2.2 := by kernel_rfl
end
end Go.Proofs.YteboknglfjadoaaGreat
