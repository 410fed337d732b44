/-
  Contracts of functions; each found by the symbolic executor and checked by the kernel. Conditions: none.
-/
import Derived.Test.YteboknglfjadoaaGreatS3D
import Derived.Test.YteboknglfjadoaaGreatProg
import Derived.Test.YteboknglfjadoaaGreatNext0
set_option linter.unusedSimpArgs false
open Go Go.S3 Go.Proofs
set_option linter.unusedVariables false
set_option maxRecDepth 100000
namespace Go.Proofs.YteboknglfjadoaaGreat
noncomputable section
noncomputable def pNext_4T (c : TC) (s : Int) (g : List Int) : RT (Option (TY × Bool)) :=
  let x1 : TC × Bool × List Int × TI × List TY := (c, s == 5, g, (0, 0, 0, 0, 0, 0, 0, 0), [])
  let x2 : Bool := qAtC x1 0
  let x3 : Int × Int × Int × Int × Int × Int × Int × Int := rDecode c.1 (qAt x1 0)
  let x4 : Bool := !x2 || x3.1 == 4
  let x5 : Int × Int × Int := ((pcOf c), 0, 4)
  let x6 : List TY := [] ++ [(1, x5)]
  let x7 : List TY := [(9, pcOf c, 0, 3)]
  let x8 : List TY := bif s == 5 then x6 ++ x7 else x6 ++ [(2, IntKind.u16.wrap ((pcOf c) + IntKind.u16.wrap 1), 0, 3)]
  let x9 : List TY := bif s == 5 then x8 ++ x7 else x8 ++ [(2, IntKind.u16.wrap ((pcOf c) + IntKind.u16.wrap (IntKind.i64.wrap (1 + 1))), 0, 3)]
  let x10 : List TY := [] ++ [(12, pcOf c, 0, 6)] ++ [(5, IntKind.u16.wrap ((spOf c) - 1), IntKind.u8.wrap (shrI IntKind.u16 (pcOf c) 8), 3)] ++ [(5, IntKind.u16.wrap ((spOf c) - 2), IntKind.u8.wrap (pcOf c), 3)]
  let x12 : List TY := [] ++ [(bif s == 5 then 8 else 1, x5)]
  .br (!x4 || x2)
  (.br (x4)
   (.br (pInternal s || (iN (List.length g) == 0 || qJoinC (c, s == 5, g, (4, x3.2), x9) 1))
    (.br (pInternal s)
     (fin3 g x10)
     (.br (iN (List.length g) == 0)
      (fin3 g x12)
      (fin3 g x9)))
    (.leaf none))
   (.leaf none))
  (.leaf none)

noncomputable def pNext_4 (c : TC) (s : Int) (g : List Int) : TY × Bool := getO pNextRs.dflt (pNext_4T c s g).val

noncomputable def pNext_4C (c : TC) (s : Int) (g : List Int) : Bool := okB (pNext_4T c s g).val

theorem pNext_4_ev (a : HL pNextTs) : evVal (envX Tryz.prog (pNextL 4) [] 1125900980585471 8) Tryz.f120 pNextTs pNextRs a = pNext_4T a.1 a.2.1 a.2.2 := by kernel_rfl

noncomputable def pNext_8T (c : TC) (s : Int) (g : List Int) : RT (Option (TY × Bool)) :=
  let x1 : TC × Bool × List Int × TI × List TY := (c, s == 5, g, (0, 0, 0, 0, 0, 0, 0, 0), [])
  let x2 : Bool := qAtC x1 0
  let x3 : Int × Int × Int × Int × Int × Int × Int × Int := rDecode c.1 (qAt x1 0)
  let x4 : Bool := !x2 || x3.1 == 8
  let x5 : Int × Int × Int := ((pcOf c), 0, 4)
  let x6 : List TY := [] ++ [(1, x5)]
  let x7 : List TY := [(9, pcOf c, 0, 3)]
  let x8 : List TY := bif s == 5 then x6 ++ x7 else x6 ++ [(2, IntKind.u16.wrap ((pcOf c) + IntKind.u16.wrap 1), 0, 3)]
  let x9 : List TY := bif s == 5 then x8 ++ x7 else x8 ++ [(2, IntKind.u16.wrap ((pcOf c) + IntKind.u16.wrap (IntKind.i64.wrap (1 + 1))), 0, 3)]
  let x10 : TC × Bool × List Int × TI × List TY := (c, s == 5, g, (8, x3.2), x9)
  let x11 : List TY := [] ++ [(12, pcOf c, 0, 6)] ++ [(5, IntKind.u16.wrap ((spOf c) - 1), IntKind.u8.wrap (shrI IntKind.u16 (pcOf c) 8), 3)] ++ [(5, IntKind.u16.wrap ((spOf c) - 2), IntKind.u8.wrap (pcOf c), 3)]
  let x13 : List TY := [] ++ [(bif s == 5 then 8 else 1, x5)]
  let x15 : Int := qJoin x10 1
  let x16 : List TY := x9 ++ [(3, x15, c.2.1.2.2.2.2.2.2.1, 3)] ++ [(3, IntKind.u16.wrap (x15 + 1), c.2.1.2.2.2.2.2.1, 3)]
  .br (!x4 || x2)
  (.br (x4)
   (.br (pInternal s || (iN (List.length g) == 0 || qJoinC x10 1))
    (.br (pInternal s)
     (fin3 g x11)
     (.br (iN (List.length g) == 0)
      (fin3 g x13)
      (fin3 g x16)))
    (.leaf none))
   (.leaf none))
  (.leaf none)

noncomputable def pNext_8 (c : TC) (s : Int) (g : List Int) : TY × Bool := getO pNextRs.dflt (pNext_8T c s g).val

noncomputable def pNext_8C (c : TC) (s : Int) (g : List Int) : Bool := okB (pNext_8T c s g).val

theorem pNext_8_ev (a : HL pNextTs) : evVal (envX Tryz.prog (pNextL 8) [] 1125900980585471 8) Tryz.f120 pNextTs pNextRs a = pNext_8T a.1 a.2.1 a.2.2 := by kernel_rfl

noncomputable def pNext_12T (c : TC) (s : Int) (g : List Int) : RT (Option (TY × Bool)) :=
  let x1 : TC × Bool × List Int × TI × List TY := (c, s == 5, g, (0, 0, 0, 0, 0, 0, 0, 0), [])
  let x2 : Bool := qAtC x1 0
  let x3 : Int × Int × Int × Int × Int × Int × Int × Int := rDecode c.1 (qAt x1 0)
  let x4 : Bool := !x2 || x3.1 == 12
  let x5 : List TY := [] ++ [(12, pcOf c, 0, 6)] ++ [(5, IntKind.u16.wrap ((spOf c) - 1), IntKind.u8.wrap (shrI IntKind.u16 (pcOf c) 8), 3)] ++ [(5, IntKind.u16.wrap ((spOf c) - 2), IntKind.u8.wrap (pcOf c), 3)]
  let x7 : Int × Int × Int := ((pcOf c), 0, 4)
  let x8 : List TY := [] ++ [(bif s == 5 then 8 else 1, x7)]
  let x10 : Int × Int × Int × Int × Int × Int × Int := x3.2
  let x11 : List TY := [] ++ [(1, x7)]
  let x12 : List TY := bif x10.2.2.1 == 6 then x11 ++ [(2, qPair (c, s == 5, g, (12, x10), x11) 2, 0, 3)] else x11
  .br (!x4 || x2)
  (.br (x4)
   (.br (pInternal s)
    (fin3 g x5)
    (.br (iN (List.length g) == 0)
     (fin3 g x8)
     (fin3 g x12)))
   (.leaf none))
  (.leaf none)

noncomputable def pNext_12 (c : TC) (s : Int) (g : List Int) : TY × Bool := getO pNextRs.dflt (pNext_12T c s g).val

noncomputable def pNext_12C (c : TC) (s : Int) (g : List Int) : Bool := okB (pNext_12T c s g).val

theorem pNext_12_ev (a : HL pNextTs) : evVal (envX Tryz.prog (pNextL 12) [] 1125900980585471 8) Tryz.f120 pNextTs pNextRs a = pNext_12T a.1 a.2.1 a.2.2 := by kernel_rfl

noncomputable def pNext_16T (c : TC) (s : Int) (g : List Int) : RT (Option (TY × Bool)) :=
  let x1 : TC × Bool × List Int × TI × List TY := (c, s == 5, g, (0, 0, 0, 0, 0, 0, 0, 0), [])
  let x2 : Bool := qAtC x1 0
  let x3 : Bool := !x2 || (rDecode c.1 (qAt x1 0)).1 == 16
  let x4 : List TY := [] ++ [(12, pcOf c, 0, 6)] ++ [(5, IntKind.u16.wrap ((spOf c) - 1), IntKind.u8.wrap (shrI IntKind.u16 (pcOf c) 8), 3)] ++ [(5, IntKind.u16.wrap ((spOf c) - 2), IntKind.u8.wrap (pcOf c), 3)]
  let x6 : Int × Int × Int := ((pcOf c), 0, 4)
  let x7 : List TY := [] ++ [(bif s == 5 then 8 else 1, x6)]
  let x9 : List TY := [] ++ [(1, x6)]
  .br (!x3 || x2)
  (.br (x3)
   (.br (pInternal s)
    (fin3 g x4)
    (.br (iN (List.length g) == 0)
     (fin3 g x7)
     (fin3 g x9)))
   (.leaf none))
  (.leaf none)

noncomputable def pNext_16 (c : TC) (s : Int) (g : List Int) : TY × Bool := getO pNextRs.dflt (pNext_16T c s g).val

noncomputable def pNext_16C (c : TC) (s : Int) (g : List Int) : Bool := okB (pNext_16T c s g).val

theorem pNext_16_ev (a : HL pNextTs) : evVal (envX Tryz.prog (pNextL 16) [] 1125900980585471 8) Tryz.f120 pNextTs pNextRs a = pNext_16T a.1 a.2.1 a.2.2 := by kernel_rfl

noncomputable def pNext_20T (c : TC) (s : Int) (g : List Int) : RT (Option (TY × Bool)) :=
  let x1 : TC × Bool × List Int × TI × List TY := (c, s == 5, g, (0, 0, 0, 0, 0, 0, 0, 0), [])
  let x2 : Bool := qAtC x1 0
  let x3 : Bool := !x2 || (rDecode c.1 (qAt x1 0)).1 == 20
  let x4 : List TY := [] ++ [(12, pcOf c, 0, 6)] ++ [(5, IntKind.u16.wrap ((spOf c) - 1), IntKind.u8.wrap (shrI IntKind.u16 (pcOf c) 8), 3)] ++ [(5, IntKind.u16.wrap ((spOf c) - 2), IntKind.u8.wrap (pcOf c), 3)]
  let x6 : Int × Int × Int := ((pcOf c), 0, 4)
  let x7 : List TY := [] ++ [(bif s == 5 then 8 else 1, x6)]
  let x9 : List TY := [] ++ [(1, x6)]
  .br (!x3 || x2)
  (.br (x3)
   (.br (pInternal s)
    (fin3 g x4)
    (.br (iN (List.length g) == 0)
     (fin3 g x7)
     (fin3 g x9)))
   (.leaf none))
  (.leaf none)

noncomputable def pNext_20 (c : TC) (s : Int) (g : List Int) : TY × Bool := getO pNextRs.dflt (pNext_20T c s g).val

noncomputable def pNext_20C (c : TC) (s : Int) (g : List Int) : Bool := okB (pNext_20T c s g).val

theorem pNext_20_ev (a : HL pNextTs) : evVal (envX Tryz.prog (pNextL 20) [] 1125900980585471 8) Tryz.f120 pNextTs pNextRs a = pNext_20T a.1 a.2.1 a.2.2 := by kernel_rfl

noncomputable def pNext_24T (c : TC) (s : Int) (g : List Int) : RT (Option (TY × Bool)) :=
  let x1 : TC × Bool × List Int × TI × List TY := (c, s == 5, g, (0, 0, 0, 0, 0, 0, 0, 0), [])
  let x2 : Bool := qAtC x1 0
  let x3 : Int × Int × Int × Int × Int × Int × Int × Int := rDecode c.1 (qAt x1 0)
  let x4 : Bool := !x2 || x3.1 == 24
  let x5 : List TY := [] ++ [(12, pcOf c, 0, 6)] ++ [(5, IntKind.u16.wrap ((spOf c) - 1), IntKind.u8.wrap (shrI IntKind.u16 (pcOf c) 8), 3)] ++ [(5, IntKind.u16.wrap ((spOf c) - 2), IntKind.u8.wrap (pcOf c), 3)]
  let x7 : Int × Int × Int := ((pcOf c), 0, 4)
  let x8 : List TY := [] ++ [(bif s == 5 then 8 else 1, x7)]
  let x10 : List TY := [] ++ [(1, x7)]
  let x11 : List TY := [(9, pcOf c, 0, 3)]
  let x12 : List TY := bif s == 5 then x10 ++ x11 else x10 ++ [(2, IntKind.u16.wrap ((pcOf c) + IntKind.u16.wrap 1), 0, 3)]
  let x13 : List TY := bif !qTaken (c, s == 5, g, (24, x3.2), x10) && c.1 == 2 then x12 else bif s == 5 then x12 ++ x11 else x12 ++ [(2, IntKind.u16.wrap ((pcOf c) + IntKind.u16.wrap (IntKind.i64.wrap (1 + 1))), 0, 3)]
  .br (!x4 || x2)
  (.br (x4)
   (.br (pInternal s)
    (fin3 g x5)
    (.br (iN (List.length g) == 0)
     (fin3 g x8)
     (fin3 g x13)))
   (.leaf none))
  (.leaf none)

noncomputable def pNext_24 (c : TC) (s : Int) (g : List Int) : TY × Bool := getO pNextRs.dflt (pNext_24T c s g).val

noncomputable def pNext_24C (c : TC) (s : Int) (g : List Int) : Bool := okB (pNext_24T c s g).val

theorem pNext_24_ev (a : HL pNextTs) : evVal (envX Tryz.prog (pNextL 24) [] 1125900980585471 8) Tryz.f120 pNextTs pNextRs a = pNext_24T a.1 a.2.1 a.2.2 := by kernel_rfl

noncomputable def pNext_28T (c : TC) (s : Int) (g : List Int) : RT (Option (TY × Bool)) :=
  let x1 : TC × Bool × List Int × TI × List TY := (c, s == 5, g, (0, 0, 0, 0, 0, 0, 0, 0), [])
  let x2 : Bool := qAtC x1 0
  let x3 : Bool := !x2 || (rDecode c.1 (qAt x1 0)).1 == 28
  let x4 : List TY := [] ++ [(12, pcOf c, 0, 6)] ++ [(5, IntKind.u16.wrap ((spOf c) - 1), IntKind.u8.wrap (shrI IntKind.u16 (pcOf c) 8), 3)] ++ [(5, IntKind.u16.wrap ((spOf c) - 2), IntKind.u8.wrap (pcOf c), 3)]
  let x6 : Int × Int × Int := ((pcOf c), 0, 4)
  let x7 : List TY := [] ++ [(bif s == 5 then 8 else 1, x6)]
  let x9 : List TY := [] ++ [(1, x6)]
  .br (!x3 || x2)
  (.br (x3)
   (.br (pInternal s)
    (fin3 g x4)
    (.br (iN (List.length g) == 0)
     (fin3 g x7)
     (fin3 g x9)))
   (.leaf none))
  (.leaf none)

noncomputable def pNext_28 (c : TC) (s : Int) (g : List Int) : TY × Bool := getO pNextRs.dflt (pNext_28T c s g).val

noncomputable def pNext_28C (c : TC) (s : Int) (g : List Int) : Bool := okB (pNext_28T c s g).val

theorem pNext_28_ev (a : HL pNextTs) : evVal (envX Tryz.prog (pNextL 28) [] 1125900980585471 8) Tryz.f120 pNextTs pNextRs a = pNext_28T a.1 a.2.1 a.2.2 := by kernel_rfl

noncomputable def pNext_32T (c : TC) (s : Int) (g : List Int) : RT (Option (TY × Bool)) :=
  let x1 : TC × Bool × List Int × TI × List TY := (c, s == 5, g, (0, 0, 0, 0, 0, 0, 0, 0), [])
  let x2 : Bool := qAtC x1 0
  let x3 : Bool := !x2 || (rDecode c.1 (qAt x1 0)).1 == 32
  let x4 : List TY := [] ++ [(12, pcOf c, 0, 6)] ++ [(5, IntKind.u16.wrap ((spOf c) - 1), IntKind.u8.wrap (shrI IntKind.u16 (pcOf c) 8), 3)] ++ [(5, IntKind.u16.wrap ((spOf c) - 2), IntKind.u8.wrap (pcOf c), 3)]
  let x6 : Int × Int × Int := ((pcOf c), 0, 4)
  let x7 : List TY := [] ++ [(bif s == 5 then 8 else 1, x6)]
  let x9 : Int := IntKind.u16.wrap ((spOf c) + 1)
  let x10 : List TY := [] ++ [(1, x6)] ++ [(4, spOf c, 0, 3)] ++ [(4, x9, 0, 3)] ++ [(5, x9, c.2.1.2.2.2.2.2.1, 3)] ++ [(5, spOf c, c.2.1.2.2.2.2.2.2.1, 3)]
  let x11 : Int := IntKind.i64.wrap (iN (List.length x10) - 1)
  let x12 : Int × Int × Int × Int := R.get (RY) x10 x11
  let x13 : Int × Int × Int := x12.2
  let x14 : List TY := bif c.1 != 2 then setI x10 x11 (x12.1, x13.1, x13.2.1, 5) else x10
  .br (!x3 || x2)
  (.br (x3)
   (.br (pInternal s)
    (fin3 g x4)
    (.br (iN (List.length g) == 0)
     (fin3 g x7)
     (fin3 g x14)))
   (.leaf none))
  (.leaf none)

noncomputable def pNext_32 (c : TC) (s : Int) (g : List Int) : TY × Bool := getO pNextRs.dflt (pNext_32T c s g).val

noncomputable def pNext_32C (c : TC) (s : Int) (g : List Int) : Bool := okB (pNext_32T c s g).val

theorem pNext_32_ev (a : HL pNextTs) : evVal (envX Tryz.prog (pNextL 32) [] 1125900980585471 8) Tryz.f120 pNextTs pNextRs a = pNext_32T a.1 a.2.1 a.2.2 := by kernel_rfl

noncomputable def pNext_36T (c : TC) (s : Int) (g : List Int) : RT (Option (TY × Bool)) :=
  let x1 : TC × Bool × List Int × TI × List TY := (c, s == 5, g, (0, 0, 0, 0, 0, 0, 0, 0), [])
  let x2 : Bool := qAtC x1 0
  let x3 : Bool := !x2 || (rDecode c.1 (qAt x1 0)).1 == 36
  let x4 : List TY := [] ++ [(12, pcOf c, 0, 6)] ++ [(5, IntKind.u16.wrap ((spOf c) - 1), IntKind.u8.wrap (shrI IntKind.u16 (pcOf c) 8), 3)] ++ [(5, IntKind.u16.wrap ((spOf c) - 2), IntKind.u8.wrap (pcOf c), 3)]
  let x6 : Int × Int × Int := ((pcOf c), 0, 4)
  let x7 : List TY := [] ++ [(bif s == 5 then 8 else 1, x6)]
  let x9 : List TY := [] ++ [(1, x6)]
  .br (!x3 || x2)
  (.br (x3)
   (.br (pInternal s)
    (fin3 g x4)
    (.br (iN (List.length g) == 0)
     (fin3 g x7)
     (fin3 g x9)))
   (.leaf none))
  (.leaf none)

noncomputable def pNext_36 (c : TC) (s : Int) (g : List Int) : TY × Bool := getO pNextRs.dflt (pNext_36T c s g).val

noncomputable def pNext_36C (c : TC) (s : Int) (g : List Int) : Bool := okB (pNext_36T c s g).val

theorem pNext_36_ev (a : HL pNextTs) : evVal (envX Tryz.prog (pNextL 36) [] 1125900980585471 8) Tryz.f120 pNextTs pNextRs a = pNext_36T a.1 a.2.1 a.2.2 := by kernel_rfl

noncomputable def pNext_40T (c : TC) (s : Int) (g : List Int) : RT (Option (TY × Bool)) :=
  let x1 : TC × Bool × List Int × TI × List TY := (c, s == 5, g, (0, 0, 0, 0, 0, 0, 0, 0), [])
  let x2 : Bool := qAtC x1 0
  let x3 : Bool := !x2 || (rDecode c.1 (qAt x1 0)).1 == 40
  let x4 : List TY := [] ++ [(12, pcOf c, 0, 6)] ++ [(5, IntKind.u16.wrap ((spOf c) - 1), IntKind.u8.wrap (shrI IntKind.u16 (pcOf c) 8), 3)] ++ [(5, IntKind.u16.wrap ((spOf c) - 2), IntKind.u8.wrap (pcOf c), 3)]
  let x6 : Int × Int × Int := ((pcOf c), 0, 4)
  let x7 : List TY := [] ++ [(bif s == 5 then 8 else 1, x6)]
  let x9 : List TY := [(11, pcOf c, 0, 3)]
  let x10 : List TY := [] ++ [(1, x6)] ++ x9 ++ x9
  .br (!x3 || x2)
  (.br (x3)
   (.br (pInternal s)
    (fin3 g x4)
    (.br (iN (List.length g) == 0)
     (fin3 g x7)
     (fin3 g x10)))
   (.leaf none))
  (.leaf none)

noncomputable def pNext_40 (c : TC) (s : Int) (g : List Int) : TY × Bool := getO pNextRs.dflt (pNext_40T c s g).val

noncomputable def pNext_40C (c : TC) (s : Int) (g : List Int) : Bool := okB (pNext_40T c s g).val

theorem pNext_40_ev (a : HL pNextTs) : evVal (envX Tryz.prog (pNextL 40) [] 1125900980585471 8) Tryz.f120 pNextTs pNextRs a = pNext_40T a.1 a.2.1 a.2.2 := by kernel_rfl

noncomputable def pNext_44T (c : TC) (s : Int) (g : List Int) : RT (Option (TY × Bool)) :=
  let x1 : TC × Bool × List Int × TI × List TY := (c, s == 5, g, (0, 0, 0, 0, 0, 0, 0, 0), [])
  let x2 : Bool := qAtC x1 0
  let x3 : Bool := !x2 || (rDecode c.1 (qAt x1 0)).1 == 44
  let x4 : List TY := [] ++ [(12, pcOf c, 0, 6)] ++ [(5, IntKind.u16.wrap ((spOf c) - 1), IntKind.u8.wrap (shrI IntKind.u16 (pcOf c) 8), 3)] ++ [(5, IntKind.u16.wrap ((spOf c) - 2), IntKind.u8.wrap (pcOf c), 3)]
  let x6 : Int × Int × Int := ((pcOf c), 0, 4)
  let x7 : List TY := [] ++ [(bif s == 5 then 8 else 1, x6)]
  let x9 : List TY := [] ++ [(1, x6)]
  let x10 : Int × Int × Int := ((pcOf c), 0, 3)
  let x11 : List TY := (bif s == 5 then x9 ++ [(9, x10)] else x9 ++ [(2, IntKind.u16.wrap ((pcOf c) + IntKind.u16.wrap 1), 0, 3)]) ++ [(11, x10)]
  .br (!x3 || x2)
  (.br (x3)
   (.br (pInternal s)
    (fin3 g x4)
    (.br (iN (List.length g) == 0)
     (fin3 g x7)
     (fin3 g x11)))
   (.leaf none))
  (.leaf none)

noncomputable def pNext_44 (c : TC) (s : Int) (g : List Int) : TY × Bool := getO pNextRs.dflt (pNext_44T c s g).val

noncomputable def pNext_44C (c : TC) (s : Int) (g : List Int) : Bool := okB (pNext_44T c s g).val

theorem pNext_44_ev (a : HL pNextTs) : evVal (envX Tryz.prog (pNextL 44) [] 1125900980585471 8) Tryz.f120 pNextTs pNextRs a = pNext_44T a.1 a.2.1 a.2.2 := by kernel_rfl

noncomputable def rNext_1T (c : TC) (s : Int) (g : List Int) : RT (Option (TY × Bool)) :=
  let x1 : List TY := [(12, pcOf c, 0, 6)] ++ [(5, IntKind.u16.wrap ((spOf c) - 1), IntKind.u8.wrap (shrI IntKind.u16 (pcOf c) 8), 3)] ++ [(5, IntKind.u16.wrap ((spOf c) - 2), IntKind.u8.wrap (pcOf c), 3)]
  let x3 : List TY := [(bif s == 5 then 8 else 1, pcOf c, 0, 4)]
  .br (rInternal s || (!decide (iN (List.length g) > 0) || (!inRng 0 (List.length g) || (rDecode c.1 (R.get (R.int IntKind.u8) g 0)).1 == 1)))
  (.br (rInternal s || (!decide (iN (List.length g) > 0) || inRng 0 (List.length g)))
   (.br (rInternal s)
    (fin3 g x1)
    (fin3 g x3))
   (.leaf none))
  (.leaf none)

noncomputable def rNext_1 (c : TC) (s : Int) (g : List Int) : TY × Bool := getO rNextRs.dflt (rNext_1T c s g).val

noncomputable def rNext_1C (c : TC) (s : Int) (g : List Int) : Bool := okB (rNext_1T c s g).val

theorem rNext_1_ev (a : HL rNextTs) : evVal (envX Tryz.prog (rNextL 1) [] 2047 8) Tryz.f20 rNextTs rNextRs a = rNext_1T a.1 a.2.1 a.2.2 := by kernel_rfl

noncomputable def rNext_5T (c : TC) (s : Int) (g : List Int) : RT (Option (TY × Bool)) :=
  let x1 : List TY := [(bif s == 5 then 8 else 1, pcOf c, 0, 4)]
  let x2 : List TY := [(9, pcOf c, 0, 3)]
  let x3 : List TY := x1 ++ x2
  let x4 : List TY := [(2, IntKind.u16.wrap ((pcOf c) + IntKind.u16.wrap (IntKind.i64.wrap (1 + 1))), 0, 3)]
  let x5 : List TY := bif s == 5 then x3 ++ x2 else x3 ++ x4
  let x6 : TC × Bool × List Int × List TY := (c, s == 5, g, x5)
  let x7 : Bool := !s == 5 || mWordC x6 1
  let x8 : List TY := x1 ++ [(2, IntKind.u16.wrap ((pcOf c) + IntKind.u16.wrap 1), 0, 3)]
  let x9 : List TY := bif s == 5 then x8 ++ x2 else x8 ++ x4
  let x10 : TC × Bool × List Int × List TY := (c, s == 5, g, x9)
  let x11 : List TY := [(12, pcOf c, 0, 6)] ++ [(5, IntKind.u16.wrap ((spOf c) - 1), IntKind.u8.wrap (shrI IntKind.u16 (pcOf c) 8), 3)] ++ [(5, IntKind.u16.wrap ((spOf c) - 2), IntKind.u8.wrap (pcOf c), 3)]
  let x13 : List TY := x5 ++ [(2, mWord x6 1, 0, 3)]
  let x15 : List TY := x9 ++ [(2, mWord x10 1, 0, 3)]
  .br (rInternal s || (!decide (iN (List.length g) > 0) || (!inRng 0 (List.length g) || (!(rDecode c.1 (R.get (R.int IntKind.u8) g 0)).1 == 5 || (!x7 || (s == 5 || mWordC x10 1))))))
  (.br (rInternal s || (!decide (iN (List.length g) > 0) || (!inRng 0 (List.length g) || (!(rDecode c.1 (R.get (R.int IntKind.u8) g 0)).1 == 5 || x7))))
   (.br (rInternal s || (!decide (iN (List.length g) > 0) || (!inRng 0 (List.length g) || (rDecode c.1 (R.get (R.int IntKind.u8) g 0)).1 == 5)))
    (.br (rInternal s || (!decide (iN (List.length g) > 0) || inRng 0 (List.length g)))
     (.br (rInternal s)
      (fin3 g x11)
      (.br (decide (iN (List.length g) > 0))
       (.br (s == 5)
        (fin3 g x13)
        (fin3 g x15))
       (fin3 g x1)))
     (.leaf none))
    (.leaf none))
   (.leaf none))
  (.leaf none)

noncomputable def rNext_5 (c : TC) (s : Int) (g : List Int) : TY × Bool := getO rNextRs.dflt (rNext_5T c s g).val

noncomputable def rNext_5C (c : TC) (s : Int) (g : List Int) : Bool := okB (rNext_5T c s g).val

theorem rNext_5_ev (a : HL rNextTs) : evVal (envX Tryz.prog (rNextL 5) [] 2047 8) Tryz.f20 rNextTs rNextRs a = rNext_5T a.1 a.2.1 a.2.2 := by kernel_rfl

noncomputable def rNext_9T (c : TC) (s : Int) (g : List Int) : RT (Option (TY × Bool)) :=
  let x1 : List TY := [(12, pcOf c, 0, 6)] ++ [(5, IntKind.u16.wrap ((spOf c) - 1), IntKind.u8.wrap (shrI IntKind.u16 (pcOf c) 8), 3)] ++ [(5, IntKind.u16.wrap ((spOf c) - 2), IntKind.u8.wrap (pcOf c), 3)]
  let x3 : List TY := [(bif s == 5 then 8 else 1, pcOf c, 0, 4)]
  let x4 : List TY := x3 ++ [(2, rPair c.2.1 (rDecode c.1 (R.get (R.int IntKind.u8) g 0)).2.2.2.2.1, 0, 3)]
  .br (rInternal s || (!decide (iN (List.length g) > 0) || (!inRng 0 (List.length g) || (rDecode c.1 (R.get (R.int IntKind.u8) g 0)).1 == 9)))
  (.br (rInternal s || (!decide (iN (List.length g) > 0) || inRng 0 (List.length g)))
   (.br (rInternal s)
    (fin3 g x1)
    (.br (decide (iN (List.length g) > 0))
     (fin3 g x4)
     (fin3 g x3)))
   (.leaf none))
  (.leaf none)

noncomputable def rNext_9 (c : TC) (s : Int) (g : List Int) : TY × Bool := getO rNextRs.dflt (rNext_9T c s g).val

noncomputable def rNext_9C (c : TC) (s : Int) (g : List Int) : Bool := okB (rNext_9T c s g).val

theorem rNext_9_ev (a : HL rNextTs) : evVal (envX Tryz.prog (rNextL 9) [] 2047 8) Tryz.f20 rNextTs rNextRs a = rNext_9T a.1 a.2.1 a.2.2 := by kernel_rfl

noncomputable def rNext_13T (c : TC) (s : Int) (g : List Int) : RT (Option (TY × Bool)) :=
  let x1 : List TY := [(12, pcOf c, 0, 6)] ++ [(5, IntKind.u16.wrap ((spOf c) - 1), IntKind.u8.wrap (shrI IntKind.u16 (pcOf c) 8), 3)] ++ [(5, IntKind.u16.wrap ((spOf c) - 2), IntKind.u8.wrap (pcOf c), 3)]
  let x3 : List TY := [(bif s == 5 then 8 else 1, pcOf c, 0, 4)]
  let x4 : List TY := x3 ++ [(9, pcOf c, 0, 3)]
  let x6 : List TY := x3 ++ [(2, IntKind.u16.wrap ((pcOf c) + IntKind.u16.wrap 1), 0, 3)]
  .br (rInternal s || (!decide (iN (List.length g) > 0) || (!inRng 0 (List.length g) || (rDecode c.1 (R.get (R.int IntKind.u8) g 0)).1 == 13)))
  (.br (rInternal s || (!decide (iN (List.length g) > 0) || inRng 0 (List.length g)))
   (.br (rInternal s)
    (fin3 g x1)
    (.br (decide (iN (List.length g) > 0))
     (.br (s == 5)
      (fin3 g x4)
      (fin3 g x6))
     (fin3 g x3)))
   (.leaf none))
  (.leaf none)

noncomputable def rNext_13 (c : TC) (s : Int) (g : List Int) : TY × Bool := getO rNextRs.dflt (rNext_13T c s g).val

noncomputable def rNext_13C (c : TC) (s : Int) (g : List Int) : Bool := okB (rNext_13T c s g).val

theorem rNext_13_ev (a : HL rNextTs) : evVal (envX Tryz.prog (rNextL 13) [] 2047 8) Tryz.f20 rNextTs rNextRs a = rNext_13T a.1 a.2.1 a.2.2 := by kernel_rfl

noncomputable def rNext_17T (c : TC) (s : Int) (g : List Int) : RT (Option (TY × Bool)) :=
  let x1 : List TY := [(12, pcOf c, 0, 6)] ++ [(5, IntKind.u16.wrap ((spOf c) - 1), IntKind.u8.wrap (shrI IntKind.u16 (pcOf c) 8), 3)] ++ [(5, IntKind.u16.wrap ((spOf c) - 2), IntKind.u8.wrap (pcOf c), 3)]
  let x3 : List TY := [(bif s == 5 then 8 else 1, pcOf c, 0, 4)]
  .br (rInternal s || (!decide (iN (List.length g) > 0) || (!inRng 0 (List.length g) || (rDecode c.1 (R.get (R.int IntKind.u8) g 0)).1 == 17)))
  (.br (rInternal s || (!decide (iN (List.length g) > 0) || inRng 0 (List.length g)))
   (.br (rInternal s)
    (fin3 g x1)
    (fin3 g x3))
   (.leaf none))
  (.leaf none)

noncomputable def rNext_17 (c : TC) (s : Int) (g : List Int) : TY × Bool := getO rNextRs.dflt (rNext_17T c s g).val

noncomputable def rNext_17C (c : TC) (s : Int) (g : List Int) : Bool := okB (rNext_17T c s g).val

theorem rNext_17_ev (a : HL rNextTs) : evVal (envX Tryz.prog (rNextL 17) [] 2047 8) Tryz.f20 rNextTs rNextRs a = rNext_17T a.1 a.2.1 a.2.2 := by kernel_rfl

noncomputable def rNext_21T (c : TC) (s : Int) (g : List Int) : RT (Option (TY × Bool)) :=
  let x1 : List TY := [(12, pcOf c, 0, 6)] ++ [(5, IntKind.u16.wrap ((spOf c) - 1), IntKind.u8.wrap (shrI IntKind.u16 (pcOf c) 8), 3)] ++ [(5, IntKind.u16.wrap ((spOf c) - 2), IntKind.u8.wrap (pcOf c), 3)]
  let x3 : List TY := [(bif s == 5 then 8 else 1, pcOf c, 0, 4)]
  .br (rInternal s || (!decide (iN (List.length g) > 0) || (!inRng 0 (List.length g) || (rDecode c.1 (R.get (R.int IntKind.u8) g 0)).1 == 21)))
  (.br (rInternal s || (!decide (iN (List.length g) > 0) || inRng 0 (List.length g)))
   (.br (rInternal s)
    (fin3 g x1)
    (fin3 g x3))
   (.leaf none))
  (.leaf none)

noncomputable def rNext_21 (c : TC) (s : Int) (g : List Int) : TY × Bool := getO rNextRs.dflt (rNext_21T c s g).val

noncomputable def rNext_21C (c : TC) (s : Int) (g : List Int) : Bool := okB (rNext_21T c s g).val

theorem rNext_21_ev (a : HL rNextTs) : evVal (envX Tryz.prog (rNextL 21) [] 2047 8) Tryz.f20 rNextTs rNextRs a = rNext_21T a.1 a.2.1 a.2.2 := by kernel_rfl

noncomputable def rNext_25T (c : TC) (s : Int) (g : List Int) : RT (Option (TY × Bool)) :=
  let x1 : Int := IntKind.u16.wrap ((spOf c) - 1)
  let x2 : Int := IntKind.u16.wrap ((spOf c) - 2)
  let x3 : List TY := [(12, pcOf c, 0, 6)] ++ [(5, x1, IntKind.u8.wrap (shrI IntKind.u16 (pcOf c) 8), 3)] ++ [(5, x2, IntKind.u8.wrap (pcOf c), 3)]
  let x5 : List TY := [(bif s == 5 then 8 else 1, pcOf c, 0, 4)]
  let x6 : List TY := [(9, pcOf c, 0, 3)]
  let x7 : List TY := x5 ++ x6
  let x8 : TC × Bool × List Int × List TY := (c, s == 5, g, x7)
  let x9 : Int := mBehind x8 (rDecode c.1 (R.get (R.int IntKind.u8) g 0)).2.1
  let x10 : List TY := bif mTaken x8 (25, (rDecode c.1 (R.get (R.int IntKind.u8) g 0)).2) then x7 ++ [(5, x1, IntKind.u8.wrap (shrI IntKind.u16 x9 8), 3)] ++ [(5, x2, IntKind.u8.wrap x9, 3)] else x7
  let x12 : List TY := x5 ++ [(2, IntKind.u16.wrap ((pcOf c) + IntKind.u16.wrap 1), 0, 3)]
  let x13 : TC × Bool × List Int × List TY := (c, s == 5, g, x12)
  let x14 : Int := mBehind x13 (rDecode c.1 (R.get (R.int IntKind.u8) g 0)).2.1
  let x15 : List TY := bif mTaken x13 (25, (rDecode c.1 (R.get (R.int IntKind.u8) g 0)).2) then x12 ++ [(5, x1, IntKind.u8.wrap (shrI IntKind.u16 x14 8), 3)] ++ [(5, x2, IntKind.u8.wrap x14, 3)] else x12
  let x17 : List TY := [(2, IntKind.u16.wrap ((pcOf c) + IntKind.u16.wrap (IntKind.i64.wrap (1 + 1))), 0, 3)]
  let x18 : List TY := bif s == 5 then x7 ++ x6 else x7 ++ x17
  let x19 : TC × Bool × List Int × List TY := (c, s == 5, g, x18)
  let x20 : Int := mBehind x19 (rDecode c.1 (R.get (R.int IntKind.u8) g 0)).2.1
  let x21 : List TY := bif mTaken x19 (25, (rDecode c.1 (R.get (R.int IntKind.u8) g 0)).2) then x18 ++ [(5, x1, IntKind.u8.wrap (shrI IntKind.u16 x20 8), 3)] ++ [(5, x2, IntKind.u8.wrap x20, 3)] else x18
  let x23 : List TY := bif s == 5 then x12 ++ x6 else x12 ++ x17
  let x24 : TC × Bool × List Int × List TY := (c, s == 5, g, x23)
  let x25 : Int := mBehind x24 (rDecode c.1 (R.get (R.int IntKind.u8) g 0)).2.1
  let x26 : List TY := bif mTaken x24 (25, (rDecode c.1 (R.get (R.int IntKind.u8) g 0)).2) then x23 ++ [(5, x1, IntKind.u8.wrap (shrI IntKind.u16 x25 8), 3)] ++ [(5, x2, IntKind.u8.wrap x25, 3)] else x23
  .br (rInternal s || (!decide (iN (List.length g) > 0) || (!inRng 0 (List.length g) || (rDecode c.1 (R.get (R.int IntKind.u8) g 0)).1 == 25)))
  (.br (rInternal s || (!decide (iN (List.length g) > 0) || inRng 0 (List.length g)))
   (.br (rInternal s)
    (fin3 g x3)
    (.br (decide (iN (List.length g) > 0))
     (.br (rOn c.1 && !mTaken (c, s == 5, g, x5) (25, (rDecode c.1 (R.get (R.int IntKind.u8) g 0)).2))
      (.br (s == 5)
       (fin3 g x10)
       (fin3 g x15))
      (.br (s == 5)
       (fin3 g x21)
       (fin3 g x26)))
     (fin3 g x5)))
   (.leaf none))
  (.leaf none)

noncomputable def rNext_25 (c : TC) (s : Int) (g : List Int) : TY × Bool := getO rNextRs.dflt (rNext_25T c s g).val

noncomputable def rNext_25C (c : TC) (s : Int) (g : List Int) : Bool := okB (rNext_25T c s g).val

theorem rNext_25_ev (a : HL rNextTs) : evVal (envX Tryz.prog (rNextL 25) [] 2047 8) Tryz.f20 rNextTs rNextRs a = rNext_25T a.1 a.2.1 a.2.2 := by kernel_rfl

noncomputable def rNext_29T (c : TC) (s : Int) (g : List Int) : RT (Option (TY × Bool)) :=
  let x1 : List TY := [(12, pcOf c, 0, 6)] ++ [(5, IntKind.u16.wrap ((spOf c) - 1), IntKind.u8.wrap (shrI IntKind.u16 (pcOf c) 8), 3)] ++ [(5, IntKind.u16.wrap ((spOf c) - 2), IntKind.u8.wrap (pcOf c), 3)]
  let x3 : List TY := [(bif s == 5 then 8 else 1, pcOf c, 0, 4)]
  .br (rInternal s || (!decide (iN (List.length g) > 0) || (!inRng 0 (List.length g) || (rDecode c.1 (R.get (R.int IntKind.u8) g 0)).1 == 29)))
  (.br (rInternal s || (!decide (iN (List.length g) > 0) || inRng 0 (List.length g)))
   (.br (rInternal s)
    (fin3 g x1)
    (fin3 g x3))
   (.leaf none))
  (.leaf none)

noncomputable def rNext_29 (c : TC) (s : Int) (g : List Int) : TY × Bool := getO rNextRs.dflt (rNext_29T c s g).val

noncomputable def rNext_29C (c : TC) (s : Int) (g : List Int) : Bool := okB (rNext_29T c s g).val

theorem rNext_29_ev (a : HL rNextTs) : evVal (envX Tryz.prog (rNextL 29) [] 2047 8) Tryz.f20 rNextTs rNextRs a = rNext_29T a.1 a.2.1 a.2.2 := by kernel_rfl

noncomputable def rNext_33T (c : TC) (s : Int) (g : List Int) : RT (Option (TY × Bool)) :=
  let x1 : List TY := [(bif s == 5 then 8 else 1, pcOf c, 0, 4)]
  let x2 : List TY := x1 ++ [(9, pcOf c, 0, 3)]
  let x3 : TC × Bool × List Int × List TY := (c, s == 5, g, x2)
  let x4 : Bool := mAtC x3 1
  let x5 : Bool := !x4 || x4
  let x6 : Bool := !s == 5 || (!x5 || x4)
  let x7 : Bool := !x6
  let x8 : Bool := !s == 5 || x5
  let x9 : Bool := !x8
  let x10 : List TY := x1 ++ [(2, IntKind.u16.wrap ((pcOf c) + IntKind.u16.wrap 1), 0, 3)]
  let x11 : TC × Bool × List Int × List TY := (c, s == 5, g, x10)
  let x12 : Bool := mAtC x11 1
  let x13 : Bool := !x12 || x12
  let x14 : Bool := s == 5 || (!x13 || x12)
  let x15 : List TY := [(12, pcOf c, 0, 6)] ++ [(5, IntKind.u16.wrap ((spOf c) - 1), IntKind.u8.wrap (shrI IntKind.u16 (pcOf c) 8), 3)] ++ [(5, IntKind.u16.wrap ((spOf c) - 2), IntKind.u8.wrap (pcOf c), 3)]
  let x17 : Int := mAt x3 1
  let x18 : List TY := x2 ++ [(6, rJoin x17 x17, 0, 3)]
  let x20 : Int := mAt x11 1
  let x21 : List TY := x10 ++ [(6, rJoin x20 x20, 0, 3)]
  .br (rInternal s || (!decide (iN (List.length g) > 0) || (!inRng 0 (List.length g) || (!(rDecode c.1 (R.get (R.int IntKind.u8) g 0)).1 == 33 || (x7 || (x9 || (!x14 || (s == 5 || x13))))))))
  (.br (rInternal s || (!decide (iN (List.length g) > 0) || (!inRng 0 (List.length g) || (!(rDecode c.1 (R.get (R.int IntKind.u8) g 0)).1 == 33 || (x7 || (x9 || x14))))))
   (.br (rInternal s || (!decide (iN (List.length g) > 0) || (!inRng 0 (List.length g) || (!(rDecode c.1 (R.get (R.int IntKind.u8) g 0)).1 == 33 || (x7 || x8)))))
    (.br (rInternal s || (!decide (iN (List.length g) > 0) || (!inRng 0 (List.length g) || (!(rDecode c.1 (R.get (R.int IntKind.u8) g 0)).1 == 33 || x6))))
     (.br (rInternal s || (!decide (iN (List.length g) > 0) || (!inRng 0 (List.length g) || (rDecode c.1 (R.get (R.int IntKind.u8) g 0)).1 == 33)))
      (.br (rInternal s || (!decide (iN (List.length g) > 0) || inRng 0 (List.length g)))
       (.br (rInternal s)
        (fin3 g x15)
        (.br (decide (iN (List.length g) > 0))
         (.br (s == 5)
          (fin3 g x18)
          (fin3 g x21))
         (fin3 g x1)))
       (.leaf none))
      (.leaf none))
     (.leaf none))
    (.leaf none))
   (.leaf none))
  (.leaf none)

noncomputable def rNext_33 (c : TC) (s : Int) (g : List Int) : TY × Bool := getO rNextRs.dflt (rNext_33T c s g).val

noncomputable def rNext_33C (c : TC) (s : Int) (g : List Int) : Bool := okB (rNext_33T c s g).val

theorem rNext_33_ev (a : HL rNextTs) : evVal (envX Tryz.prog (rNextL 33) [] 2047 8) Tryz.f20 rNextTs rNextRs a = rNext_33T a.1 a.2.1 a.2.2 := by kernel_rfl

noncomputable def rNext_37T (c : TC) (s : Int) (g : List Int) : RT (Option (TY × Bool)) :=
  let x1 : List TY := [(12, pcOf c, 0, 6)] ++ [(5, IntKind.u16.wrap ((spOf c) - 1), IntKind.u8.wrap (shrI IntKind.u16 (pcOf c) 8), 3)] ++ [(5, IntKind.u16.wrap ((spOf c) - 2), IntKind.u8.wrap (pcOf c), 3)]
  let x3 : List TY := [(bif s == 5 then 8 else 1, pcOf c, 0, 4)]
  let x4 : List TY := x3 ++ [(10, pcOf c, 0, 3)]
  let x6 : Nat := List.length x3
  let x7 : Bool := decide (iN (List.length g) ≥ iN x6)
  let x8 : Bool := inRng (iN (List.length g)) x6
  let x9 : TY × Bool := (R.get (RY) x3 (iN (List.length g)), true)
  .br (rInternal s || (!decide (iN (List.length g) > 0) || (!inRng 0 (List.length g) || (rDecode c.1 (R.get (R.int IntKind.u8) g 0)).1 == 37)))
  (.br (rInternal s || (!decide (iN (List.length g) > 0) || inRng 0 (List.length g)))
   (.br (rInternal s)
    (fin3 g x1)
    (.br (decide (iN (List.length g) > 0))
     (.br (!rOn c.1)
      (fin3 g x4)
      (.br (x7)
       (.leaf (some (((0, 0, 0, 0), false))))
       (.br (x8)
        (.leaf (some (x9)))
        (.leaf none))))
     (.br (x7)
      (.leaf (some (((0, 0, 0, 0), false))))
      (.br (x8)
       (.leaf (some (x9)))
       (.leaf none)))))
   (.leaf none))
  (.leaf none)

noncomputable def rNext_37 (c : TC) (s : Int) (g : List Int) : TY × Bool := getO rNextRs.dflt (rNext_37T c s g).val

noncomputable def rNext_37C (c : TC) (s : Int) (g : List Int) : Bool := okB (rNext_37T c s g).val

theorem rNext_37_ev (a : HL rNextTs) : evVal (envX Tryz.prog (rNextL 37) [] 2047 8) Tryz.f20 rNextTs rNextRs a = rNext_37T a.1 a.2.1 a.2.2 := by kernel_rfl

noncomputable def rNext_41T (c : TC) (s : Int) (g : List Int) : RT (Option (TY × Bool)) :=
  let x1 : List TY := [(12, pcOf c, 0, 6)] ++ [(5, IntKind.u16.wrap ((spOf c) - 1), IntKind.u8.wrap (shrI IntKind.u16 (pcOf c) 8), 3)] ++ [(5, IntKind.u16.wrap ((spOf c) - 2), IntKind.u8.wrap (pcOf c), 3)]
  let x3 : List TY := [(bif s == 5 then 8 else 1, pcOf c, 0, 4)]
  let x4 : List TY := x3 ++ [(11, pcOf c, 0, 3)]
  .br (rInternal s || (!decide (iN (List.length g) > 0) || (!inRng 0 (List.length g) || (rDecode c.1 (R.get (R.int IntKind.u8) g 0)).1 == 41)))
  (.br (rInternal s || (!decide (iN (List.length g) > 0) || inRng 0 (List.length g)))
   (.br (rInternal s)
    (fin3 g x1)
    (.br (decide (iN (List.length g) > 0))
     (fin3 g x4)
     (fin3 g x3)))
   (.leaf none))
  (.leaf none)

noncomputable def rNext_41 (c : TC) (s : Int) (g : List Int) : TY × Bool := getO rNextRs.dflt (rNext_41T c s g).val

noncomputable def rNext_41C (c : TC) (s : Int) (g : List Int) : Bool := okB (rNext_41T c s g).val

theorem rNext_41_ev (a : HL rNextTs) : evVal (envX Tryz.prog (rNextL 41) [] 2047 8) Tryz.f20 rNextTs rNextRs a = rNext_41T a.1 a.2.1 a.2.2 := by kernel_rfl

noncomputable def rNext_45T (c : TC) (s : Int) (g : List Int) : RT (Option (TY × Bool)) :=
  let x1 : Int := IntKind.u16.wrap ((spOf c) - 1)
  let x2 : Int := IntKind.u16.wrap ((spOf c) - 2)
  let x3 : List TY := [(12, pcOf c, 0, 6)] ++ [(5, x1, IntKind.u8.wrap (shrI IntKind.u16 (pcOf c) 8), 3)] ++ [(5, x2, IntKind.u8.wrap (pcOf c), 3)]
  let x5 : List TY := [(bif s == 5 then 8 else 1, pcOf c, 0, 4)]
  let x6 : TC × Bool × List Int × List TY := (c, s == 5, g, x5)
  let x7 : Int := mBehind x6 (rDecode c.1 (R.get (R.int IntKind.u8) g 0)).2.1
  let x8 : List TY := x5 ++ [(5, x1, IntKind.u8.wrap (shrI IntKind.u16 x7 8), 3)] ++ [(5, x2, IntKind.u8.wrap x7, 3)]
  let x10 : Nat := List.length x5
  let x11 : Bool := decide (iN (List.length g) ≥ iN x10)
  let x12 : Bool := inRng (iN (List.length g)) x10
  let x13 : TY × Bool := (R.get (RY) x5 (iN (List.length g)), true)
  .br (rInternal s || (!decide (iN (List.length g) > 0) || (!inRng 0 (List.length g) || (rDecode c.1 (R.get (R.int IntKind.u8) g 0)).1 == 45)))
  (.br (rInternal s || (!decide (iN (List.length g) > 0) || inRng 0 (List.length g)))
   (.br (rInternal s)
    (fin3 g x3)
    (.br (decide (iN (List.length g) > 0))
     (.br (mTaken x6 (45, (rDecode c.1 (R.get (R.int IntKind.u8) g 0)).2))
      (fin3 g x8)
      (.br (x11)
       (.leaf (some (((0, 0, 0, 0), false))))
       (.br (x12)
        (.leaf (some (x13)))
        (.leaf none))))
     (.br (x11)
      (.leaf (some (((0, 0, 0, 0), false))))
      (.br (x12)
       (.leaf (some (x13)))
       (.leaf none)))))
   (.leaf none))
  (.leaf none)

noncomputable def rNext_45 (c : TC) (s : Int) (g : List Int) : TY × Bool := getO rNextRs.dflt (rNext_45T c s g).val

noncomputable def rNext_45C (c : TC) (s : Int) (g : List Int) : Bool := okB (rNext_45T c s g).val

theorem rNext_45_ev (a : HL rNextTs) : evVal (envX Tryz.prog (rNextL 45) [] 2047 8) Tryz.f20 rNextTs rNextRs a = rNext_45T a.1 a.2.1 a.2.2 := by kernel_rfl
end
end Go.Proofs.YteboknglfjadoaaGreat
