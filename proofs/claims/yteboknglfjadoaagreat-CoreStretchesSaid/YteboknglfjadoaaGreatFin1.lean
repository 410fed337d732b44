/-
  Contracts of functions; each found by the symbolic executor and checked by the kernel. Conditions: none.
-/
import Derived.Test.YteboknglfjadoaaGreatS3D
import Derived.Test.YteboknglfjadoaaGreatProg
import Derived.Test.YteboknglfjadoaaGreatFin0
set_option linter.unusedSimpArgs false
open Go Go.S3 Go.Proofs
set_option linter.unusedVariables false
set_option maxRecDepth 100000
namespace Go.Proofs.YteboknglfjadoaaGreat
noncomputable section
noncomputable def pFin_1T (c : TC) (s : Int) (g : List Int) (ln : Bool × Bool × Bool × Bool × Bool × Bool × Bool × Bool × Bool) : RT (Option TC) :=
  let x1 : TC × Bool × List Int × TI × List TY := (c, s == 5, g, (0, 0, 0, 0, 0, 0, 0, 0), [])
  let x2 : Bool := qAtC x1 0
  let x3 : Int × Int × Int × Int × Int × Int × Int × Int := rDecode c.1 (qAt x1 0)
  let x4 : Bool := !x2 || x3.1 == 1
  .br (pInternal s)
  (.leaf (some ((c.1, (rgx c.2.1 c.2.1.2.2.2.2.2.2.2.1 (IntKind.u16.wrap ((spOf c) - 2)) (rVector s)), c.2.2))))
  (.br (!x4 || x2)
   (.br (x4)
    (.leaf (some ((c.1, (rgx c.2.1 c.2.1.2.2.2.2.2.2.2.1 (spOf c) (qBehind (c, s == 5, g, (1, x3.2), []))), c.2.2.1, false, false, c.2.2.2.2.2))))
    (.leaf none))
   (.leaf none))

noncomputable def pFin_1 (c : TC) (s : Int) (g : List Int) (ln : Bool × Bool × Bool × Bool × Bool × Bool × Bool × Bool × Bool) : TC := getO pFinRs.dflt (pFin_1T c s g ln).val

noncomputable def pFin_1C (c : TC) (s : Int) (g : List Int) (ln : Bool × Bool × Bool × Bool × Bool × Bool × Bool × Bool × Bool) : Bool := okB (pFin_1T c s g ln).val

theorem pFin_1_ev (a : HL pFinTs) : evVal (envX Tryz.prog (pFinL 1) [] 1023 8) Tryz.f165 pFinTs pFinRs a = pFin_1T a.1 a.2.1 a.2.2.1 a.2.2.2 := by kernel_rfl

noncomputable def pFin_5T (c : TC) (s : Int) (g : List Int) (ln : Bool × Bool × Bool × Bool × Bool × Bool × Bool × Bool × Bool) : RT (Option TC) :=
  let x1 : TC × Bool × List Int × TI × List TY := (c, s == 5, g, (0, 0, 0, 0, 0, 0, 0, 0), [])
  let x2 : Bool := qAtC x1 0
  let x3 : Int × Int × Int × Int × Int × Int × Int × Int := rDecode c.1 (qAt x1 0)
  let x4 : Bool := !x2 || x3.1 == 5
  let x5 : TC × Bool × List Int × TI × List TY := (c, s == 5, g, (5, x3.2), [])
  .br (pInternal s)
  (.leaf (some ((c.1, (rgx c.2.1 c.2.1.2.2.2.2.2.2.2.1 (IntKind.u16.wrap ((spOf c) - 2)) (rVector s)), c.2.2))))
  (.br (!x4 || x2)
   (.br (x4)
    (.br (qAtC x5 3)
     (.leaf (some ((c.1, (qAt x5 3, c.2.1.2.1, c.2.1.2.2.1, c.2.1.2.2.2.1, c.2.1.2.2.2.2.1, c.2.1.2.2.2.2.2.1, c.2.1.2.2.2.2.2.2.1, c.2.1.2.2.2.2.2.2.2.1, spOf c, qBehind x5), c.2.2.1, false, false, c.2.2.2.2.2))))
     (.leaf none))
    (.leaf none))
   (.leaf none))

noncomputable def pFin_5 (c : TC) (s : Int) (g : List Int) (ln : Bool × Bool × Bool × Bool × Bool × Bool × Bool × Bool × Bool) : TC := getO pFinRs.dflt (pFin_5T c s g ln).val

noncomputable def pFin_5C (c : TC) (s : Int) (g : List Int) (ln : Bool × Bool × Bool × Bool × Bool × Bool × Bool × Bool × Bool) : Bool := okB (pFin_5T c s g ln).val

theorem pFin_5_ev (a : HL pFinTs) : evVal (envX Tryz.prog (pFinL 5) [] 1023 8) Tryz.f165 pFinTs pFinRs a = pFin_5T a.1 a.2.1 a.2.2.1 a.2.2.2 := by kernel_rfl

noncomputable def pFin_9T (c : TC) (s : Int) (g : List Int) (ln : Bool × Bool × Bool × Bool × Bool × Bool × Bool × Bool × Bool) : RT (Option TC) :=
  let x1 : TC × Bool × List Int × TI × List TY := (c, s == 5, g, (0, 0, 0, 0, 0, 0, 0, 0), [])
  let x2 : Bool := qAtC x1 0
  let x3 : Int × Int × Int × Int × Int × Int × Int × Int := rDecode c.1 (qAt x1 0)
  let x4 : Bool := !x2 || x3.1 == 9
  let x5 : TC × Bool × List Int × TI × List TY := (c, s == 5, g, (9, x3.2), [])
  .br (pInternal s)
  (.leaf (some ((c.1, (rgx c.2.1 c.2.1.2.2.2.2.2.2.2.1 (IntKind.u16.wrap ((spOf c) - 2)) (rVector s)), c.2.2))))
  (.br (!x4 || x2)
   (.br (x4)
    (.br (qAtC x5 1)
     (.leaf (some ((c.1, (qAt x5 1, c.2.1.2.1, c.2.1.2.2.1, c.2.1.2.2.2.1, c.2.1.2.2.2.2.1, c.2.1.2.2.2.2.2.1, c.2.1.2.2.2.2.2.2.1, c.2.1.2.2.2.2.2.2.2.1, spOf c, qBehind x5), c.2.2.1, false, false, c.2.2.2.2.2))))
     (.leaf none))
    (.leaf none))
   (.leaf none))

noncomputable def pFin_9 (c : TC) (s : Int) (g : List Int) (ln : Bool × Bool × Bool × Bool × Bool × Bool × Bool × Bool × Bool) : TC := getO pFinRs.dflt (pFin_9T c s g ln).val

noncomputable def pFin_9C (c : TC) (s : Int) (g : List Int) (ln : Bool × Bool × Bool × Bool × Bool × Bool × Bool × Bool × Bool) : Bool := okB (pFin_9T c s g ln).val

theorem pFin_9_ev (a : HL pFinTs) : evVal (envX Tryz.prog (pFinL 9) [] 1023 8) Tryz.f165 pFinTs pFinRs a = pFin_9T a.1 a.2.1 a.2.2.1 a.2.2.2 := by kernel_rfl

noncomputable def pFin_13T (c : TC) (s : Int) (g : List Int) (ln : Bool × Bool × Bool × Bool × Bool × Bool × Bool × Bool × Bool) : RT (Option TC) :=
  let x1 : TC × Bool × List Int × TI × List TY := (c, s == 5, g, (0, 0, 0, 0, 0, 0, 0, 0), [])
  let x2 : Bool := qAtC x1 0
  let x3 : Int × Int × Int × Int × Int × Int × Int × Int := rDecode c.1 (qAt x1 0)
  let x4 : Bool := !x2 || x3.1 == 13
  let x5 : Int × Int × Int × Int × Int × Int × Int := x3.2
  let x6 : TC × Bool × List Int × TI × List TY := (c, s == 5, g, (13, x5), [])
  let x7 : Int × Bool × Bool × Bool × Bool × Bool × Bool × Bool := rDo c.1 x5.2.2.2.2.1 c.2.1.1 (qOperand x6) c.2.1.2.2.2.2.2.2.2.1
  .br (pInternal s)
  (.leaf (some ((c.1, (rgx c.2.1 c.2.1.2.2.2.2.2.2.2.1 (IntKind.u16.wrap ((spOf c) - 2)) (rVector s)), c.2.2))))
  (.br (!x4 || x2)
   (.br (x4)
    (.br (qOperandC x6)
     (.leaf (some ((c.1, (x7.1, c.2.1.2.1, c.2.1.2.2.1, c.2.1.2.2.2.1, c.2.1.2.2.2.2.1, c.2.1.2.2.2.2.2.1, c.2.1.2.2.2.2.2.2.1, x7.2, spOf c, qBehind x6), c.2.2.1, false, false, c.2.2.2.2.2))))
     (.leaf none))
    (.leaf none))
   (.leaf none))

noncomputable def pFin_13 (c : TC) (s : Int) (g : List Int) (ln : Bool × Bool × Bool × Bool × Bool × Bool × Bool × Bool × Bool) : TC := getO pFinRs.dflt (pFin_13T c s g ln).val

noncomputable def pFin_13C (c : TC) (s : Int) (g : List Int) (ln : Bool × Bool × Bool × Bool × Bool × Bool × Bool × Bool × Bool) : Bool := okB (pFin_13T c s g ln).val

theorem pFin_13_ev (a : HL pFinTs) : evVal (envX Tryz.prog (pFinL 13) [] 1023 8) Tryz.f165 pFinTs pFinRs a = pFin_13T a.1 a.2.1 a.2.2.1 a.2.2.2 := by kernel_rfl

noncomputable def pFin_17T (c : TC) (s : Int) (g : List Int) (ln : Bool × Bool × Bool × Bool × Bool × Bool × Bool × Bool × Bool) : RT (Option TC) :=
  let x1 : TC × Bool × List Int × TI × List TY := (c, s == 5, g, (0, 0, 0, 0, 0, 0, 0, 0), [])
  let x2 : Bool := qAtC x1 0
  let x3 : Int × Int × Int × Int × Int × Int × Int × Int := rDecode c.1 (qAt x1 0)
  let x4 : Bool := !x2 || x3.1 == 17
  let x5 : Int × Int × Int × Int × Int × Int × Int := x3.2
  let x6 : TC × Bool × List Int × TI × List TY := (c, s == 5, g, (17, x5), [])
  let x7 : Int := x5.2.2.2.1
  let x8 : Int × Bool × Bool × Bool × Bool × Bool × Bool × Bool := rDcx c.1 (qPair x6 x7) c.2.1.2.2.2.2.2.2.2.1
  .br (pInternal s)
  (.leaf (some ((c.1, (rgx c.2.1 c.2.1.2.2.2.2.2.2.2.1 (IntKind.u16.wrap ((spOf c) - 2)) (rVector s)), c.2.2))))
  (.br (!x4 || x2)
   (.br (x4)
    (.leaf (some ((c.1, rSetPair (rgx c.2.1 x8.2 (spOf c) (qBehind x6)) x7 x8.1, c.2.2.1, false, false, c.2.2.2.2.2))))
    (.leaf none))
   (.leaf none))

noncomputable def pFin_17 (c : TC) (s : Int) (g : List Int) (ln : Bool × Bool × Bool × Bool × Bool × Bool × Bool × Bool × Bool) : TC := getO pFinRs.dflt (pFin_17T c s g ln).val

noncomputable def pFin_17C (c : TC) (s : Int) (g : List Int) (ln : Bool × Bool × Bool × Bool × Bool × Bool × Bool × Bool × Bool) : Bool := okB (pFin_17T c s g ln).val

theorem pFin_17_ev (a : HL pFinTs) : evVal (envX Tryz.prog (pFinL 17) [] 1023 8) Tryz.f165 pFinTs pFinRs a = pFin_17T a.1 a.2.1 a.2.2.1 a.2.2.2 := by kernel_rfl

noncomputable def pFin_21T (c : TC) (s : Int) (g : List Int) (ln : Bool × Bool × Bool × Bool × Bool × Bool × Bool × Bool × Bool) : RT (Option TC) :=
  let x1 : TC × Bool × List Int × TI × List TY := (c, s == 5, g, (0, 0, 0, 0, 0, 0, 0, 0), [])
  let x2 : Bool := qAtC x1 0
  let x3 : Int × Int × Int × Int × Int × Int × Int × Int := rDecode c.1 (qAt x1 0)
  let x4 : Bool := !x2 || x3.1 == 21
  let x5 : Bool × Bool × Bool × Bool := c.2.1.2.2.2.2.2.2.2.1.2.2.2
  let x6 : Bool × Bool × Bool := x5.2
  .br (pInternal s)
  (.leaf (some ((c.1, (rgx c.2.1 c.2.1.2.2.2.2.2.2.2.1 (IntKind.u16.wrap ((spOf c) - 2)) (rVector s)), c.2.2))))
  (.br (!x4 || x2)
   (.br (x4)
    (.leaf (some ((c.1, (rgx c.2.1 ((c.2.1.2.2.2.2.2.2.2.1.1, c.2.1.2.2.2.2.2.2.2.1.2.1, c.2.1.2.2.2.2.2.2.2.1.2.2.1, x5.1, x6.1, x6.2.1, true)) (spOf c) (qBehind (c, s == 5, g, (21, x3.2), []))), c.2.2.1, false, false, c.2.2.2.2.2))))
    (.leaf none))
   (.leaf none))

noncomputable def pFin_21 (c : TC) (s : Int) (g : List Int) (ln : Bool × Bool × Bool × Bool × Bool × Bool × Bool × Bool × Bool) : TC := getO pFinRs.dflt (pFin_21T c s g ln).val

noncomputable def pFin_21C (c : TC) (s : Int) (g : List Int) (ln : Bool × Bool × Bool × Bool × Bool × Bool × Bool × Bool × Bool) : Bool := okB (pFin_21T c s g ln).val

theorem pFin_21_ev (a : HL pFinTs) : evVal (envX Tryz.prog (pFinL 21) [] 1023 8) Tryz.f165 pFinTs pFinRs a = pFin_21T a.1 a.2.1 a.2.2.1 a.2.2.2 := by kernel_rfl

noncomputable def pFin_25T (c : TC) (s : Int) (g : List Int) (ln : Bool × Bool × Bool × Bool × Bool × Bool × Bool × Bool × Bool) : RT (Option TC) :=
  let x1 : Int := IntKind.u16.wrap ((spOf c) - 2)
  let x2 : TC × Bool × List Int × TI × List TY := (c, s == 5, g, (0, 0, 0, 0, 0, 0, 0, 0), [])
  let x3 : Bool := qAtC x2 0
  let x4 : Int × Int × Int × Int × Int × Int × Int × Int := rDecode c.1 (qAt x2 0)
  let x5 : Bool := !x3 || x4.1 == 25
  let x6 : TC × Bool × List Int × TI × List TY := (c, s == 5, g, (25, x4.2), [])
  let x7 : Bool := qTaken x6
  .br (pInternal s)
  (.leaf (some ((c.1, (rgx c.2.1 c.2.1.2.2.2.2.2.2.2.1 x1 (rVector s)), c.2.2))))
  (.br (!x5 || x3)
   (.br (x5)
    (.br (!x7 || qJoinC x6 1)
     (.leaf (some ((c.1, (rgx c.2.1 c.2.1.2.2.2.2.2.2.2.1 (bif x7 then x1 else (spOf c)) (bif x7 then qJoin x6 1 else qBehind x6)), c.2.2.1, false, false, c.2.2.2.2.2))))
     (.leaf none))
    (.leaf none))
   (.leaf none))

noncomputable def pFin_25 (c : TC) (s : Int) (g : List Int) (ln : Bool × Bool × Bool × Bool × Bool × Bool × Bool × Bool × Bool) : TC := getO pFinRs.dflt (pFin_25T c s g ln).val

noncomputable def pFin_25C (c : TC) (s : Int) (g : List Int) (ln : Bool × Bool × Bool × Bool × Bool × Bool × Bool × Bool × Bool) : Bool := okB (pFin_25T c s g ln).val

theorem pFin_25_ev (a : HL pFinTs) : evVal (envX Tryz.prog (pFinL 25) [] 1023 8) Tryz.f165 pFinTs pFinRs a = pFin_25T a.1 a.2.1 a.2.2.1 a.2.2.2 := by kernel_rfl

noncomputable def pFin_29T (c : TC) (s : Int) (g : List Int) (ln : Bool × Bool × Bool × Bool × Bool × Bool × Bool × Bool × Bool) : RT (Option TC) :=
  let x1 : TC × Bool × List Int × TI × List TY := (c, s == 5, g, (0, 0, 0, 0, 0, 0, 0, 0), [])
  let x2 : Bool := qAtC x1 0
  let x3 : Int × Int × Int × Int × Int × Int × Int × Int := rDecode c.1 (qAt x1 0)
  let x4 : Bool := !x2 || x3.1 == 29
  let x5 : TC × Bool × List Int × TI × List TY := (c, s == 5, g, (29, x3.2), [])
  .br (pInternal s)
  (.leaf (some ((c.1, (rgx c.2.1 c.2.1.2.2.2.2.2.2.2.1 (IntKind.u16.wrap ((spOf c) - 2)) (rVector s)), c.2.2))))
  (.br (!x4 || x2)
   (.br (x4)
    (.leaf (some ((c.1, (rgx c.2.1 c.2.1.2.2.2.2.2.2.2.1 (qPair x5 2) (qBehind x5)), c.2.2.1, false, false, c.2.2.2.2.2))))
    (.leaf none))
   (.leaf none))

noncomputable def pFin_29 (c : TC) (s : Int) (g : List Int) (ln : Bool × Bool × Bool × Bool × Bool × Bool × Bool × Bool × Bool) : TC := getO pFinRs.dflt (pFin_29T c s g ln).val

noncomputable def pFin_29C (c : TC) (s : Int) (g : List Int) (ln : Bool × Bool × Bool × Bool × Bool × Bool × Bool × Bool × Bool) : Bool := okB (pFin_29T c s g ln).val

theorem pFin_29_ev (a : HL pFinTs) : evVal (envX Tryz.prog (pFinL 29) [] 1023 8) Tryz.f165 pFinTs pFinRs a = pFin_29T a.1 a.2.1 a.2.2.1 a.2.2.2 := by kernel_rfl

noncomputable def pFin_33T (c : TC) (s : Int) (g : List Int) (ln : Bool × Bool × Bool × Bool × Bool × Bool × Bool × Bool × Bool) : RT (Option TC) :=
  let x1 : TC × Bool × List Int × TI × List TY := (c, s == 5, g, (0, 0, 0, 0, 0, 0, 0, 0), [])
  let x2 : Bool := qAtC x1 0
  let x3 : Int × Int × Int × Int × Int × Int × Int × Int := rDecode c.1 (qAt x1 0)
  let x4 : Bool := !x2 || x3.1 == 33
  let x5 : TC × Bool × List Int × TI × List TY := (c, s == 5, g, (33, x3.2), [])
  .br (pInternal s)
  (.leaf (some ((c.1, (rgx c.2.1 c.2.1.2.2.2.2.2.2.2.1 (IntKind.u16.wrap ((spOf c) - 2)) (rVector s)), c.2.2))))
  (.br (!x4 || x2)
   (.br (x4)
    (.br (qAtC x5 2)
     (.leaf (some ((c.1, (qAt x5 2, c.2.1.2.1, c.2.1.2.2.1, c.2.1.2.2.2.1, c.2.1.2.2.2.2.1, c.2.1.2.2.2.2.2.1, c.2.1.2.2.2.2.2.2.1, c.2.1.2.2.2.2.2.2.2.1, spOf c, qBehind x5), c.2.2.1, false, false, c.2.2.2.2.2))))
     (.leaf none))
    (.leaf none))
   (.leaf none))

noncomputable def pFin_33 (c : TC) (s : Int) (g : List Int) (ln : Bool × Bool × Bool × Bool × Bool × Bool × Bool × Bool × Bool) : TC := getO pFinRs.dflt (pFin_33T c s g ln).val

noncomputable def pFin_33C (c : TC) (s : Int) (g : List Int) (ln : Bool × Bool × Bool × Bool × Bool × Bool × Bool × Bool × Bool) : Bool := okB (pFin_33T c s g ln).val

theorem pFin_33_ev (a : HL pFinTs) : evVal (envX Tryz.prog (pFinL 33) [] 1023 8) Tryz.f165 pFinTs pFinRs a = pFin_33T a.1 a.2.1 a.2.2.1 a.2.2.2 := by kernel_rfl

noncomputable def pFin_37T (c : TC) (s : Int) (g : List Int) (ln : Bool × Bool × Bool × Bool × Bool × Bool × Bool × Bool × Bool) : RT (Option TC) :=
  let x1 : TC × Bool × List Int × TI × List TY := (c, s == 5, g, (0, 0, 0, 0, 0, 0, 0, 0), [])
  let x2 : Bool := qAtC x1 0
  let x3 : Int × Int × Int × Int × Int × Int × Int × Int := rDecode c.1 (qAt x1 0)
  let x4 : Bool := !x2 || x3.1 == 37
  .br (pInternal s)
  (.leaf (some ((c.1, (rgx c.2.1 c.2.1.2.2.2.2.2.2.2.1 (IntKind.u16.wrap ((spOf c) - 2)) (rVector s)), c.2.2))))
  (.br (!x4 || x2)
   (.br (x4)
    (.leaf (some ((c.1, (rgx c.2.1 c.2.1.2.2.2.2.2.2.2.1 (spOf c) (qBehind (c, s == 5, g, (37, x3.2), []))), c.2.2.1, false, true, c.2.2.2.2.2))))
    (.leaf none))
   (.leaf none))

noncomputable def pFin_37 (c : TC) (s : Int) (g : List Int) (ln : Bool × Bool × Bool × Bool × Bool × Bool × Bool × Bool × Bool) : TC := getO pFinRs.dflt (pFin_37T c s g ln).val

noncomputable def pFin_37C (c : TC) (s : Int) (g : List Int) (ln : Bool × Bool × Bool × Bool × Bool × Bool × Bool × Bool × Bool) : Bool := okB (pFin_37T c s g ln).val

theorem pFin_37_ev (a : HL pFinTs) : evVal (envX Tryz.prog (pFinL 37) [] 1023 8) Tryz.f165 pFinTs pFinRs a = pFin_37T a.1 a.2.1 a.2.2.1 a.2.2.2 := by kernel_rfl

noncomputable def pFin_41T (c : TC) (s : Int) (g : List Int) (ln : Bool × Bool × Bool × Bool × Bool × Bool × Bool × Bool × Bool) : RT (Option TC) :=
  let x1 : TC × Bool × List Int × TI × List TY := (c, s == 5, g, (0, 0, 0, 0, 0, 0, 0, 0), [])
  let x2 : Bool := qAtC x1 0
  let x3 : Int × Int × Int × Int × Int × Int × Int × Int := rDecode c.1 (qAt x1 0)
  let x4 : Bool := !x2 || x3.1 == 41
  let x5 : Bool × Bool × Bool × Bool := c.2.1.2.2.2.2.2.2.2.1.2.2.2
  let x6 : Bool × Bool × Bool := x5.2
  let x7 : TC × Bool × List Int × TI × List TY := (c, s == 5, g, (41, x3.2), [])
  let x8 : Int × Bool := rArhl (qPair x7 2)
  .br (pInternal s)
  (.leaf (some ((c.1, (rgx c.2.1 c.2.1.2.2.2.2.2.2.2.1 (IntKind.u16.wrap ((spOf c) - 2)) (rVector s)), c.2.2))))
  (.br (!x4 || x2)
   (.br (x4)
    (.leaf (some ((c.1, rSetPair (rgx c.2.1 ((c.2.1.2.2.2.2.2.2.2.1.1, c.2.1.2.2.2.2.2.2.2.1.2.1, c.2.1.2.2.2.2.2.2.2.1.2.2.1, x5.1, x6.1, x6.2.1, x8.2)) (spOf c) (qBehind x7)) 2 x8.1, c.2.2.1, false, false, c.2.2.2.2.2))))
    (.leaf none))
   (.leaf none))

noncomputable def pFin_41 (c : TC) (s : Int) (g : List Int) (ln : Bool × Bool × Bool × Bool × Bool × Bool × Bool × Bool × Bool) : TC := getO pFinRs.dflt (pFin_41T c s g ln).val

noncomputable def pFin_41C (c : TC) (s : Int) (g : List Int) (ln : Bool × Bool × Bool × Bool × Bool × Bool × Bool × Bool × Bool) : Bool := okB (pFin_41T c s g ln).val

theorem pFin_41_ev (a : HL pFinTs) : evVal (envX Tryz.prog (pFinL 41) [] 1023 8) Tryz.f165 pFinTs pFinRs a = pFin_41T a.1 a.2.1 a.2.2.1 a.2.2.2 := by kernel_rfl

noncomputable def pFin_45T (c : TC) (s : Int) (g : List Int) (ln : Bool × Bool × Bool × Bool × Bool × Bool × Bool × Bool × Bool) : RT (Option TC) :=
  let x1 : Int := IntKind.u16.wrap ((spOf c) - 2)
  let x2 : TC × Bool × List Int × TI × List TY := (c, s == 5, g, (0, 0, 0, 0, 0, 0, 0, 0), [])
  let x3 : Bool := qAtC x2 0
  let x4 : Int × Int × Int × Int × Int × Int × Int × Int := rDecode c.1 (qAt x2 0)
  let x5 : Bool := !x3 || x4.1 == 45
  let x6 : TC × Bool × List Int × TI × List TY := (c, s == 5, g, (45, x4.2), [])
  let x7 : Bool := qTaken x6
  .br (pInternal s)
  (.leaf (some ((c.1, (rgx c.2.1 c.2.1.2.2.2.2.2.2.2.1 x1 (rVector s)), c.2.2))))
  (.br (!x5 || x3)
   (.br (x5)
    (.leaf (some ((c.1, (rgx c.2.1 c.2.1.2.2.2.2.2.2.2.1 (bif x7 then x1 else (spOf c)) (bif x7 then 64 else qBehind x6)), c.2.2.1, false, false, c.2.2.2.2.2))))
    (.leaf none))
   (.leaf none))

noncomputable def pFin_45 (c : TC) (s : Int) (g : List Int) (ln : Bool × Bool × Bool × Bool × Bool × Bool × Bool × Bool × Bool) : TC := getO pFinRs.dflt (pFin_45T c s g ln).val

noncomputable def pFin_45C (c : TC) (s : Int) (g : List Int) (ln : Bool × Bool × Bool × Bool × Bool × Bool × Bool × Bool × Bool) : Bool := okB (pFin_45T c s g ln).val

theorem pFin_45_ev (a : HL pFinTs) : evVal (envX Tryz.prog (pFinL 45) [] 1023 8) Tryz.f165 pFinTs pFinRs a = pFin_45T a.1 a.2.1 a.2.2.1 a.2.2.2 := by kernel_rfl

noncomputable def rFin_2T (c : TC) (s : Int) (g : List Int) (ln : Bool × Bool × Bool × Bool × Bool × Bool × Bool × Bool × Bool) : RT (Option TC) :=
  let x1 : Int × Int × Int × Int × Int × Int × Int × Int := rDecode c.1 (mAt (c, s == 5, g, []) 0)
  let x2 : Int × Int × Int × Int × Int × Int × Int := x1.2
  let x3 : Int × Int × Int × Int × Int × Int := x2.2
  let x4 : Int := x3.2.1
  let x5 : Bool := x4 == 6
  let x6 : TR := rSet c.2.1 x3.1 (bif x5 then mAt (c, s == 5, g, []) 1 else rGet c.2.1 x4)
  let x7 : Int × Int × Int × Int × Int × Int × TF × Int × Int := x6.2
  let x8 : Int × Int × Int × Int × Int × TF × Int × Int := x7.2
  let x9 : Int × Int × Int × Int × TF × Int × Int := x8.2
  let x10 : Int × Int × Int × TF × Int × Int := x9.2
  let x11 : Int × Int × TF × Int × Int := x10.2
  let x12 : Int × TF × Int × Int := x11.2
  let x13 : TF × Int × Int := x12.2
  .br (rInternal s)
  (.leaf (some ((c.1, (rgx c.2.1 c.2.1.2.2.2.2.2.2.2.1 (IntKind.u16.wrap ((spOf c) - 2)) (rVector s)), c.2.2))))
  (.br (!mAtC (c, s == 5, g, []) 0 || x1.1 == 2)
   (.br (mAtC (c, s == 5, g, []) 0)
    (.br (!x5 || mAtC (c, s == 5, g, []) 1)
     (.leaf (some ((c.1, (x6.1, x7.1, x8.1, x9.1, x10.1, x11.1, x12.1, x13.1, x13.2.1, mBehind (c, s == 5, g, []) x2.1), c.2.2.1, false, false, c.2.2.2.2.2))))
     (.leaf none))
    (.leaf none))
   (.leaf none))

noncomputable def rFin_2 (c : TC) (s : Int) (g : List Int) (ln : Bool × Bool × Bool × Bool × Bool × Bool × Bool × Bool × Bool) : TC := getO rFinRs.dflt (rFin_2T c s g ln).val

noncomputable def rFin_2C (c : TC) (s : Int) (g : List Int) (ln : Bool × Bool × Bool × Bool × Bool × Bool × Bool × Bool × Bool) : Bool := okB (rFin_2T c s g ln).val

theorem rFin_2_ev (a : HL rFinTs) : evVal (envX Tryz.prog (rFinL 2) [] 79250227772808467515411824639 8) Tryz.f26 rFinTs rFinRs a = rFin_2T a.1 a.2.1 a.2.2.1 a.2.2.2 := by kernel_rfl

noncomputable def rFin_6T (c : TC) (s : Int) (g : List Int) (ln : Bool × Bool × Bool × Bool × Bool × Bool × Bool × Bool × Bool) : RT (Option TC) :=
  let x1 : Int × Int × Int × Int × Int × Int × Int × Int := rDecode c.1 (mAt (c, s == 5, g, []) 0)
  .br (rInternal s)
  (.leaf (some ((c.1, (rgx c.2.1 c.2.1.2.2.2.2.2.2.2.1 (IntKind.u16.wrap ((spOf c) - 2)) (rVector s)), c.2.2))))
  (.br (!mAtC (c, s == 5, g, []) 0 || x1.1 == 6)
   (.br (mAtC (c, s == 5, g, []) 0)
    (.leaf (some ((c.1, (rgx c.2.1 c.2.1.2.2.2.2.2.2.2.1 (spOf c) (mBehind (c, s == 5, g, []) x1.2.1)), c.2.2.1, false, false, c.2.2.2.2.2))))
    (.leaf none))
   (.leaf none))

noncomputable def rFin_6 (c : TC) (s : Int) (g : List Int) (ln : Bool × Bool × Bool × Bool × Bool × Bool × Bool × Bool × Bool) : TC := getO rFinRs.dflt (rFin_6T c s g ln).val

noncomputable def rFin_6C (c : TC) (s : Int) (g : List Int) (ln : Bool × Bool × Bool × Bool × Bool × Bool × Bool × Bool × Bool) : Bool := okB (rFin_6T c s g ln).val

theorem rFin_6_ev (a : HL rFinTs) : evVal (envX Tryz.prog (rFinL 6) [] 79250227772808467515411824639 8) Tryz.f26 rFinTs rFinRs a = rFin_6T a.1 a.2.1 a.2.2.1 a.2.2.2 := by kernel_rfl

noncomputable def rFin_10T (c : TC) (s : Int) (g : List Int) (ln : Bool × Bool × Bool × Bool × Bool × Bool × Bool × Bool × Bool) : RT (Option TC) :=
  let x1 : Int × Int × Int × Int × Int × Int × Int × Int := rDecode c.1 (mAt (c, s == 5, g, []) 0)
  .br (rInternal s)
  (.leaf (some ((c.1, (rgx c.2.1 c.2.1.2.2.2.2.2.2.2.1 (IntKind.u16.wrap ((spOf c) - 2)) (rVector s)), c.2.2))))
  (.br (!mAtC (c, s == 5, g, []) 0 || x1.1 == 10)
   (.br (mAtC (c, s == 5, g, []) 0)
    (.leaf (some ((c.1, (rgx c.2.1 c.2.1.2.2.2.2.2.2.2.1 (spOf c) (mBehind (c, s == 5, g, []) x1.2.1)), c.2.2.1, false, false, c.2.2.2.2.2))))
    (.leaf none))
   (.leaf none))

noncomputable def rFin_10 (c : TC) (s : Int) (g : List Int) (ln : Bool × Bool × Bool × Bool × Bool × Bool × Bool × Bool × Bool) : TC := getO rFinRs.dflt (rFin_10T c s g ln).val

noncomputable def rFin_10C (c : TC) (s : Int) (g : List Int) (ln : Bool × Bool × Bool × Bool × Bool × Bool × Bool × Bool × Bool) : Bool := okB (rFin_10T c s g ln).val

theorem rFin_10_ev (a : HL rFinTs) : evVal (envX Tryz.prog (rFinL 10) [] 79250227772808467515411824639 8) Tryz.f26 rFinTs rFinRs a = rFin_10T a.1 a.2.1 a.2.2.1 a.2.2.2 := by kernel_rfl

noncomputable def rFin_14T (c : TC) (s : Int) (g : List Int) (ln : Bool × Bool × Bool × Bool × Bool × Bool × Bool × Bool × Bool) : RT (Option TC) :=
  let x1 : Int × Int × Int × Int × Int × Int × Int × Int := rDecode c.1 (mAt (c, s == 5, g, []) 0)
  let x2 : Int × Int × Int × Int × Int × Int × Int := x1.2
  let x3 : Int := x2.2.1
  let x4 : Bool := x3 == 6
  let x5 : Int × Bool × Bool × Bool × Bool × Bool × Bool × Bool := rStepped c (14, x2) (bif x4 then mAt (c, s == 5, g, []) 1 else rGet c.2.1 x3)
  let x6 : TR := rSet c.2.1 x3 x5.1
  let x7 : Int × Int × Int × Int × Int × Int × TF × Int × Int := x6.2
  let x8 : Int × Int × Int × Int × Int × TF × Int × Int := x7.2
  let x9 : Int × Int × Int × Int × TF × Int × Int := x8.2
  let x10 : Int × Int × Int × TF × Int × Int := x9.2
  let x11 : Int × Int × TF × Int × Int := x10.2
  let x12 : Int × TF × Int × Int := x11.2
  .br (rInternal s)
  (.leaf (some ((c.1, (rgx c.2.1 c.2.1.2.2.2.2.2.2.2.1 (IntKind.u16.wrap ((spOf c) - 2)) (rVector s)), c.2.2))))
  (.br (!mAtC (c, s == 5, g, []) 0 || x1.1 == 14)
   (.br (mAtC (c, s == 5, g, []) 0)
    (.br (!x4 || mAtC (c, s == 5, g, []) 1)
     (.leaf (some ((c.1, (x6.1, x7.1, x8.1, x9.1, x10.1, x11.1, x12.1, x5.2, x12.2.2.1, mBehind (c, s == 5, g, []) x2.1), c.2.2.1, false, false, c.2.2.2.2.2))))
     (.leaf none))
    (.leaf none))
   (.leaf none))

noncomputable def rFin_14 (c : TC) (s : Int) (g : List Int) (ln : Bool × Bool × Bool × Bool × Bool × Bool × Bool × Bool × Bool) : TC := getO rFinRs.dflt (rFin_14T c s g ln).val

noncomputable def rFin_14C (c : TC) (s : Int) (g : List Int) (ln : Bool × Bool × Bool × Bool × Bool × Bool × Bool × Bool × Bool) : Bool := okB (rFin_14T c s g ln).val

theorem rFin_14_ev (a : HL rFinTs) : evVal (envX Tryz.prog (rFinL 14) [] 79250227772808467515411824639 8) Tryz.f26 rFinTs rFinRs a = rFin_14T a.1 a.2.1 a.2.2.1 a.2.2.2 := by kernel_rfl

noncomputable def rFin_18T (c : TC) (s : Int) (g : List Int) (ln : Bool × Bool × Bool × Bool × Bool × Bool × Bool × Bool × Bool) : RT (Option TC) :=
  let x1 : Int × Int × Int × Int × Int × Int × Int × Int := rDecode c.1 (mAt (c, s == 5, g, []) 0)
  let x2 : Int × Int × Int × Int × Int × Int × Int := x1.2
  let x3 : Int × Bool × Bool × Bool × Bool × Bool × Bool × Bool := rDad c.1 (rPair c.2.1 2) (rPair c.2.1 x2.2.2.2.1) c.2.1.2.2.2.2.2.2.2.1
  let x4 : TR := rSetPair c.2.1 2 x3.1
  let x5 : Int × Int × Int × Int × Int × Int × TF × Int × Int := x4.2
  let x6 : Int × Int × Int × Int × Int × TF × Int × Int := x5.2
  let x7 : Int × Int × Int × Int × TF × Int × Int := x6.2
  let x8 : Int × Int × Int × TF × Int × Int := x7.2
  let x9 : Int × Int × TF × Int × Int := x8.2
  let x10 : Int × TF × Int × Int := x9.2
  .br (rInternal s)
  (.leaf (some ((c.1, (rgx c.2.1 c.2.1.2.2.2.2.2.2.2.1 (IntKind.u16.wrap ((spOf c) - 2)) (rVector s)), c.2.2))))
  (.br (!mAtC (c, s == 5, g, []) 0 || x1.1 == 18)
   (.br (mAtC (c, s == 5, g, []) 0)
    (.leaf (some ((c.1, (x4.1, x5.1, x6.1, x7.1, x8.1, x9.1, x10.1, x3.2, x10.2.2.1, mBehind (c, s == 5, g, []) x2.1), c.2.2.1, false, false, c.2.2.2.2.2))))
    (.leaf none))
   (.leaf none))

noncomputable def rFin_18 (c : TC) (s : Int) (g : List Int) (ln : Bool × Bool × Bool × Bool × Bool × Bool × Bool × Bool × Bool) : TC := getO rFinRs.dflt (rFin_18T c s g ln).val

noncomputable def rFin_18C (c : TC) (s : Int) (g : List Int) (ln : Bool × Bool × Bool × Bool × Bool × Bool × Bool × Bool × Bool) : Bool := okB (rFin_18T c s g ln).val

theorem rFin_18_ev (a : HL rFinTs) : evVal (envX Tryz.prog (rFinL 18) [] 79250227772808467515411824639 8) Tryz.f26 rFinTs rFinRs a = rFin_18T a.1 a.2.1 a.2.2.1 a.2.2.2 := by kernel_rfl

noncomputable def rFin_22T (c : TC) (s : Int) (g : List Int) (ln : Bool × Bool × Bool × Bool × Bool × Bool × Bool × Bool × Bool) : RT (Option TC) :=
  let x1 : Int × Int × Int × Int × Int × Int × Int × Int := rDecode c.1 (mAt (c, s == 5, g, []) 0)
  let x2 : Bool × Bool × Bool × Bool := c.2.1.2.2.2.2.2.2.2.1.2.2.2
  let x3 : Bool × Bool × Bool := x2.2
  let x4 : Bool × Bool := x3.2
  .br (rInternal s)
  (.leaf (some ((c.1, (rgx c.2.1 c.2.1.2.2.2.2.2.2.2.1 (IntKind.u16.wrap ((spOf c) - 2)) (rVector s)), c.2.2))))
  (.br (!mAtC (c, s == 5, g, []) 0 || x1.1 == 22)
   (.br (mAtC (c, s == 5, g, []) 0)
    (.leaf (some ((c.1, (rgx c.2.1 ((c.2.1.2.2.2.2.2.2.2.1.1, c.2.1.2.2.2.2.2.2.2.1.2.1, c.2.1.2.2.2.2.2.2.2.1.2.2.1, x2.1, x3.1, x4.1, !x4.2)) (spOf c) (mBehind (c, s == 5, g, []) x1.2.1)), c.2.2.1, false, false, c.2.2.2.2.2))))
    (.leaf none))
   (.leaf none))

noncomputable def rFin_22 (c : TC) (s : Int) (g : List Int) (ln : Bool × Bool × Bool × Bool × Bool × Bool × Bool × Bool × Bool) : TC := getO rFinRs.dflt (rFin_22T c s g ln).val

noncomputable def rFin_22C (c : TC) (s : Int) (g : List Int) (ln : Bool × Bool × Bool × Bool × Bool × Bool × Bool × Bool × Bool) : Bool := okB (rFin_22T c s g ln).val

theorem rFin_22_ev (a : HL rFinTs) : evVal (envX Tryz.prog (rFinL 22) [] 79250227772808467515411824639 8) Tryz.f26 rFinTs rFinRs a = rFin_22T a.1 a.2.1 a.2.2.1 a.2.2.2 := by kernel_rfl

noncomputable def rFin_26T (c : TC) (s : Int) (g : List Int) (ln : Bool × Bool × Bool × Bool × Bool × Bool × Bool × Bool × Bool) : RT (Option TC) :=
  let x1 : Int × Int × Int × Int × Int × Int × Int × Int := rDecode c.1 (mAt (c, s == 5, g, []) 0)
  let x2 : Int × Int × Int × Int × Int × Int × Int := x1.2
  let x3 : Bool := !mTaken (c, s == 5, g, []) (26, x2)
  let x4 : Bool := c.2.1.2.2.2.2.2.2.2.1.2.2.1
  let x5 : Bool × Bool × Bool × Bool := c.2.1.2.2.2.2.2.2.2.1.2.2.2
  let x6 : Bool := x5.1
  let x7 : Bool × Bool × Bool := x5.2
  let x8 : Bool := x7.1
  let x9 : Bool × Bool := x7.2
  let x10 : Bool := x9.1
  let x11 : Bool := x9.2
  .br (rInternal s)
  (.leaf (some ((c.1, (rgx c.2.1 c.2.1.2.2.2.2.2.2.2.1 (IntKind.u16.wrap ((spOf c) - 2)) (rVector s)), c.2.2))))
  (.br (!mAtC (c, s == 5, g, []) 0 || x1.1 == 26)
   (.br (mAtC (c, s == 5, g, []) 0)
    (.br (x3 || mWordC (c, s == 5, g, []) 1)
     (.leaf (some ((bif x3 then c.1 else c.1, (bif x3 then c.2.1.1 else c.2.1.1, bif x3 then c.2.1.2.1 else c.2.1.2.1, bif x3 then c.2.1.2.2.1 else c.2.1.2.2.1, bif x3 then c.2.1.2.2.2.1 else c.2.1.2.2.2.1, bif x3 then c.2.1.2.2.2.2.1 else c.2.1.2.2.2.2.1, bif x3 then c.2.1.2.2.2.2.2.1 else c.2.1.2.2.2.2.2.1, bif x3 then c.2.1.2.2.2.2.2.2.1 else c.2.1.2.2.2.2.2.2.1, (bif x3 then c.2.1.2.2.2.2.2.2.2.1.1 else c.2.1.2.2.2.2.2.2.2.1.1, bif x3 then c.2.1.2.2.2.2.2.2.2.1.2.1 else c.2.1.2.2.2.2.2.2.2.1.2.1, bif x3 then x4 else x4, bif x3 then x6 else x6, bif x3 then x8 else x8, bif x3 then x10 else x10, bif x3 then x11 else x11), bif x3 then (spOf c) else IntKind.u16.wrap ((spOf c) + 2), bif x3 then mBehind (c, s == 5, g, []) x2.1 else mWord (c, s == 5, g, []) 1), bif x3 then c.2.2.1 else c.2.2.1, false, false, bif x3 then c.2.2.2.2.2.1 else c.2.2.2.2.2.1, bif x3 then c.2.2.2.2.2.2.1 else c.2.2.2.2.2.2.1, bif x3 then c.2.2.2.2.2.2.2.1 else c.2.2.2.2.2.2.2.1, bif x3 then c.2.2.2.2.2.2.2.2.1 else c.2.2.2.2.2.2.2.2.1, bif x3 then c.2.2.2.2.2.2.2.2.2.1 else c.2.2.2.2.2.2.2.2.2.1, bif x3 then c.2.2.2.2.2.2.2.2.2.2.1 else c.2.2.2.2.2.2.2.2.2.2.1, bif x3 then c.2.2.2.2.2.2.2.2.2.2.2.1 else c.2.2.2.2.2.2.2.2.2.2.2.1, bif x3 then c.2.2.2.2.2.2.2.2.2.2.2.2 else c.2.2.2.2.2.2.2.2.2.2.2.2))))
     (.leaf none))
    (.leaf none))
   (.leaf none))

noncomputable def rFin_26 (c : TC) (s : Int) (g : List Int) (ln : Bool × Bool × Bool × Bool × Bool × Bool × Bool × Bool × Bool) : TC := getO rFinRs.dflt (rFin_26T c s g ln).val

noncomputable def rFin_26C (c : TC) (s : Int) (g : List Int) (ln : Bool × Bool × Bool × Bool × Bool × Bool × Bool × Bool × Bool) : Bool := okB (rFin_26T c s g ln).val

theorem rFin_26_ev (a : HL rFinTs) : evVal (envX Tryz.prog (rFinL 26) [] 79250227772808467515411824639 8) Tryz.f26 rFinTs rFinRs a = rFin_26T a.1 a.2.1 a.2.2.1 a.2.2.2 := by kernel_rfl

noncomputable def rFin_30T (c : TC) (s : Int) (g : List Int) (ln : Bool × Bool × Bool × Bool × Bool × Bool × Bool × Bool × Bool) : RT (Option TC) :=
  let x1 : Int := IntKind.u16.wrap ((spOf c) - 2)
  let x2 : Int × Int × Int × Int × Int × Int × Int × Int := rDecode c.1 (mAt (c, s == 5, g, []) 0)
  .br (rInternal s)
  (.leaf (some ((c.1, (rgx c.2.1 c.2.1.2.2.2.2.2.2.2.1 x1 (rVector s)), c.2.2))))
  (.br (!mAtC (c, s == 5, g, []) 0 || x2.1 == 30)
   (.br (mAtC (c, s == 5, g, []) 0)
    (.leaf (some ((c.1, (rgx c.2.1 c.2.1.2.2.2.2.2.2.2.1 x1 (mBehind (c, s == 5, g, []) x2.2.1)), c.2.2.1, false, false, c.2.2.2.2.2))))
    (.leaf none))
   (.leaf none))

noncomputable def rFin_30 (c : TC) (s : Int) (g : List Int) (ln : Bool × Bool × Bool × Bool × Bool × Bool × Bool × Bool × Bool) : TC := getO rFinRs.dflt (rFin_30T c s g ln).val

noncomputable def rFin_30C (c : TC) (s : Int) (g : List Int) (ln : Bool × Bool × Bool × Bool × Bool × Bool × Bool × Bool × Bool) : Bool := okB (rFin_30T c s g ln).val

theorem rFin_30_ev (a : HL rFinTs) : evVal (envX Tryz.prog (rFinL 30) [] 79250227772808467515411824639 8) Tryz.f26 rFinTs rFinRs a = rFin_30T a.1 a.2.1 a.2.2.1 a.2.2.2 := by kernel_rfl

noncomputable def rFin_34T (c : TC) (s : Int) (g : List Int) (ln : Bool × Bool × Bool × Bool × Bool × Bool × Bool × Bool × Bool) : RT (Option TC) :=
  let x1 : Int × Int × Int × Int × Int × Int × Int × Int := rDecode c.1 (mAt (c, s == 5, g, []) 0)
  .br (rInternal s)
  (.leaf (some ((c.1, (rgx c.2.1 c.2.1.2.2.2.2.2.2.2.1 (IntKind.u16.wrap ((spOf c) - 2)) (rVector s)), c.2.2))))
  (.br (!mAtC (c, s == 5, g, []) 0 || x1.1 == 34)
   (.br (mAtC (c, s == 5, g, []) 0)
    (.leaf (some ((c.1, (rgx c.2.1 c.2.1.2.2.2.2.2.2.2.1 (spOf c) (mBehind (c, s == 5, g, []) x1.2.1)), c.2.2.1, false, false, c.2.2.2.2.2))))
    (.leaf none))
   (.leaf none))

noncomputable def rFin_34 (c : TC) (s : Int) (g : List Int) (ln : Bool × Bool × Bool × Bool × Bool × Bool × Bool × Bool × Bool) : TC := getO rFinRs.dflt (rFin_34T c s g ln).val

noncomputable def rFin_34C (c : TC) (s : Int) (g : List Int) (ln : Bool × Bool × Bool × Bool × Bool × Bool × Bool × Bool × Bool) : Bool := okB (rFin_34T c s g ln).val

theorem rFin_34_ev (a : HL rFinTs) : evVal (envX Tryz.prog (rFinL 34) [] 79250227772808467515411824639 8) Tryz.f26 rFinTs rFinRs a = rFin_34T a.1 a.2.1 a.2.2.1 a.2.2.2 := by kernel_rfl

noncomputable def rFin_38T (c : TC) (s : Int) (g : List Int) (ln : Bool × Bool × Bool × Bool × Bool × Bool × Bool × Bool × Bool) : RT (Option TC) :=
  let x1 : Int × Int × Int × Int × Int × Int × Int × Int := rDecode c.1 (mAt (c, s == 5, g, []) 0)
  let x2 : Int × TC := rRim (c.1, (rgx c.2.1 c.2.1.2.2.2.2.2.2.2.1 (spOf c) (mBehind (c, s == 5, g, []) x1.2.1)), c.2.2) ln
  let x3 : TC := x2.2
  let x4 : TR × Bool × Bool × Bool × Int × Bool × Bool × Bool × Bool × Bool × Bool × Bool := x3.2
  let x5 : Bool × Bool × Bool × Int × Bool × Bool × Bool × Bool × Bool × Bool × Bool := x4.2
  let x6 : Int × Bool × Bool × Bool × Bool × Bool × Bool × Bool := x5.2.2.2
  let x7 : TF := x6.2
  let x8 : Bool × Bool × Bool × Bool × Bool × Bool := x7.2
  let x9 : Bool × Bool × Bool × Bool × Bool := x8.2
  let x10 : Bool × Bool × Bool × Bool := x9.2
  .br (rInternal s)
  (.leaf (some ((c.1, (rgx c.2.1 c.2.1.2.2.2.2.2.2.2.1 (IntKind.u16.wrap ((spOf c) - 2)) (rVector s)), c.2.2))))
  (.br (!mAtC (c, s == 5, g, []) 0 || x1.1 == 38)
   (.br (mAtC (c, s == 5, g, []) 0)
    (.leaf (some ((x3.1, (x2.1, x4.1.2), x5.1, false, false, x6.1, x7.1, x8.1, x9.1, x10.1, false, false, x10.2.2.2))))
    (.leaf none))
   (.leaf none))

noncomputable def rFin_38 (c : TC) (s : Int) (g : List Int) (ln : Bool × Bool × Bool × Bool × Bool × Bool × Bool × Bool × Bool) : TC := getO rFinRs.dflt (rFin_38T c s g ln).val

noncomputable def rFin_38C (c : TC) (s : Int) (g : List Int) (ln : Bool × Bool × Bool × Bool × Bool × Bool × Bool × Bool × Bool) : Bool := okB (rFin_38T c s g ln).val

theorem rFin_38_ev (a : HL rFinTs) : evVal (envX Tryz.prog (rFinL 38) [] 79250227772808467515411824639 8) Tryz.f26 rFinTs rFinRs a = rFin_38T a.1 a.2.1 a.2.2.1 a.2.2.2 := by kernel_rfl

noncomputable def rFin_42T (c : TC) (s : Int) (g : List Int) (ln : Bool × Bool × Bool × Bool × Bool × Bool × Bool × Bool × Bool) : RT (Option TC) :=
  let x1 : Int × Int × Int × Int × Int × Int × Int × Int := rDecode c.1 (mAt (c, s == 5, g, []) 0)
  let x2 : Int × Bool × Bool := rRdel (rPair c.2.1 1) c.2.1.2.2.2.2.2.2.2.1.2.2.2.2.2.2
  let x3 : TR := rSetPair c.2.1 1 x2.1
  let x4 : Int × Int × Int × Int × Int × Int × TF × Int × Int := x3.2
  let x5 : Int × Int × Int × Int × Int × TF × Int × Int := x4.2
  let x6 : Int × Int × Int × Int × TF × Int × Int := x5.2
  let x7 : Int × Int × Int × TF × Int × Int := x6.2
  let x8 : Int × Int × TF × Int × Int := x7.2
  let x9 : Int × TF × Int × Int := x8.2
  let x10 : TF × Int × Int := x9.2
  let x11 : TF := x10.1
  let x12 : Bool × Bool × Bool × Bool × Bool × Bool := x11.2
  let x13 : Bool × Bool × Bool × Bool × Bool := x12.2
  let x14 : Bool × Bool × Bool × Bool := x13.2
  let x15 : Bool × Bool := x2.2
  .br (rInternal s)
  (.leaf (some ((c.1, (rgx c.2.1 c.2.1.2.2.2.2.2.2.2.1 (IntKind.u16.wrap ((spOf c) - 2)) (rVector s)), c.2.2))))
  (.br (!mAtC (c, s == 5, g, []) 0 || x1.1 == 42)
   (.br (mAtC (c, s == 5, g, []) 0)
    (.leaf (some ((c.1, (x3.1, x4.1, x5.1, x6.1, x7.1, x8.1, x9.1, (x11.1, x12.1, x13.1, x14.1, x14.2.1, x15.2, x15.1), x10.2.1, mBehind (c, s == 5, g, []) x1.2.1), c.2.2.1, false, false, c.2.2.2.2.2))))
    (.leaf none))
   (.leaf none))

noncomputable def rFin_42 (c : TC) (s : Int) (g : List Int) (ln : Bool × Bool × Bool × Bool × Bool × Bool × Bool × Bool × Bool) : TC := getO rFinRs.dflt (rFin_42T c s g ln).val

noncomputable def rFin_42C (c : TC) (s : Int) (g : List Int) (ln : Bool × Bool × Bool × Bool × Bool × Bool × Bool × Bool × Bool) : Bool := okB (rFin_42T c s g ln).val

theorem rFin_42_ev (a : HL rFinTs) : evVal (envX Tryz.prog (rFinL 42) [] 79250227772808467515411824639 8) Tryz.f26 rFinTs rFinRs a = rFin_42T a.1 a.2.1 a.2.2.1 a.2.2.2 := by kernel_rfl

noncomputable def rFin_46T (c : TC) (s : Int) (g : List Int) (ln : Bool × Bool × Bool × Bool × Bool × Bool × Bool × Bool × Bool) : RT (Option TC) :=
  let x1 : Int × Int × Int × Int × Int × Int × Int × Int := rDecode c.1 (mAt (c, s == 5, g, []) 0)
  .br (rInternal s)
  (.leaf (some ((c.1, (rgx c.2.1 c.2.1.2.2.2.2.2.2.2.1 (IntKind.u16.wrap ((spOf c) - 2)) (rVector s)), c.2.2))))
  (.br (!mAtC (c, s == 5, g, []) 0 || x1.1 == 46)
   (.br (mAtC (c, s == 5, g, []) 0)
    (.leaf (some ((c.1, (rgx c.2.1 c.2.1.2.2.2.2.2.2.2.1 (spOf c) (mBehind (c, s == 5, g, []) x1.2.1)), c.2.2.1, false, false, c.2.2.2.2.2))))
    (.leaf none))
   (.leaf none))

noncomputable def rFin_46 (c : TC) (s : Int) (g : List Int) (ln : Bool × Bool × Bool × Bool × Bool × Bool × Bool × Bool × Bool) : TC := getO rFinRs.dflt (rFin_46T c s g ln).val

noncomputable def rFin_46C (c : TC) (s : Int) (g : List Int) (ln : Bool × Bool × Bool × Bool × Bool × Bool × Bool × Bool × Bool) : Bool := okB (rFin_46T c s g ln).val

theorem rFin_46_ev (a : HL rFinTs) : evVal (envX Tryz.prog (rFinL 46) [] 79250227772808467515411824639 8) Tryz.f26 rFinTs rFinRs a = rFin_46T a.1 a.2.1 a.2.2.1 a.2.2.2 := by kernel_rfl
end
end Go.Proofs.YteboknglfjadoaaGreat
