/-
  Contracts of functions; each found by the symbolic executor and checked by the kernel. Conditions: none.
-/
import Derived.Test.YtiflfdlglncjlaaS3D
import Derived.Test.YtiflfdlglncjlaaProg
import Derived.Test.YtiflfdlglncjlaaFin0
set_option linter.unusedSimpArgs false
open Go Go.S3 Go.Proofs
set_option linter.unusedVariables false
set_option maxRecDepth 100000
namespace Go.Proofs.Ytiflfdlglncjlaa
noncomputable section
noncomputable def pFin_1T (c : TC) (s : Int) (g : List Int) (ln : Bool × Bool × Bool × Bool × Bool × Bool × Bool × Bool × Bool) : RT (Option TC) :=
  let x1 : TC × Bool × List Int × TI × List TY := (c, s == 5, g, (0, 0, 0, 0, 0, 0, 0, 0), [])
  let x2 : Bool := qAtC x1 0
  let x3 : Int × Int × Int × Int × Int × Int × Int × Int := rDecode c.1 (qAt x1 0)
  let x4 : Bool := !x2 || x3.1 == 1
  .br (pInternal s)
  (.leaf (some ((c.1, (c.2.1.1, c.2.1.2.1, c.2.1.2.2.1, c.2.1.2.2.2.1, c.2.1.2.2.2.2.1, c.2.1.2.2.2.2.2.1, c.2.1.2.2.2.2.2.2.1, c.2.1.2.2.2.2.2.2.2.1, IntKind.u16.wrap (c.2.1.2.2.2.2.2.2.2.2.1 - 2), rVector s), c.2.2))))
  (.br (!x4 || x2)
   (.br (x4)
    (.leaf (some ((c.1, (c.2.1.1, c.2.1.2.1, c.2.1.2.2.1, c.2.1.2.2.2.1, c.2.1.2.2.2.2.1, c.2.1.2.2.2.2.2.1, c.2.1.2.2.2.2.2.2.1, c.2.1.2.2.2.2.2.2.2.1, c.2.1.2.2.2.2.2.2.2.2.1, qBehind (c, s == 5, g, (1, x3.2), [])), c.2.2.1, false, false, c.2.2.2.2.2))))
    (.leaf none))
   (.leaf none))

noncomputable def pFin_1 (c : TC) (s : Int) (g : List Int) (ln : Bool × Bool × Bool × Bool × Bool × Bool × Bool × Bool × Bool) : TC := getO pFinRs.dflt (pFin_1T c s g ln).val

noncomputable def pFin_1C (c : TC) (s : Int) (g : List Int) (ln : Bool × Bool × Bool × Bool × Bool × Bool × Bool × Bool × Bool) : Bool := okB (pFin_1T c s g ln).val

theorem pFin_1_ev (a : HL pFinTs) : evVal (envX Try.prog (pFinL 1) [] 1023 8) Try.f32 pFinTs pFinRs a = pFin_1T a.1 a.2.1 a.2.2.1 a.2.2.2 := by kernel_rfl

noncomputable def pFin_5T (c : TC) (s : Int) (g : List Int) (ln : Bool × Bool × Bool × Bool × Bool × Bool × Bool × Bool × Bool) : RT (Option TC) :=
  let x1 : TC × Bool × List Int × TI × List TY := (c, s == 5, g, (0, 0, 0, 0, 0, 0, 0, 0), [])
  let x2 : Bool := qAtC x1 0
  let x3 : Int × Int × Int × Int × Int × Int × Int × Int := rDecode c.1 (qAt x1 0)
  let x4 : Bool := !x2 || x3.1 == 5
  let x5 : TC × Bool × List Int × TI × List TY := (c, s == 5, g, (5, x3.2), [])
  .br (pInternal s)
  (.leaf (some ((c.1, (c.2.1.1, c.2.1.2.1, c.2.1.2.2.1, c.2.1.2.2.2.1, c.2.1.2.2.2.2.1, c.2.1.2.2.2.2.2.1, c.2.1.2.2.2.2.2.2.1, c.2.1.2.2.2.2.2.2.2.1, IntKind.u16.wrap (c.2.1.2.2.2.2.2.2.2.2.1 - 2), rVector s), c.2.2))))
  (.br (!x4 || x2)
   (.br (x4)
    (.br (qAtC x5 3)
     (.leaf (some ((c.1, (qAt x5 3, c.2.1.2.1, c.2.1.2.2.1, c.2.1.2.2.2.1, c.2.1.2.2.2.2.1, c.2.1.2.2.2.2.2.1, c.2.1.2.2.2.2.2.2.1, c.2.1.2.2.2.2.2.2.2.1, c.2.1.2.2.2.2.2.2.2.2.1, qBehind x5), c.2.2.1, false, false, c.2.2.2.2.2))))
     (.leaf none))
    (.leaf none))
   (.leaf none))

noncomputable def pFin_5 (c : TC) (s : Int) (g : List Int) (ln : Bool × Bool × Bool × Bool × Bool × Bool × Bool × Bool × Bool) : TC := getO pFinRs.dflt (pFin_5T c s g ln).val

noncomputable def pFin_5C (c : TC) (s : Int) (g : List Int) (ln : Bool × Bool × Bool × Bool × Bool × Bool × Bool × Bool × Bool) : Bool := okB (pFin_5T c s g ln).val

theorem pFin_5_ev (a : HL pFinTs) : evVal (envX Try.prog (pFinL 5) [] 1023 8) Try.f32 pFinTs pFinRs a = pFin_5T a.1 a.2.1 a.2.2.1 a.2.2.2 := by kernel_rfl

noncomputable def pFin_9T (c : TC) (s : Int) (g : List Int) (ln : Bool × Bool × Bool × Bool × Bool × Bool × Bool × Bool × Bool) : RT (Option TC) :=
  let x1 : TC × Bool × List Int × TI × List TY := (c, s == 5, g, (0, 0, 0, 0, 0, 0, 0, 0), [])
  let x2 : Bool := qAtC x1 0
  let x3 : Int × Int × Int × Int × Int × Int × Int × Int := rDecode c.1 (qAt x1 0)
  let x4 : Bool := !x2 || x3.1 == 9
  let x5 : TC × Bool × List Int × TI × List TY := (c, s == 5, g, (9, x3.2), [])
  .br (pInternal s)
  (.leaf (some ((c.1, (c.2.1.1, c.2.1.2.1, c.2.1.2.2.1, c.2.1.2.2.2.1, c.2.1.2.2.2.2.1, c.2.1.2.2.2.2.2.1, c.2.1.2.2.2.2.2.2.1, c.2.1.2.2.2.2.2.2.2.1, IntKind.u16.wrap (c.2.1.2.2.2.2.2.2.2.2.1 - 2), rVector s), c.2.2))))
  (.br (!x4 || x2)
   (.br (x4)
    (.br (qAtC x5 1)
     (.leaf (some ((c.1, (qAt x5 1, c.2.1.2.1, c.2.1.2.2.1, c.2.1.2.2.2.1, c.2.1.2.2.2.2.1, c.2.1.2.2.2.2.2.1, c.2.1.2.2.2.2.2.2.1, c.2.1.2.2.2.2.2.2.2.1, c.2.1.2.2.2.2.2.2.2.2.1, qBehind x5), c.2.2.1, false, false, c.2.2.2.2.2))))
     (.leaf none))
    (.leaf none))
   (.leaf none))

noncomputable def pFin_9 (c : TC) (s : Int) (g : List Int) (ln : Bool × Bool × Bool × Bool × Bool × Bool × Bool × Bool × Bool) : TC := getO pFinRs.dflt (pFin_9T c s g ln).val

noncomputable def pFin_9C (c : TC) (s : Int) (g : List Int) (ln : Bool × Bool × Bool × Bool × Bool × Bool × Bool × Bool × Bool) : Bool := okB (pFin_9T c s g ln).val

theorem pFin_9_ev (a : HL pFinTs) : evVal (envX Try.prog (pFinL 9) [] 1023 8) Try.f32 pFinTs pFinRs a = pFin_9T a.1 a.2.1 a.2.2.1 a.2.2.2 := by kernel_rfl

noncomputable def pFin_13T (c : TC) (s : Int) (g : List Int) (ln : Bool × Bool × Bool × Bool × Bool × Bool × Bool × Bool × Bool) : RT (Option TC) :=
  let x1 : TC × Bool × List Int × TI × List TY := (c, s == 5, g, (0, 0, 0, 0, 0, 0, 0, 0), [])
  let x2 : Bool := qAtC x1 0
  let x3 : Int × Int × Int × Int × Int × Int × Int × Int := rDecode c.1 (qAt x1 0)
  let x4 : Bool := !x2 || x3.1 == 13
  let x5 : Int × Int × Int × Int × Int × Int × Int := x3.2
  let x6 : TC × Bool × List Int × TI × List TY := (c, s == 5, g, (13, x5), [])
  let x7 : Int × Bool × Bool × Bool × Bool × Bool × Bool × Bool := rDo c.1 x5.2.2.2.2.1 c.2.1.1 (qOperand x6) c.2.1.2.2.2.2.2.2.2.1
  .br (pInternal s)
  (.leaf (some ((c.1, (c.2.1.1, c.2.1.2.1, c.2.1.2.2.1, c.2.1.2.2.2.1, c.2.1.2.2.2.2.1, c.2.1.2.2.2.2.2.1, c.2.1.2.2.2.2.2.2.1, c.2.1.2.2.2.2.2.2.2.1, IntKind.u16.wrap (c.2.1.2.2.2.2.2.2.2.2.1 - 2), rVector s), c.2.2))))
  (.br (!x4 || x2)
   (.br (x4)
    (.br (qOperandC x6)
     (.leaf (some ((c.1, (x7.1, c.2.1.2.1, c.2.1.2.2.1, c.2.1.2.2.2.1, c.2.1.2.2.2.2.1, c.2.1.2.2.2.2.2.1, c.2.1.2.2.2.2.2.2.1, x7.2, c.2.1.2.2.2.2.2.2.2.2.1, qBehind x6), c.2.2.1, false, false, c.2.2.2.2.2))))
     (.leaf none))
    (.leaf none))
   (.leaf none))

noncomputable def pFin_13 (c : TC) (s : Int) (g : List Int) (ln : Bool × Bool × Bool × Bool × Bool × Bool × Bool × Bool × Bool) : TC := getO pFinRs.dflt (pFin_13T c s g ln).val

noncomputable def pFin_13C (c : TC) (s : Int) (g : List Int) (ln : Bool × Bool × Bool × Bool × Bool × Bool × Bool × Bool × Bool) : Bool := okB (pFin_13T c s g ln).val

theorem pFin_13_ev (a : HL pFinTs) : evVal (envX Try.prog (pFinL 13) [] 1023 8) Try.f32 pFinTs pFinRs a = pFin_13T a.1 a.2.1 a.2.2.1 a.2.2.2 := by kernel_rfl

noncomputable def pFin_17T (c : TC) (s : Int) (g : List Int) (ln : Bool × Bool × Bool × Bool × Bool × Bool × Bool × Bool × Bool) : RT (Option TC) :=
  let x1 : TC × Bool × List Int × TI × List TY := (c, s == 5, g, (0, 0, 0, 0, 0, 0, 0, 0), [])
  let x2 : Bool := qAtC x1 0
  let x3 : Int × Int × Int × Int × Int × Int × Int × Int := rDecode c.1 (qAt x1 0)
  let x4 : Bool := !x2 || x3.1 == 17
  let x5 : Int × Int × Int × Int × Int × Int × Int := x3.2
  let x6 : TC × Bool × List Int × TI × List TY := (c, s == 5, g, (17, x5), [])
  let x7 : Int := x5.2.2.2.1
  let x8 : Int × Bool × Bool × Bool × Bool × Bool × Bool × Bool := rDcx c.1 (qPair x6 x7) c.2.1.2.2.2.2.2.2.2.1
  .br (pInternal s)
  (.leaf (some ((c.1, (c.2.1.1, c.2.1.2.1, c.2.1.2.2.1, c.2.1.2.2.2.1, c.2.1.2.2.2.2.1, c.2.1.2.2.2.2.2.1, c.2.1.2.2.2.2.2.2.1, c.2.1.2.2.2.2.2.2.2.1, IntKind.u16.wrap (c.2.1.2.2.2.2.2.2.2.2.1 - 2), rVector s), c.2.2))))
  (.br (!x4 || x2)
   (.br (x4)
    (.leaf (some ((c.1, rSetPair (c.2.1.1, c.2.1.2.1, c.2.1.2.2.1, c.2.1.2.2.2.1, c.2.1.2.2.2.2.1, c.2.1.2.2.2.2.2.1, c.2.1.2.2.2.2.2.2.1, x8.2, c.2.1.2.2.2.2.2.2.2.2.1, qBehind x6) x7 x8.1, c.2.2.1, false, false, c.2.2.2.2.2))))
    (.leaf none))
   (.leaf none))

noncomputable def pFin_17 (c : TC) (s : Int) (g : List Int) (ln : Bool × Bool × Bool × Bool × Bool × Bool × Bool × Bool × Bool) : TC := getO pFinRs.dflt (pFin_17T c s g ln).val

noncomputable def pFin_17C (c : TC) (s : Int) (g : List Int) (ln : Bool × Bool × Bool × Bool × Bool × Bool × Bool × Bool × Bool) : Bool := okB (pFin_17T c s g ln).val

theorem pFin_17_ev (a : HL pFinTs) : evVal (envX Try.prog (pFinL 17) [] 1023 8) Try.f32 pFinTs pFinRs a = pFin_17T a.1 a.2.1 a.2.2.1 a.2.2.2 := by kernel_rfl

noncomputable def pFin_21T (c : TC) (s : Int) (g : List Int) (ln : Bool × Bool × Bool × Bool × Bool × Bool × Bool × Bool × Bool) : RT (Option TC) :=
  let x1 : TC × Bool × List Int × TI × List TY := (c, s == 5, g, (0, 0, 0, 0, 0, 0, 0, 0), [])
  let x2 : Bool := qAtC x1 0
  let x3 : Int × Int × Int × Int × Int × Int × Int × Int := rDecode c.1 (qAt x1 0)
  let x4 : Bool := !x2 || x3.1 == 21
  let x5 : Bool × Bool × Bool × Bool := c.2.1.2.2.2.2.2.2.2.1.2.2.2
  let x6 : Bool × Bool × Bool := x5.2
  .br (pInternal s)
  (.leaf (some ((c.1, (c.2.1.1, c.2.1.2.1, c.2.1.2.2.1, c.2.1.2.2.2.1, c.2.1.2.2.2.2.1, c.2.1.2.2.2.2.2.1, c.2.1.2.2.2.2.2.2.1, c.2.1.2.2.2.2.2.2.2.1, IntKind.u16.wrap (c.2.1.2.2.2.2.2.2.2.2.1 - 2), rVector s), c.2.2))))
  (.br (!x4 || x2)
   (.br (x4)
    (.leaf (some ((c.1, (c.2.1.1, c.2.1.2.1, c.2.1.2.2.1, c.2.1.2.2.2.1, c.2.1.2.2.2.2.1, c.2.1.2.2.2.2.2.1, c.2.1.2.2.2.2.2.2.1, (c.2.1.2.2.2.2.2.2.2.1.1, c.2.1.2.2.2.2.2.2.2.1.2.1, c.2.1.2.2.2.2.2.2.2.1.2.2.1, x5.1, x6.1, x6.2.1, true), c.2.1.2.2.2.2.2.2.2.2.1, qBehind (c, s == 5, g, (21, x3.2), [])), c.2.2.1, false, false, c.2.2.2.2.2))))
    (.leaf none))
   (.leaf none))

noncomputable def pFin_21 (c : TC) (s : Int) (g : List Int) (ln : Bool × Bool × Bool × Bool × Bool × Bool × Bool × Bool × Bool) : TC := getO pFinRs.dflt (pFin_21T c s g ln).val

noncomputable def pFin_21C (c : TC) (s : Int) (g : List Int) (ln : Bool × Bool × Bool × Bool × Bool × Bool × Bool × Bool × Bool) : Bool := okB (pFin_21T c s g ln).val

theorem pFin_21_ev (a : HL pFinTs) : evVal (envX Try.prog (pFinL 21) [] 1023 8) Try.f32 pFinTs pFinRs a = pFin_21T a.1 a.2.1 a.2.2.1 a.2.2.2 := by kernel_rfl

noncomputable def pFin_25T (c : TC) (s : Int) (g : List Int) (ln : Bool × Bool × Bool × Bool × Bool × Bool × Bool × Bool × Bool) : RT (Option TC) :=
  let x1 : Int := IntKind.u16.wrap (c.2.1.2.2.2.2.2.2.2.2.1 - 2)
  let x2 : TC × Bool × List Int × TI × List TY := (c, s == 5, g, (0, 0, 0, 0, 0, 0, 0, 0), [])
  let x3 : Bool := qAtC x2 0
  let x4 : Int × Int × Int × Int × Int × Int × Int × Int := rDecode c.1 (qAt x2 0)
  let x5 : Bool := !x3 || x4.1 == 25
  let x6 : TC × Bool × List Int × TI × List TY := (c, s == 5, g, (25, x4.2), [])
  let x7 : Bool := qTaken x6
  .br (pInternal s)
  (.leaf (some ((c.1, (c.2.1.1, c.2.1.2.1, c.2.1.2.2.1, c.2.1.2.2.2.1, c.2.1.2.2.2.2.1, c.2.1.2.2.2.2.2.1, c.2.1.2.2.2.2.2.2.1, c.2.1.2.2.2.2.2.2.2.1, x1, rVector s), c.2.2))))
  (.br (!x5 || x3)
   (.br (x5)
    (.br (!x7 || qJoinC x6 1)
     (.leaf (some ((c.1, (c.2.1.1, c.2.1.2.1, c.2.1.2.2.1, c.2.1.2.2.2.1, c.2.1.2.2.2.2.1, c.2.1.2.2.2.2.2.1, c.2.1.2.2.2.2.2.2.1, c.2.1.2.2.2.2.2.2.2.1, bif x7 then x1 else c.2.1.2.2.2.2.2.2.2.2.1, bif x7 then qJoin x6 1 else qBehind x6), c.2.2.1, false, false, c.2.2.2.2.2))))
     (.leaf none))
    (.leaf none))
   (.leaf none))

noncomputable def pFin_25 (c : TC) (s : Int) (g : List Int) (ln : Bool × Bool × Bool × Bool × Bool × Bool × Bool × Bool × Bool) : TC := getO pFinRs.dflt (pFin_25T c s g ln).val

noncomputable def pFin_25C (c : TC) (s : Int) (g : List Int) (ln : Bool × Bool × Bool × Bool × Bool × Bool × Bool × Bool × Bool) : Bool := okB (pFin_25T c s g ln).val

theorem pFin_25_ev (a : HL pFinTs) : evVal (envX Try.prog (pFinL 25) [] 1023 8) Try.f32 pFinTs pFinRs a = pFin_25T a.1 a.2.1 a.2.2.1 a.2.2.2 := by kernel_rfl

noncomputable def pFin_29T (c : TC) (s : Int) (g : List Int) (ln : Bool × Bool × Bool × Bool × Bool × Bool × Bool × Bool × Bool) : RT (Option TC) :=
  let x1 : TC × Bool × List Int × TI × List TY := (c, s == 5, g, (0, 0, 0, 0, 0, 0, 0, 0), [])
  let x2 : Bool := qAtC x1 0
  let x3 : Int × Int × Int × Int × Int × Int × Int × Int := rDecode c.1 (qAt x1 0)
  let x4 : Bool := !x2 || x3.1 == 29
  let x5 : TC × Bool × List Int × TI × List TY := (c, s == 5, g, (29, x3.2), [])
  .br (pInternal s)
  (.leaf (some ((c.1, (c.2.1.1, c.2.1.2.1, c.2.1.2.2.1, c.2.1.2.2.2.1, c.2.1.2.2.2.2.1, c.2.1.2.2.2.2.2.1, c.2.1.2.2.2.2.2.2.1, c.2.1.2.2.2.2.2.2.2.1, IntKind.u16.wrap (c.2.1.2.2.2.2.2.2.2.2.1 - 2), rVector s), c.2.2))))
  (.br (!x4 || x2)
   (.br (x4)
    (.leaf (some ((c.1, (c.2.1.1, c.2.1.2.1, c.2.1.2.2.1, c.2.1.2.2.2.1, c.2.1.2.2.2.2.1, c.2.1.2.2.2.2.2.1, c.2.1.2.2.2.2.2.2.1, c.2.1.2.2.2.2.2.2.2.1, qPair x5 2, qBehind x5), c.2.2.1, false, false, c.2.2.2.2.2))))
    (.leaf none))
   (.leaf none))

noncomputable def pFin_29 (c : TC) (s : Int) (g : List Int) (ln : Bool × Bool × Bool × Bool × Bool × Bool × Bool × Bool × Bool) : TC := getO pFinRs.dflt (pFin_29T c s g ln).val

noncomputable def pFin_29C (c : TC) (s : Int) (g : List Int) (ln : Bool × Bool × Bool × Bool × Bool × Bool × Bool × Bool × Bool) : Bool := okB (pFin_29T c s g ln).val

theorem pFin_29_ev (a : HL pFinTs) : evVal (envX Try.prog (pFinL 29) [] 1023 8) Try.f32 pFinTs pFinRs a = pFin_29T a.1 a.2.1 a.2.2.1 a.2.2.2 := by kernel_rfl

noncomputable def pFin_33T (c : TC) (s : Int) (g : List Int) (ln : Bool × Bool × Bool × Bool × Bool × Bool × Bool × Bool × Bool) : RT (Option TC) :=
  let x1 : TC × Bool × List Int × TI × List TY := (c, s == 5, g, (0, 0, 0, 0, 0, 0, 0, 0), [])
  let x2 : Bool := qAtC x1 0
  let x3 : Int × Int × Int × Int × Int × Int × Int × Int := rDecode c.1 (qAt x1 0)
  let x4 : Bool := !x2 || x3.1 == 33
  let x5 : TC × Bool × List Int × TI × List TY := (c, s == 5, g, (33, x3.2), [])
  .br (pInternal s)
  (.leaf (some ((c.1, (c.2.1.1, c.2.1.2.1, c.2.1.2.2.1, c.2.1.2.2.2.1, c.2.1.2.2.2.2.1, c.2.1.2.2.2.2.2.1, c.2.1.2.2.2.2.2.2.1, c.2.1.2.2.2.2.2.2.2.1, IntKind.u16.wrap (c.2.1.2.2.2.2.2.2.2.2.1 - 2), rVector s), c.2.2))))
  (.br (!x4 || x2)
   (.br (x4)
    (.br (qAtC x5 2)
     (.leaf (some ((c.1, (qAt x5 2, c.2.1.2.1, c.2.1.2.2.1, c.2.1.2.2.2.1, c.2.1.2.2.2.2.1, c.2.1.2.2.2.2.2.1, c.2.1.2.2.2.2.2.2.1, c.2.1.2.2.2.2.2.2.2.1, c.2.1.2.2.2.2.2.2.2.2.1, qBehind x5), c.2.2.1, false, false, c.2.2.2.2.2))))
     (.leaf none))
    (.leaf none))
   (.leaf none))

noncomputable def pFin_33 (c : TC) (s : Int) (g : List Int) (ln : Bool × Bool × Bool × Bool × Bool × Bool × Bool × Bool × Bool) : TC := getO pFinRs.dflt (pFin_33T c s g ln).val

noncomputable def pFin_33C (c : TC) (s : Int) (g : List Int) (ln : Bool × Bool × Bool × Bool × Bool × Bool × Bool × Bool × Bool) : Bool := okB (pFin_33T c s g ln).val

theorem pFin_33_ev (a : HL pFinTs) : evVal (envX Try.prog (pFinL 33) [] 1023 8) Try.f32 pFinTs pFinRs a = pFin_33T a.1 a.2.1 a.2.2.1 a.2.2.2 := by kernel_rfl

noncomputable def pFin_37T (c : TC) (s : Int) (g : List Int) (ln : Bool × Bool × Bool × Bool × Bool × Bool × Bool × Bool × Bool) : RT (Option TC) :=
  let x1 : TC × Bool × List Int × TI × List TY := (c, s == 5, g, (0, 0, 0, 0, 0, 0, 0, 0), [])
  let x2 : Bool := qAtC x1 0
  let x3 : Int × Int × Int × Int × Int × Int × Int × Int := rDecode c.1 (qAt x1 0)
  let x4 : Bool := !x2 || x3.1 == 37
  .br (pInternal s)
  (.leaf (some ((c.1, (c.2.1.1, c.2.1.2.1, c.2.1.2.2.1, c.2.1.2.2.2.1, c.2.1.2.2.2.2.1, c.2.1.2.2.2.2.2.1, c.2.1.2.2.2.2.2.2.1, c.2.1.2.2.2.2.2.2.2.1, IntKind.u16.wrap (c.2.1.2.2.2.2.2.2.2.2.1 - 2), rVector s), c.2.2))))
  (.br (!x4 || x2)
   (.br (x4)
    (.leaf (some ((c.1, (c.2.1.1, c.2.1.2.1, c.2.1.2.2.1, c.2.1.2.2.2.1, c.2.1.2.2.2.2.1, c.2.1.2.2.2.2.2.1, c.2.1.2.2.2.2.2.2.1, c.2.1.2.2.2.2.2.2.2.1, c.2.1.2.2.2.2.2.2.2.2.1, qBehind (c, s == 5, g, (37, x3.2), [])), c.2.2.1, false, true, c.2.2.2.2.2))))
    (.leaf none))
   (.leaf none))

noncomputable def pFin_37 (c : TC) (s : Int) (g : List Int) (ln : Bool × Bool × Bool × Bool × Bool × Bool × Bool × Bool × Bool) : TC := getO pFinRs.dflt (pFin_37T c s g ln).val

noncomputable def pFin_37C (c : TC) (s : Int) (g : List Int) (ln : Bool × Bool × Bool × Bool × Bool × Bool × Bool × Bool × Bool) : Bool := okB (pFin_37T c s g ln).val

theorem pFin_37_ev (a : HL pFinTs) : evVal (envX Try.prog (pFinL 37) [] 1023 8) Try.f32 pFinTs pFinRs a = pFin_37T a.1 a.2.1 a.2.2.1 a.2.2.2 := by kernel_rfl

noncomputable def pFin_41T (c : TC) (s : Int) (g : List Int) (ln : Bool × Bool × Bool × Bool × Bool × Bool × Bool × Bool × Bool) : RT (Option TC) :=
  let x1 : TC × Bool × List Int × TI × List TY := (c, s == 5, g, (0, 0, 0, 0, 0, 0, 0, 0), [])
  let x2 : Bool := qAtC x1 0
  let x3 : Int × Int × Int × Int × Int × Int × Int × Int := rDecode c.1 (qAt x1 0)
  let x4 : Bool := !x2 || x3.1 == 41
  let x5 : Bool × Bool × Bool × Bool := c.2.1.2.2.2.2.2.2.2.1.2.2.2
  let x6 : Bool × Bool × Bool := x5.2
  let x7 : TC × Bool × List Int × TI × List TY := (c, s == 5, g, (41, x3.2), [])
  let x8 : Int × Bool := rArhl (qPair x7 2)
  .br (pInternal s)
  (.leaf (some ((c.1, (c.2.1.1, c.2.1.2.1, c.2.1.2.2.1, c.2.1.2.2.2.1, c.2.1.2.2.2.2.1, c.2.1.2.2.2.2.2.1, c.2.1.2.2.2.2.2.2.1, c.2.1.2.2.2.2.2.2.2.1, IntKind.u16.wrap (c.2.1.2.2.2.2.2.2.2.2.1 - 2), rVector s), c.2.2))))
  (.br (!x4 || x2)
   (.br (x4)
    (.leaf (some ((c.1, rSetPair (c.2.1.1, c.2.1.2.1, c.2.1.2.2.1, c.2.1.2.2.2.1, c.2.1.2.2.2.2.1, c.2.1.2.2.2.2.2.1, c.2.1.2.2.2.2.2.2.1, (c.2.1.2.2.2.2.2.2.2.1.1, c.2.1.2.2.2.2.2.2.2.1.2.1, c.2.1.2.2.2.2.2.2.2.1.2.2.1, x5.1, x6.1, x6.2.1, x8.2), c.2.1.2.2.2.2.2.2.2.2.1, qBehind x7) 2 x8.1, c.2.2.1, false, false, c.2.2.2.2.2))))
    (.leaf none))
   (.leaf none))

noncomputable def pFin_41 (c : TC) (s : Int) (g : List Int) (ln : Bool × Bool × Bool × Bool × Bool × Bool × Bool × Bool × Bool) : TC := getO pFinRs.dflt (pFin_41T c s g ln).val

noncomputable def pFin_41C (c : TC) (s : Int) (g : List Int) (ln : Bool × Bool × Bool × Bool × Bool × Bool × Bool × Bool × Bool) : Bool := okB (pFin_41T c s g ln).val

theorem pFin_41_ev (a : HL pFinTs) : evVal (envX Try.prog (pFinL 41) [] 1023 8) Try.f32 pFinTs pFinRs a = pFin_41T a.1 a.2.1 a.2.2.1 a.2.2.2 := by kernel_rfl

noncomputable def pFin_45T (c : TC) (s : Int) (g : List Int) (ln : Bool × Bool × Bool × Bool × Bool × Bool × Bool × Bool × Bool) : RT (Option TC) :=
  let x1 : Int := IntKind.u16.wrap (c.2.1.2.2.2.2.2.2.2.2.1 - 2)
  let x2 : TC × Bool × List Int × TI × List TY := (c, s == 5, g, (0, 0, 0, 0, 0, 0, 0, 0), [])
  let x3 : Bool := qAtC x2 0
  let x4 : Int × Int × Int × Int × Int × Int × Int × Int := rDecode c.1 (qAt x2 0)
  let x5 : Bool := !x3 || x4.1 == 45
  let x6 : TC × Bool × List Int × TI × List TY := (c, s == 5, g, (45, x4.2), [])
  let x7 : Bool := qTaken x6
  .br (pInternal s)
  (.leaf (some ((c.1, (c.2.1.1, c.2.1.2.1, c.2.1.2.2.1, c.2.1.2.2.2.1, c.2.1.2.2.2.2.1, c.2.1.2.2.2.2.2.1, c.2.1.2.2.2.2.2.2.1, c.2.1.2.2.2.2.2.2.2.1, x1, rVector s), c.2.2))))
  (.br (!x5 || x3)
   (.br (x5)
    (.leaf (some ((c.1, (c.2.1.1, c.2.1.2.1, c.2.1.2.2.1, c.2.1.2.2.2.1, c.2.1.2.2.2.2.1, c.2.1.2.2.2.2.2.1, c.2.1.2.2.2.2.2.2.1, c.2.1.2.2.2.2.2.2.2.1, bif x7 then x1 else c.2.1.2.2.2.2.2.2.2.2.1, bif x7 then 64 else qBehind x6), c.2.2.1, false, false, c.2.2.2.2.2))))
    (.leaf none))
   (.leaf none))

noncomputable def pFin_45 (c : TC) (s : Int) (g : List Int) (ln : Bool × Bool × Bool × Bool × Bool × Bool × Bool × Bool × Bool) : TC := getO pFinRs.dflt (pFin_45T c s g ln).val

noncomputable def pFin_45C (c : TC) (s : Int) (g : List Int) (ln : Bool × Bool × Bool × Bool × Bool × Bool × Bool × Bool × Bool) : Bool := okB (pFin_45T c s g ln).val

theorem pFin_45_ev (a : HL pFinTs) : evVal (envX Try.prog (pFinL 45) [] 1023 8) Try.f32 pFinTs pFinRs a = pFin_45T a.1 a.2.1 a.2.2.1 a.2.2.2 := by kernel_rfl
end
end Go.Proofs.Ytiflfdlglncjlaa
