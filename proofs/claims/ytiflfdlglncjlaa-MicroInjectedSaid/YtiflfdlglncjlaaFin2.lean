/-
  Contracts of functions; each found by the symbolic executor and checked by the kernel. Conditions: none.
-/
import Derived.Test.YtiflfdlglncjlaaS3D
import Derived.Test.YtiflfdlglncjlaaProg
import Derived.Test.YtiflfdlglncjlaaFin0
set_option linter.unusedSimpArgs false
open Go Go.S3 Go.Proofs
set_option linter.unusedVariables false
set_option maxRecDepth 100000
namespace Go.Proofs.Ytiflfdlglncjlaa
noncomputable section
noncomputable def pFin_2T (c : TC) (s : Int) (g : List Int) (ln : Bool × Bool × Bool × Bool × Bool × Bool × Bool × Bool × Bool) : RT (Option TC) :=
  let x1 : TC × Bool × List Int × TI × List TY := (c, s == 5, g, (0, 0, 0, 0, 0, 0, 0, 0), [])
  let x2 : Bool := qAtC x1 0
  let x3 : Int × Int × Int × Int × Int × Int × Int × Int := rDecode c.1 (qAt x1 0)
  let x4 : Bool := !x2 || x3.1 == 2
  let x5 : Int × Int × Int × Int × Int × Int × Int := x3.2
  let x6 : Int × Int × Int × Int × Int × Int := x5.2
  let x7 : Int := x6.2.1
  let x8 : Bool := x7 == 6
  let x9 : TC × Bool × List Int × TI × List TY := (c, s == 5, g, (2, x5), [])
  .br (pInternal s)
  (.leaf (some ((c.1, (c.2.1.1, c.2.1.2.1, c.2.1.2.2.1, c.2.1.2.2.2.1, c.2.1.2.2.2.2.1, c.2.1.2.2.2.2.2.1, c.2.1.2.2.2.2.2.2.1, c.2.1.2.2.2.2.2.2.2.1, IntKind.u16.wrap (c.2.1.2.2.2.2.2.2.2.2.1 - 2), rVector s), c.2.2))))
  (.br (!x4 || x2)
   (.br (x4)
    (.br (!x8 || qAtC x9 1)
     (.leaf (some ((c.1, rSet (c.2.1.1, c.2.1.2.1, c.2.1.2.2.1, c.2.1.2.2.2.1, c.2.1.2.2.2.2.1, c.2.1.2.2.2.2.2.1, c.2.1.2.2.2.2.2.2.1, c.2.1.2.2.2.2.2.2.2.1, c.2.1.2.2.2.2.2.2.2.2.1, qBehind x9) x6.1 (bif x8 then qAt x9 1 else qReg x9 x7), c.2.2.1, false, false, c.2.2.2.2.2))))
     (.leaf none))
    (.leaf none))
   (.leaf none))

noncomputable def pFin_2 (c : TC) (s : Int) (g : List Int) (ln : Bool × Bool × Bool × Bool × Bool × Bool × Bool × Bool × Bool) : TC := getO pFinRs.dflt (pFin_2T c s g ln).val

noncomputable def pFin_2C (c : TC) (s : Int) (g : List Int) (ln : Bool × Bool × Bool × Bool × Bool × Bool × Bool × Bool × Bool) : Bool := okB (pFin_2T c s g ln).val

theorem pFin_2_ev (a : HL pFinTs) : evVal (envX Try.prog (pFinL 2) [] 1023 8) Try.f32 pFinTs pFinRs a = pFin_2T a.1 a.2.1 a.2.2.1 a.2.2.2 := by kernel_rfl

noncomputable def pFin_6T (c : TC) (s : Int) (g : List Int) (ln : Bool × Bool × Bool × Bool × Bool × Bool × Bool × Bool × Bool) : RT (Option TC) :=
  let x1 : TC × Bool × List Int × TI × List TY := (c, s == 5, g, (0, 0, 0, 0, 0, 0, 0, 0), [])
  let x2 : Bool := qAtC x1 0
  let x3 : Int × Int × Int × Int × Int × Int × Int × Int := rDecode c.1 (qAt x1 0)
  let x4 : Bool := !x2 || x3.1 == 6
  .br (pInternal s)
  (.leaf (some ((c.1, (c.2.1.1, c.2.1.2.1, c.2.1.2.2.1, c.2.1.2.2.2.1, c.2.1.2.2.2.2.1, c.2.1.2.2.2.2.2.1, c.2.1.2.2.2.2.2.2.1, c.2.1.2.2.2.2.2.2.2.1, IntKind.u16.wrap (c.2.1.2.2.2.2.2.2.2.2.1 - 2), rVector s), c.2.2))))
  (.br (!x4 || x2)
   (.br (x4)
    (.leaf (some ((c.1, (c.2.1.1, c.2.1.2.1, c.2.1.2.2.1, c.2.1.2.2.2.1, c.2.1.2.2.2.2.1, c.2.1.2.2.2.2.2.1, c.2.1.2.2.2.2.2.2.1, c.2.1.2.2.2.2.2.2.2.1, c.2.1.2.2.2.2.2.2.2.2.1, qBehind (c, s == 5, g, (6, x3.2), [])), c.2.2.1, false, false, c.2.2.2.2.2))))
    (.leaf none))
   (.leaf none))

noncomputable def pFin_6 (c : TC) (s : Int) (g : List Int) (ln : Bool × Bool × Bool × Bool × Bool × Bool × Bool × Bool × Bool) : TC := getO pFinRs.dflt (pFin_6T c s g ln).val

noncomputable def pFin_6C (c : TC) (s : Int) (g : List Int) (ln : Bool × Bool × Bool × Bool × Bool × Bool × Bool × Bool × Bool) : Bool := okB (pFin_6T c s g ln).val

theorem pFin_6_ev (a : HL pFinTs) : evVal (envX Try.prog (pFinL 6) [] 1023 8) Try.f32 pFinTs pFinRs a = pFin_6T a.1 a.2.1 a.2.2.1 a.2.2.2 := by kernel_rfl

noncomputable def pFin_10T (c : TC) (s : Int) (g : List Int) (ln : Bool × Bool × Bool × Bool × Bool × Bool × Bool × Bool × Bool) : RT (Option TC) :=
  let x1 : TC × Bool × List Int × TI × List TY := (c, s == 5, g, (0, 0, 0, 0, 0, 0, 0, 0), [])
  let x2 : Bool := qAtC x1 0
  let x3 : Int × Int × Int × Int × Int × Int × Int × Int := rDecode c.1 (qAt x1 0)
  let x4 : Bool := !x2 || x3.1 == 10
  .br (pInternal s)
  (.leaf (some ((c.1, (c.2.1.1, c.2.1.2.1, c.2.1.2.2.1, c.2.1.2.2.2.1, c.2.1.2.2.2.2.1, c.2.1.2.2.2.2.2.1, c.2.1.2.2.2.2.2.2.1, c.2.1.2.2.2.2.2.2.2.1, IntKind.u16.wrap (c.2.1.2.2.2.2.2.2.2.2.1 - 2), rVector s), c.2.2))))
  (.br (!x4 || x2)
   (.br (x4)
    (.leaf (some ((c.1, (c.2.1.1, c.2.1.2.1, c.2.1.2.2.1, c.2.1.2.2.2.1, c.2.1.2.2.2.2.1, c.2.1.2.2.2.2.2.1, c.2.1.2.2.2.2.2.2.1, c.2.1.2.2.2.2.2.2.2.1, c.2.1.2.2.2.2.2.2.2.2.1, qBehind (c, s == 5, g, (10, x3.2), [])), c.2.2.1, false, false, c.2.2.2.2.2))))
    (.leaf none))
   (.leaf none))

noncomputable def pFin_10 (c : TC) (s : Int) (g : List Int) (ln : Bool × Bool × Bool × Bool × Bool × Bool × Bool × Bool × Bool) : TC := getO pFinRs.dflt (pFin_10T c s g ln).val

noncomputable def pFin_10C (c : TC) (s : Int) (g : List Int) (ln : Bool × Bool × Bool × Bool × Bool × Bool × Bool × Bool × Bool) : Bool := okB (pFin_10T c s g ln).val

theorem pFin_10_ev (a : HL pFinTs) : evVal (envX Try.prog (pFinL 10) [] 1023 8) Try.f32 pFinTs pFinRs a = pFin_10T a.1 a.2.1 a.2.2.1 a.2.2.2 := by kernel_rfl

noncomputable def pFin_14T (c : TC) (s : Int) (g : List Int) (ln : Bool × Bool × Bool × Bool × Bool × Bool × Bool × Bool × Bool) : RT (Option TC) :=
  let x1 : TC × Bool × List Int × TI × List TY := (c, s == 5, g, (0, 0, 0, 0, 0, 0, 0, 0), [])
  let x2 : Bool := qAtC x1 0
  let x3 : Int × Int × Int × Int × Int × Int × Int × Int := rDecode c.1 (qAt x1 0)
  let x4 : Bool := !x2 || x3.1 == 14
  let x5 : Int × Int × Int × Int × Int × Int × Int := x3.2
  let x6 : Int := x5.2.1
  let x7 : Bool := x6 == 6
  let x8 : TC × Bool × List Int × TI × List TY := (c, s == 5, g, (14, x5), [])
  let x9 : Int × Bool × Bool × Bool × Bool × Bool × Bool × Bool := rInr c.1 (bif x7 then qAt x8 1 else qReg x8 x6) c.2.1.2.2.2.2.2.2.2.1
  .br (pInternal s)
  (.leaf (some ((c.1, (c.2.1.1, c.2.1.2.1, c.2.1.2.2.1, c.2.1.2.2.2.1, c.2.1.2.2.2.2.1, c.2.1.2.2.2.2.2.1, c.2.1.2.2.2.2.2.2.1, c.2.1.2.2.2.2.2.2.2.1, IntKind.u16.wrap (c.2.1.2.2.2.2.2.2.2.2.1 - 2), rVector s), c.2.2))))
  (.br (!x4 || x2)
   (.br (x4)
    (.br (!x7 || qAtC x8 1)
     (.leaf (some ((c.1, rSet (c.2.1.1, c.2.1.2.1, c.2.1.2.2.1, c.2.1.2.2.2.1, c.2.1.2.2.2.2.1, c.2.1.2.2.2.2.2.1, c.2.1.2.2.2.2.2.2.1, x9.2, c.2.1.2.2.2.2.2.2.2.2.1, qBehind x8) x6 x9.1, c.2.2.1, false, false, c.2.2.2.2.2))))
     (.leaf none))
    (.leaf none))
   (.leaf none))

noncomputable def pFin_14 (c : TC) (s : Int) (g : List Int) (ln : Bool × Bool × Bool × Bool × Bool × Bool × Bool × Bool × Bool) : TC := getO pFinRs.dflt (pFin_14T c s g ln).val

noncomputable def pFin_14C (c : TC) (s : Int) (g : List Int) (ln : Bool × Bool × Bool × Bool × Bool × Bool × Bool × Bool × Bool) : Bool := okB (pFin_14T c s g ln).val

theorem pFin_14_ev (a : HL pFinTs) : evVal (envX Try.prog (pFinL 14) [] 1023 8) Try.f32 pFinTs pFinRs a = pFin_14T a.1 a.2.1 a.2.2.1 a.2.2.2 := by kernel_rfl

noncomputable def pFin_18T (c : TC) (s : Int) (g : List Int) (ln : Bool × Bool × Bool × Bool × Bool × Bool × Bool × Bool × Bool) : RT (Option TC) :=
  let x1 : TC × Bool × List Int × TI × List TY := (c, s == 5, g, (0, 0, 0, 0, 0, 0, 0, 0), [])
  let x2 : Bool := qAtC x1 0
  let x3 : Int × Int × Int × Int × Int × Int × Int × Int := rDecode c.1 (qAt x1 0)
  let x4 : Bool := !x2 || x3.1 == 18
  let x5 : Int × Int × Int × Int × Int × Int × Int := x3.2
  let x6 : TC × Bool × List Int × TI × List TY := (c, s == 5, g, (18, x5), [])
  let x7 : Int × Bool × Bool × Bool × Bool × Bool × Bool × Bool := rDad c.1 (qPair x6 2) (qPair x6 x5.2.2.2.1) c.2.1.2.2.2.2.2.2.2.1
  .br (pInternal s)
  (.leaf (some ((c.1, (c.2.1.1, c.2.1.2.1, c.2.1.2.2.1, c.2.1.2.2.2.1, c.2.1.2.2.2.2.1, c.2.1.2.2.2.2.2.1, c.2.1.2.2.2.2.2.2.1, c.2.1.2.2.2.2.2.2.2.1, IntKind.u16.wrap (c.2.1.2.2.2.2.2.2.2.2.1 - 2), rVector s), c.2.2))))
  (.br (!x4 || x2)
   (.br (x4)
    (.leaf (some ((c.1, rSetPair (c.2.1.1, c.2.1.2.1, c.2.1.2.2.1, c.2.1.2.2.2.1, c.2.1.2.2.2.2.1, c.2.1.2.2.2.2.2.1, c.2.1.2.2.2.2.2.2.1, x7.2, c.2.1.2.2.2.2.2.2.2.2.1, qBehind x6) 2 x7.1, c.2.2.1, false, false, c.2.2.2.2.2))))
    (.leaf none))
   (.leaf none))

noncomputable def pFin_18 (c : TC) (s : Int) (g : List Int) (ln : Bool × Bool × Bool × Bool × Bool × Bool × Bool × Bool × Bool) : TC := getO pFinRs.dflt (pFin_18T c s g ln).val

noncomputable def pFin_18C (c : TC) (s : Int) (g : List Int) (ln : Bool × Bool × Bool × Bool × Bool × Bool × Bool × Bool × Bool) : Bool := okB (pFin_18T c s g ln).val

theorem pFin_18_ev (a : HL pFinTs) : evVal (envX Try.prog (pFinL 18) [] 1023 8) Try.f32 pFinTs pFinRs a = pFin_18T a.1 a.2.1 a.2.2.1 a.2.2.2 := by kernel_rfl

noncomputable def pFin_22T (c : TC) (s : Int) (g : List Int) (ln : Bool × Bool × Bool × Bool × Bool × Bool × Bool × Bool × Bool) : RT (Option TC) :=
  let x1 : TC × Bool × List Int × TI × List TY := (c, s == 5, g, (0, 0, 0, 0, 0, 0, 0, 0), [])
  let x2 : Bool := qAtC x1 0
  let x3 : Int × Int × Int × Int × Int × Int × Int × Int := rDecode c.1 (qAt x1 0)
  let x4 : Bool := !x2 || x3.1 == 22
  let x5 : Bool × Bool × Bool × Bool := c.2.1.2.2.2.2.2.2.2.1.2.2.2
  let x6 : Bool × Bool × Bool := x5.2
  let x7 : Bool × Bool := x6.2
  .br (pInternal s)
  (.leaf (some ((c.1, (c.2.1.1, c.2.1.2.1, c.2.1.2.2.1, c.2.1.2.2.2.1, c.2.1.2.2.2.2.1, c.2.1.2.2.2.2.2.1, c.2.1.2.2.2.2.2.2.1, c.2.1.2.2.2.2.2.2.2.1, IntKind.u16.wrap (c.2.1.2.2.2.2.2.2.2.2.1 - 2), rVector s), c.2.2))))
  (.br (!x4 || x2)
   (.br (x4)
    (.leaf (some ((c.1, (c.2.1.1, c.2.1.2.1, c.2.1.2.2.1, c.2.1.2.2.2.1, c.2.1.2.2.2.2.1, c.2.1.2.2.2.2.2.1, c.2.1.2.2.2.2.2.2.1, (c.2.1.2.2.2.2.2.2.2.1.1, c.2.1.2.2.2.2.2.2.2.1.2.1, c.2.1.2.2.2.2.2.2.2.1.2.2.1, x5.1, x6.1, x7.1, !x7.2), c.2.1.2.2.2.2.2.2.2.2.1, qBehind (c, s == 5, g, (22, x3.2), [])), c.2.2.1, false, false, c.2.2.2.2.2))))
    (.leaf none))
   (.leaf none))

noncomputable def pFin_22 (c : TC) (s : Int) (g : List Int) (ln : Bool × Bool × Bool × Bool × Bool × Bool × Bool × Bool × Bool) : TC := getO pFinRs.dflt (pFin_22T c s g ln).val

noncomputable def pFin_22C (c : TC) (s : Int) (g : List Int) (ln : Bool × Bool × Bool × Bool × Bool × Bool × Bool × Bool × Bool) : Bool := okB (pFin_22T c s g ln).val

theorem pFin_22_ev (a : HL pFinTs) : evVal (envX Try.prog (pFinL 22) [] 1023 8) Try.f32 pFinTs pFinRs a = pFin_22T a.1 a.2.1 a.2.2.1 a.2.2.2 := by kernel_rfl

noncomputable def pFin_26T (c : TC) (s : Int) (g : List Int) (ln : Bool × Bool × Bool × Bool × Bool × Bool × Bool × Bool × Bool) : RT (Option TC) :=
  let x1 : TC × Bool × List Int × TI × List TY := (c, s == 5, g, (0, 0, 0, 0, 0, 0, 0, 0), [])
  let x2 : Bool := qAtC x1 0
  let x3 : Int × Int × Int × Int × Int × Int × Int × Int := rDecode c.1 (qAt x1 0)
  let x4 : Bool := !x2 || x3.1 == 26
  let x5 : TC × Bool × List Int × TI × List TY := (c, s == 5, g, (26, x3.2), [])
  let x6 : Bool := qTaken x5
  .br (pInternal s)
  (.leaf (some ((c.1, (c.2.1.1, c.2.1.2.1, c.2.1.2.2.1, c.2.1.2.2.2.1, c.2.1.2.2.2.2.1, c.2.1.2.2.2.2.2.1, c.2.1.2.2.2.2.2.2.1, c.2.1.2.2.2.2.2.2.2.1, IntKind.u16.wrap (c.2.1.2.2.2.2.2.2.2.2.1 - 2), rVector s), c.2.2))))
  (.br (!x4 || x2)
   (.br (x4)
    (.br (!x6 || qJoinC x5 1)
     (.leaf (some ((c.1, (c.2.1.1, c.2.1.2.1, c.2.1.2.2.1, c.2.1.2.2.2.1, c.2.1.2.2.2.2.1, c.2.1.2.2.2.2.2.1, c.2.1.2.2.2.2.2.2.1, c.2.1.2.2.2.2.2.2.2.1, bif x6 then IntKind.u16.wrap (c.2.1.2.2.2.2.2.2.2.2.1 + 2) else c.2.1.2.2.2.2.2.2.2.2.1, bif x6 then qJoin x5 1 else qBehind x5), c.2.2.1, false, false, c.2.2.2.2.2))))
     (.leaf none))
    (.leaf none))
   (.leaf none))

noncomputable def pFin_26 (c : TC) (s : Int) (g : List Int) (ln : Bool × Bool × Bool × Bool × Bool × Bool × Bool × Bool × Bool) : TC := getO pFinRs.dflt (pFin_26T c s g ln).val

noncomputable def pFin_26C (c : TC) (s : Int) (g : List Int) (ln : Bool × Bool × Bool × Bool × Bool × Bool × Bool × Bool × Bool) : Bool := okB (pFin_26T c s g ln).val

theorem pFin_26_ev (a : HL pFinTs) : evVal (envX Try.prog (pFinL 26) [] 1023 8) Try.f32 pFinTs pFinRs a = pFin_26T a.1 a.2.1 a.2.2.1 a.2.2.2 := by kernel_rfl

noncomputable def pFin_30T (c : TC) (s : Int) (g : List Int) (ln : Bool × Bool × Bool × Bool × Bool × Bool × Bool × Bool × Bool) : RT (Option TC) :=
  let x1 : Int := IntKind.u16.wrap (c.2.1.2.2.2.2.2.2.2.2.1 - 2)
  let x2 : TC × Bool × List Int × TI × List TY := (c, s == 5, g, (0, 0, 0, 0, 0, 0, 0, 0), [])
  let x3 : Bool := qAtC x2 0
  let x4 : Int × Int × Int × Int × Int × Int × Int × Int := rDecode c.1 (qAt x2 0)
  let x5 : Bool := !x3 || x4.1 == 30
  .br (pInternal s)
  (.leaf (some ((c.1, (c.2.1.1, c.2.1.2.1, c.2.1.2.2.1, c.2.1.2.2.2.1, c.2.1.2.2.2.2.1, c.2.1.2.2.2.2.2.1, c.2.1.2.2.2.2.2.2.1, c.2.1.2.2.2.2.2.2.2.1, x1, rVector s), c.2.2))))
  (.br (!x5 || x3)
   (.br (x5)
    (.leaf (some ((c.1, (c.2.1.1, c.2.1.2.1, c.2.1.2.2.1, c.2.1.2.2.2.1, c.2.1.2.2.2.2.1, c.2.1.2.2.2.2.2.1, c.2.1.2.2.2.2.2.2.1, c.2.1.2.2.2.2.2.2.2.1, x1, qBehind (c, s == 5, g, (30, x4.2), [])), c.2.2.1, false, false, c.2.2.2.2.2))))
    (.leaf none))
   (.leaf none))

noncomputable def pFin_30 (c : TC) (s : Int) (g : List Int) (ln : Bool × Bool × Bool × Bool × Bool × Bool × Bool × Bool × Bool) : TC := getO pFinRs.dflt (pFin_30T c s g ln).val

noncomputable def pFin_30C (c : TC) (s : Int) (g : List Int) (ln : Bool × Bool × Bool × Bool × Bool × Bool × Bool × Bool × Bool) : Bool := okB (pFin_30T c s g ln).val

theorem pFin_30_ev (a : HL pFinTs) : evVal (envX Try.prog (pFinL 30) [] 1023 8) Try.f32 pFinTs pFinRs a = pFin_30T a.1 a.2.1 a.2.2.1 a.2.2.2 := by kernel_rfl

noncomputable def pFin_34T (c : TC) (s : Int) (g : List Int) (ln : Bool × Bool × Bool × Bool × Bool × Bool × Bool × Bool × Bool) : RT (Option TC) :=
  let x1 : TC × Bool × List Int × TI × List TY := (c, s == 5, g, (0, 0, 0, 0, 0, 0, 0, 0), [])
  let x2 : Bool := qAtC x1 0
  let x3 : Int × Int × Int × Int × Int × Int × Int × Int := rDecode c.1 (qAt x1 0)
  let x4 : Bool := !x2 || x3.1 == 34
  .br (pInternal s)
  (.leaf (some ((c.1, (c.2.1.1, c.2.1.2.1, c.2.1.2.2.1, c.2.1.2.2.2.1, c.2.1.2.2.2.2.1, c.2.1.2.2.2.2.2.1, c.2.1.2.2.2.2.2.2.1, c.2.1.2.2.2.2.2.2.2.1, IntKind.u16.wrap (c.2.1.2.2.2.2.2.2.2.2.1 - 2), rVector s), c.2.2))))
  (.br (!x4 || x2)
   (.br (x4)
    (.leaf (some ((c.1, (c.2.1.1, c.2.1.2.1, c.2.1.2.2.1, c.2.1.2.2.2.1, c.2.1.2.2.2.2.1, c.2.1.2.2.2.2.2.1, c.2.1.2.2.2.2.2.2.1, c.2.1.2.2.2.2.2.2.2.1, c.2.1.2.2.2.2.2.2.2.2.1, qBehind (c, s == 5, g, (34, x3.2), [])), c.2.2.1, false, false, c.2.2.2.2.2))))
    (.leaf none))
   (.leaf none))

noncomputable def pFin_34 (c : TC) (s : Int) (g : List Int) (ln : Bool × Bool × Bool × Bool × Bool × Bool × Bool × Bool × Bool) : TC := getO pFinRs.dflt (pFin_34T c s g ln).val

noncomputable def pFin_34C (c : TC) (s : Int) (g : List Int) (ln : Bool × Bool × Bool × Bool × Bool × Bool × Bool × Bool × Bool) : Bool := okB (pFin_34T c s g ln).val

theorem pFin_34_ev (a : HL pFinTs) : evVal (envX Try.prog (pFinL 34) [] 1023 8) Try.f32 pFinTs pFinRs a = pFin_34T a.1 a.2.1 a.2.2.1 a.2.2.2 := by kernel_rfl

noncomputable def pFin_38T (c : TC) (s : Int) (g : List Int) (ln : Bool × Bool × Bool × Bool × Bool × Bool × Bool × Bool × Bool) : RT (Option TC) :=
  let x1 : TC × Bool × List Int × TI × List TY := (c, s == 5, g, (0, 0, 0, 0, 0, 0, 0, 0), [])
  let x2 : Bool := qAtC x1 0
  let x3 : Int × Int × Int × Int × Int × Int × Int × Int := rDecode c.1 (qAt x1 0)
  let x4 : Bool := !x2 || x3.1 == 38
  let x5 : Int × TC := rRim (c.1, (c.2.1.1, c.2.1.2.1, c.2.1.2.2.1, c.2.1.2.2.2.1, c.2.1.2.2.2.2.1, c.2.1.2.2.2.2.2.1, c.2.1.2.2.2.2.2.2.1, c.2.1.2.2.2.2.2.2.2.1, c.2.1.2.2.2.2.2.2.2.2.1, qBehind (c, s == 5, g, (38, x3.2), [])), c.2.2.1, 38 == 35, 38 == 37, c.2.2.2.2.2) ln
  let x6 : TC := x5.2
  let x7 : TR × Bool × Bool × Bool × Int × Bool × Bool × Bool × Bool × Bool × Bool × Bool := x6.2
  let x8 : Bool × Bool × Bool × Int × Bool × Bool × Bool × Bool × Bool × Bool × Bool := x7.2
  let x9 : Int × Bool × Bool × Bool × Bool × Bool × Bool × Bool := x8.2.2.2
  let x10 : TF := x9.2
  let x11 : Bool × Bool × Bool × Bool × Bool × Bool := x10.2
  let x12 : Bool × Bool × Bool × Bool × Bool := x11.2
  let x13 : Bool × Bool × Bool × Bool := x12.2
  .br (pInternal s)
  (.leaf (some ((c.1, (c.2.1.1, c.2.1.2.1, c.2.1.2.2.1, c.2.1.2.2.2.1, c.2.1.2.2.2.2.1, c.2.1.2.2.2.2.2.1, c.2.1.2.2.2.2.2.2.1, c.2.1.2.2.2.2.2.2.2.1, IntKind.u16.wrap (c.2.1.2.2.2.2.2.2.2.2.1 - 2), rVector s), c.2.2))))
  (.br (!x4 || x2)
   (.br (x4)
    (.leaf (some ((x6.1, (x5.1, x7.1.2), x8.1, false, false, x9.1, x10.1, x11.1, x12.1, x13.1, false, false, x13.2.2.2))))
    (.leaf none))
   (.leaf none))

noncomputable def pFin_38 (c : TC) (s : Int) (g : List Int) (ln : Bool × Bool × Bool × Bool × Bool × Bool × Bool × Bool × Bool) : TC := getO pFinRs.dflt (pFin_38T c s g ln).val

noncomputable def pFin_38C (c : TC) (s : Int) (g : List Int) (ln : Bool × Bool × Bool × Bool × Bool × Bool × Bool × Bool × Bool) : Bool := okB (pFin_38T c s g ln).val

theorem pFin_38_ev (a : HL pFinTs) : evVal (envX Try.prog (pFinL 38) [] 1023 8) Try.f32 pFinTs pFinRs a = pFin_38T a.1 a.2.1 a.2.2.1 a.2.2.2 := by kernel_rfl

noncomputable def pFin_42T (c : TC) (s : Int) (g : List Int) (ln : Bool × Bool × Bool × Bool × Bool × Bool × Bool × Bool × Bool) : RT (Option TC) :=
  let x1 : TC × Bool × List Int × TI × List TY := (c, s == 5, g, (0, 0, 0, 0, 0, 0, 0, 0), [])
  let x2 : Bool := qAtC x1 0
  let x3 : Int × Int × Int × Int × Int × Int × Int × Int := rDecode c.1 (qAt x1 0)
  let x4 : Bool := !x2 || x3.1 == 42
  let x5 : Bool × Bool × Bool × Bool := c.2.1.2.2.2.2.2.2.2.1.2.2.2
  let x6 : Bool × Bool × Bool := x5.2
  let x7 : TC × Bool × List Int × TI × List TY := (c, s == 5, g, (42, x3.2), [])
  let x8 : Int × Bool × Bool := rRdel (qPair x7 1) x6.2.2
  let x9 : Bool × Bool := x8.2
  .br (pInternal s)
  (.leaf (some ((c.1, (c.2.1.1, c.2.1.2.1, c.2.1.2.2.1, c.2.1.2.2.2.1, c.2.1.2.2.2.2.1, c.2.1.2.2.2.2.2.1, c.2.1.2.2.2.2.2.2.1, c.2.1.2.2.2.2.2.2.2.1, IntKind.u16.wrap (c.2.1.2.2.2.2.2.2.2.2.1 - 2), rVector s), c.2.2))))
  (.br (!x4 || x2)
   (.br (x4)
    (.leaf (some ((c.1, rSetPair (c.2.1.1, c.2.1.2.1, c.2.1.2.2.1, c.2.1.2.2.2.1, c.2.1.2.2.2.2.1, c.2.1.2.2.2.2.2.1, c.2.1.2.2.2.2.2.2.1, (c.2.1.2.2.2.2.2.2.2.1.1, c.2.1.2.2.2.2.2.2.2.1.2.1, c.2.1.2.2.2.2.2.2.2.1.2.2.1, x5.1, x6.1, x9.2, x9.1), c.2.1.2.2.2.2.2.2.2.2.1, qBehind x7) 1 x8.1, c.2.2.1, false, false, c.2.2.2.2.2))))
    (.leaf none))
   (.leaf none))

noncomputable def pFin_42 (c : TC) (s : Int) (g : List Int) (ln : Bool × Bool × Bool × Bool × Bool × Bool × Bool × Bool × Bool) : TC := getO pFinRs.dflt (pFin_42T c s g ln).val

noncomputable def pFin_42C (c : TC) (s : Int) (g : List Int) (ln : Bool × Bool × Bool × Bool × Bool × Bool × Bool × Bool × Bool) : Bool := okB (pFin_42T c s g ln).val

theorem pFin_42_ev (a : HL pFinTs) : evVal (envX Try.prog (pFinL 42) [] 1023 8) Try.f32 pFinTs pFinRs a = pFin_42T a.1 a.2.1 a.2.2.1 a.2.2.2 := by kernel_rfl

noncomputable def pFin_46T (c : TC) (s : Int) (g : List Int) (ln : Bool × Bool × Bool × Bool × Bool × Bool × Bool × Bool × Bool) : RT (Option TC) :=
  let x1 : TC × Bool × List Int × TI × List TY := (c, s == 5, g, (0, 0, 0, 0, 0, 0, 0, 0), [])
  let x2 : Bool := qAtC x1 0
  let x3 : Int × Int × Int × Int × Int × Int × Int × Int := rDecode c.1 (qAt x1 0)
  let x4 : Bool := !x2 || x3.1 == 46
  .br (pInternal s)
  (.leaf (some ((c.1, (c.2.1.1, c.2.1.2.1, c.2.1.2.2.1, c.2.1.2.2.2.1, c.2.1.2.2.2.2.1, c.2.1.2.2.2.2.2.1, c.2.1.2.2.2.2.2.2.1, c.2.1.2.2.2.2.2.2.2.1, IntKind.u16.wrap (c.2.1.2.2.2.2.2.2.2.2.1 - 2), rVector s), c.2.2))))
  (.br (!x4 || x2)
   (.br (x4)
    (.leaf (some ((c.1, (c.2.1.1, c.2.1.2.1, c.2.1.2.2.1, c.2.1.2.2.2.1, c.2.1.2.2.2.2.1, c.2.1.2.2.2.2.2.1, c.2.1.2.2.2.2.2.2.1, c.2.1.2.2.2.2.2.2.2.1, c.2.1.2.2.2.2.2.2.2.2.1, qBehind (c, s == 5, g, (46, x3.2), [])), c.2.2.1, false, false, c.2.2.2.2.2))))
    (.leaf none))
   (.leaf none))

noncomputable def pFin_46 (c : TC) (s : Int) (g : List Int) (ln : Bool × Bool × Bool × Bool × Bool × Bool × Bool × Bool × Bool) : TC := getO pFinRs.dflt (pFin_46T c s g ln).val

noncomputable def pFin_46C (c : TC) (s : Int) (g : List Int) (ln : Bool × Bool × Bool × Bool × Bool × Bool × Bool × Bool × Bool) : Bool := okB (pFin_46T c s g ln).val

theorem pFin_46_ev (a : HL pFinTs) : evVal (envX Try.prog (pFinL 46) [] 1023 8) Try.f32 pFinTs pFinRs a = pFin_46T a.1 a.2.1 a.2.2.1 a.2.2.2 := by kernel_rfl
end
end Go.Proofs.Ytiflfdlglncjlaa
