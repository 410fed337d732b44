/-
  Contracts of functions; each found by the symbolic executor and checked by the kernel. Conditions: none.
-/
import Derived.Test.YteboknglfjadoaaGreatS3D
import Derived.Test.YteboknglfjadoaaGreatProg
import Derived.Test.YteboknglfjadoaaGreatFin0
set_option linter.unusedSimpArgs false
open Go Go.S3 Go.Proofs
set_option linter.unusedVariables false
set_option maxRecDepth 100000
namespace Go.Proofs.YteboknglfjadoaaGreat
noncomputable section
noncomputable def pFin_2T (c : TC) (s : Int) (g : List Int) (ln : Bool × Bool × Bool × Bool × Bool × Bool × Bool × Bool × Bool) : RT (Option TC) :=
  let x1 : TC × Bool × List Int × TI × List TY := (c, s == 5, g, (0, 0, 0, 0, 0, 0, 0, 0), [])
  let x2 : Bool := qAtC x1 0
  let x3 : Int × Int × Int × Int × Int × Int × Int × Int := rDecode c.1 (qAt x1 0)
  let x4 : Bool := !x2 || x3.1 == 2
  let x5 : Int × Int × Int × Int × Int × Int × Int := x3.2
  let x6 : Int × Int × Int × Int × Int × Int := x5.2
  let x7 : Int := x6.2.1
  let x8 : Bool := x7 == 6
  let x9 : TC × Bool × List Int × TI × List TY := (c, s == 5, g, (2, x5), [])
  .br (pInternal s)
  (.leaf (some ((c.1, (rgx c.2.1 c.2.1.2.2.2.2.2.2.2.1 (IntKind.u16.wrap ((spOf c) - 2)) (rVector s)), c.2.2))))
  (.br (!x4 || x2)
   (.br (x4)
    (.br (!x8 || qAtC x9 1)
     (.leaf (some ((c.1, rSet (rgx c.2.1 c.2.1.2.2.2.2.2.2.2.1 (spOf c) (qBehind x9)) x6.1 (bif x8 then qAt x9 1 else qReg x9 x7), c.2.2.1, false, false, c.2.2.2.2.2))))
     (.leaf none))
    (.leaf none))
   (.leaf none))

noncomputable def pFin_2 (c : TC) (s : Int) (g : List Int) (ln : Bool × Bool × Bool × Bool × Bool × Bool × Bool × Bool × Bool) : TC := getO pFinRs.dflt (pFin_2T c s g ln).val

noncomputable def pFin_2C (c : TC) (s : Int) (g : List Int) (ln : Bool × Bool × Bool × Bool × Bool × Bool × Bool × Bool × Bool) : Bool := okB (pFin_2T c s g ln).val

theorem pFin_2_ev (a : HL pFinTs) : evVal (envX Tryz.prog (pFinL 2) [] 1023 8) Tryz.f165 pFinTs pFinRs a = pFin_2T a.1 a.2.1 a.2.2.1 a.2.2.2 := by kernel_rfl

noncomputable def pFin_6T (c : TC) (s : Int) (g : List Int) (ln : Bool × Bool × Bool × Bool × Bool × Bool × Bool × Bool × Bool) : RT (Option TC) :=
  let x1 : TC × Bool × List Int × TI × List TY := (c, s == 5, g, (0, 0, 0, 0, 0, 0, 0, 0), [])
  let x2 : Bool := qAtC x1 0
  let x3 : Int × Int × Int × Int × Int × Int × Int × Int := rDecode c.1 (qAt x1 0)
  let x4 : Bool := !x2 || x3.1 == 6
  .br (pInternal s)
  (.leaf (some ((c.1, (rgx c.2.1 c.2.1.2.2.2.2.2.2.2.1 (IntKind.u16.wrap ((spOf c) - 2)) (rVector s)), c.2.2))))
  (.br (!x4 || x2)
   (.br (x4)
    (.leaf (some ((c.1, (rgx c.2.1 c.2.1.2.2.2.2.2.2.2.1 (spOf c) (qBehind (c, s == 5, g, (6, x3.2), []))), c.2.2.1, false, false, c.2.2.2.2.2))))
    (.leaf none))
   (.leaf none))

noncomputable def pFin_6 (c : TC) (s : Int) (g : List Int) (ln : Bool × Bool × Bool × Bool × Bool × Bool × Bool × Bool × Bool) : TC := getO pFinRs.dflt (pFin_6T c s g ln).val

noncomputable def pFin_6C (c : TC) (s : Int) (g : List Int) (ln : Bool × Bool × Bool × Bool × Bool × Bool × Bool × Bool × Bool) : Bool := okB (pFin_6T c s g ln).val

theorem pFin_6_ev (a : HL pFinTs) : evVal (envX Tryz.prog (pFinL 6) [] 1023 8) Tryz.f165 pFinTs pFinRs a = pFin_6T a.1 a.2.1 a.2.2.1 a.2.2.2 := by kernel_rfl

noncomputable def pFin_10T (c : TC) (s : Int) (g : List Int) (ln : Bool × Bool × Bool × Bool × Bool × Bool × Bool × Bool × Bool) : RT (Option TC) :=
  let x1 : TC × Bool × List Int × TI × List TY := (c, s == 5, g, (0, 0, 0, 0, 0, 0, 0, 0), [])
  let x2 : Bool := qAtC x1 0
  let x3 : Int × Int × Int × Int × Int × Int × Int × Int := rDecode c.1 (qAt x1 0)
  let x4 : Bool := !x2 || x3.1 == 10
  .br (pInternal s)
  (.leaf (some ((c.1, (rgx c.2.1 c.2.1.2.2.2.2.2.2.2.1 (IntKind.u16.wrap ((spOf c) - 2)) (rVector s)), c.2.2))))
  (.br (!x4 || x2)
   (.br (x4)
    (.leaf (some ((c.1, (rgx c.2.1 c.2.1.2.2.2.2.2.2.2.1 (spOf c) (qBehind (c, s == 5, g, (10, x3.2), []))), c.2.2.1, false, false, c.2.2.2.2.2))))
    (.leaf none))
   (.leaf none))

noncomputable def pFin_10 (c : TC) (s : Int) (g : List Int) (ln : Bool × Bool × Bool × Bool × Bool × Bool × Bool × Bool × Bool) : TC := getO pFinRs.dflt (pFin_10T c s g ln).val

noncomputable def pFin_10C (c : TC) (s : Int) (g : List Int) (ln : Bool × Bool × Bool × Bool × Bool × Bool × Bool × Bool × Bool) : Bool := okB (pFin_10T c s g ln).val

theorem pFin_10_ev (a : HL pFinTs) : evVal (envX Tryz.prog (pFinL 10) [] 1023 8) Tryz.f165 pFinTs pFinRs a = pFin_10T a.1 a.2.1 a.2.2.1 a.2.2.2 := by kernel_rfl

noncomputable def pFin_14T (c : TC) (s : Int) (g : List Int) (ln : Bool × Bool × Bool × Bool × Bool × Bool × Bool × Bool × Bool) : RT (Option TC) :=
  let x1 : TC × Bool × List Int × TI × List TY := (c, s == 5, g, (0, 0, 0, 0, 0, 0, 0, 0), [])
  let x2 : Bool := qAtC x1 0
  let x3 : Int × Int × Int × Int × Int × Int × Int × Int := rDecode c.1 (qAt x1 0)
  let x4 : Bool := !x2 || x3.1 == 14
  let x5 : Int × Int × Int × Int × Int × Int × Int := x3.2
  let x6 : Int := x5.2.1
  let x7 : Bool := x6 == 6
  let x8 : TC × Bool × List Int × TI × List TY := (c, s == 5, g, (14, x5), [])
  let x9 : Int × Bool × Bool × Bool × Bool × Bool × Bool × Bool := rInr c.1 (bif x7 then qAt x8 1 else qReg x8 x6) c.2.1.2.2.2.2.2.2.2.1
  .br (pInternal s)
  (.leaf (some ((c.1, (rgx c.2.1 c.2.1.2.2.2.2.2.2.2.1 (IntKind.u16.wrap ((spOf c) - 2)) (rVector s)), c.2.2))))
  (.br (!x4 || x2)
   (.br (x4)
    (.br (!x7 || qAtC x8 1)
     (.leaf (some ((c.1, rSet (rgx c.2.1 x9.2 (spOf c) (qBehind x8)) x6 x9.1, c.2.2.1, false, false, c.2.2.2.2.2))))
     (.leaf none))
    (.leaf none))
   (.leaf none))

noncomputable def pFin_14 (c : TC) (s : Int) (g : List Int) (ln : Bool × Bool × Bool × Bool × Bool × Bool × Bool × Bool × Bool) : TC := getO pFinRs.dflt (pFin_14T c s g ln).val

noncomputable def pFin_14C (c : TC) (s : Int) (g : List Int) (ln : Bool × Bool × Bool × Bool × Bool × Bool × Bool × Bool × Bool) : Bool := okB (pFin_14T c s g ln).val

theorem pFin_14_ev (a : HL pFinTs) : evVal (envX Tryz.prog (pFinL 14) [] 1023 8) Tryz.f165 pFinTs pFinRs a = pFin_14T a.1 a.2.1 a.2.2.1 a.2.2.2 := by kernel_rfl

noncomputable def pFin_18T (c : TC) (s : Int) (g : List Int) (ln : Bool × Bool × Bool × Bool × Bool × Bool × Bool × Bool × Bool) : RT (Option TC) :=
  let x1 : TC × Bool × List Int × TI × List TY := (c, s == 5, g, (0, 0, 0, 0, 0, 0, 0, 0), [])
  let x2 : Bool := qAtC x1 0
  let x3 : Int × Int × Int × Int × Int × Int × Int × Int := rDecode c.1 (qAt x1 0)
  let x4 : Bool := !x2 || x3.1 == 18
  let x5 : Int × Int × Int × Int × Int × Int × Int := x3.2
  let x6 : TC × Bool × List Int × TI × List TY := (c, s == 5, g, (18, x5), [])
  let x7 : Int × Bool × Bool × Bool × Bool × Bool × Bool × Bool := rDad c.1 (qPair x6 2) (qPair x6 x5.2.2.2.1) c.2.1.2.2.2.2.2.2.2.1
  .br (pInternal s)
  (.leaf (some ((c.1, (rgx c.2.1 c.2.1.2.2.2.2.2.2.2.1 (IntKind.u16.wrap ((spOf c) - 2)) (rVector s)), c.2.2))))
  (.br (!x4 || x2)
   (.br (x4)
    (.leaf (some ((c.1, rSetPair (rgx c.2.1 x7.2 (spOf c) (qBehind x6)) 2 x7.1, c.2.2.1, false, false, c.2.2.2.2.2))))
    (.leaf none))
   (.leaf none))

noncomputable def pFin_18 (c : TC) (s : Int) (g : List Int) (ln : Bool × Bool × Bool × Bool × Bool × Bool × Bool × Bool × Bool) : TC := getO pFinRs.dflt (pFin_18T c s g ln).val

noncomputable def pFin_18C (c : TC) (s : Int) (g : List Int) (ln : Bool × Bool × Bool × Bool × Bool × Bool × Bool × Bool × Bool) : Bool := okB (pFin_18T c s g ln).val

theorem pFin_18_ev (a : HL pFinTs) : evVal (envX Tryz.prog (pFinL 18) [] 1023 8) Tryz.f165 pFinTs pFinRs a = pFin_18T a.1 a.2.1 a.2.2.1 a.2.2.2 := by kernel_rfl

noncomputable def pFin_22T (c : TC) (s : Int) (g : List Int) (ln : Bool × Bool × Bool × Bool × Bool × Bool × Bool × Bool × Bool) : RT (Option TC) :=
  let x1 : TC × Bool × List Int × TI × List TY := (c, s == 5, g, (0, 0, 0, 0, 0, 0, 0, 0), [])
  let x2 : Bool := qAtC x1 0
  let x3 : Int × Int × Int × Int × Int × Int × Int × Int := rDecode c.1 (qAt x1 0)
  let x4 : Bool := !x2 || x3.1 == 22
  let x5 : Bool × Bool × Bool × Bool := c.2.1.2.2.2.2.2.2.2.1.2.2.2
  let x6 : Bool × Bool × Bool := x5.2
  let x7 : Bool × Bool := x6.2
  .br (pInternal s)
  (.leaf (some ((c.1, (rgx c.2.1 c.2.1.2.2.2.2.2.2.2.1 (IntKind.u16.wrap ((spOf c) - 2)) (rVector s)), c.2.2))))
  (.br (!x4 || x2)
   (.br (x4)
    (.leaf (some ((c.1, (rgx c.2.1 ((c.2.1.2.2.2.2.2.2.2.1.1, c.2.1.2.2.2.2.2.2.2.1.2.1, c.2.1.2.2.2.2.2.2.2.1.2.2.1, x5.1, x6.1, x7.1, !x7.2)) (spOf c) (qBehind (c, s == 5, g, (22, x3.2), []))), c.2.2.1, false, false, c.2.2.2.2.2))))
    (.leaf none))
   (.leaf none))

noncomputable def pFin_22 (c : TC) (s : Int) (g : List Int) (ln : Bool × Bool × Bool × Bool × Bool × Bool × Bool × Bool × Bool) : TC := getO pFinRs.dflt (pFin_22T c s g ln).val

noncomputable def pFin_22C (c : TC) (s : Int) (g : List Int) (ln : Bool × Bool × Bool × Bool × Bool × Bool × Bool × Bool × Bool) : Bool := okB (pFin_22T c s g ln).val

theorem pFin_22_ev (a : HL pFinTs) : evVal (envX Tryz.prog (pFinL 22) [] 1023 8) Tryz.f165 pFinTs pFinRs a = pFin_22T a.1 a.2.1 a.2.2.1 a.2.2.2 := by kernel_rfl

noncomputable def pFin_26T (c : TC) (s : Int) (g : List Int) (ln : Bool × Bool × Bool × Bool × Bool × Bool × Bool × Bool × Bool) : RT (Option TC) :=
  let x1 : TC × Bool × List Int × TI × List TY := (c, s == 5, g, (0, 0, 0, 0, 0, 0, 0, 0), [])
  let x2 : Bool := qAtC x1 0
  let x3 : Int × Int × Int × Int × Int × Int × Int × Int := rDecode c.1 (qAt x1 0)
  let x4 : Bool := !x2 || x3.1 == 26
  let x5 : TC × Bool × List Int × TI × List TY := (c, s == 5, g, (26, x3.2), [])
  let x6 : Bool := qTaken x5
  .br (pInternal s)
  (.leaf (some ((c.1, (rgx c.2.1 c.2.1.2.2.2.2.2.2.2.1 (IntKind.u16.wrap ((spOf c) - 2)) (rVector s)), c.2.2))))
  (.br (!x4 || x2)
   (.br (x4)
    (.br (!x6 || qJoinC x5 1)
     (.leaf (some ((c.1, (rgx c.2.1 c.2.1.2.2.2.2.2.2.2.1 (bif x6 then IntKind.u16.wrap ((spOf c) + 2) else (spOf c)) (bif x6 then qJoin x5 1 else qBehind x5)), c.2.2.1, false, false, c.2.2.2.2.2))))
     (.leaf none))
    (.leaf none))
   (.leaf none))

noncomputable def pFin_26 (c : TC) (s : Int) (g : List Int) (ln : Bool × Bool × Bool × Bool × Bool × Bool × Bool × Bool × Bool) : TC := getO pFinRs.dflt (pFin_26T c s g ln).val

noncomputable def pFin_26C (c : TC) (s : Int) (g : List Int) (ln : Bool × Bool × Bool × Bool × Bool × Bool × Bool × Bool × Bool) : Bool := okB (pFin_26T c s g ln).val

theorem pFin_26_ev (a : HL pFinTs) : evVal (envX Tryz.prog (pFinL 26) [] 1023 8) Tryz.f165 pFinTs pFinRs a = pFin_26T a.1 a.2.1 a.2.2.1 a.2.2.2 := by kernel_rfl

noncomputable def pFin_30T (c : TC) (s : Int) (g : List Int) (ln : Bool × Bool × Bool × Bool × Bool × Bool × Bool × Bool × Bool) : RT (Option TC) :=
  let x1 : Int := IntKind.u16.wrap ((spOf c) - 2)
  let x2 : TC × Bool × List Int × TI × List TY := (c, s == 5, g, (0, 0, 0, 0, 0, 0, 0, 0), [])
  let x3 : Bool := qAtC x2 0
  let x4 : Int × Int × Int × Int × Int × Int × Int × Int := rDecode c.1 (qAt x2 0)
  let x5 : Bool := !x3 || x4.1 == 30
  .br (pInternal s)
  (.leaf (some ((c.1, (rgx c.2.1 c.2.1.2.2.2.2.2.2.2.1 x1 (rVector s)), c.2.2))))
  (.br (!x5 || x3)
   (.br (x5)
    (.leaf (some ((c.1, (rgx c.2.1 c.2.1.2.2.2.2.2.2.2.1 x1 (qBehind (c, s == 5, g, (30, x4.2), []))), c.2.2.1, false, false, c.2.2.2.2.2))))
    (.leaf none))
   (.leaf none))

noncomputable def pFin_30 (c : TC) (s : Int) (g : List Int) (ln : Bool × Bool × Bool × Bool × Bool × Bool × Bool × Bool × Bool) : TC := getO pFinRs.dflt (pFin_30T c s g ln).val

noncomputable def pFin_30C (c : TC) (s : Int) (g : List Int) (ln : Bool × Bool × Bool × Bool × Bool × Bool × Bool × Bool × Bool) : Bool := okB (pFin_30T c s g ln).val

theorem pFin_30_ev (a : HL pFinTs) : evVal (envX Tryz.prog (pFinL 30) [] 1023 8) Tryz.f165 pFinTs pFinRs a = pFin_30T a.1 a.2.1 a.2.2.1 a.2.2.2 := by kernel_rfl

noncomputable def pFin_34T (c : TC) (s : Int) (g : List Int) (ln : Bool × Bool × Bool × Bool × Bool × Bool × Bool × Bool × Bool) : RT (Option TC) :=
  let x1 : TC × Bool × List Int × TI × List TY := (c, s == 5, g, (0, 0, 0, 0, 0, 0, 0, 0), [])
  let x2 : Bool := qAtC x1 0
  let x3 : Int × Int × Int × Int × Int × Int × Int × Int := rDecode c.1 (qAt x1 0)
  let x4 : Bool := !x2 || x3.1 == 34
  .br (pInternal s)
  (.leaf (some ((c.1, (rgx c.2.1 c.2.1.2.2.2.2.2.2.2.1 (IntKind.u16.wrap ((spOf c) - 2)) (rVector s)), c.2.2))))
  (.br (!x4 || x2)
   (.br (x4)
    (.leaf (some ((c.1, (rgx c.2.1 c.2.1.2.2.2.2.2.2.2.1 (spOf c) (qBehind (c, s == 5, g, (34, x3.2), []))), c.2.2.1, false, false, c.2.2.2.2.2))))
    (.leaf none))
   (.leaf none))

noncomputable def pFin_34 (c : TC) (s : Int) (g : List Int) (ln : Bool × Bool × Bool × Bool × Bool × Bool × Bool × Bool × Bool) : TC := getO pFinRs.dflt (pFin_34T c s g ln).val

noncomputable def pFin_34C (c : TC) (s : Int) (g : List Int) (ln : Bool × Bool × Bool × Bool × Bool × Bool × Bool × Bool × Bool) : Bool := okB (pFin_34T c s g ln).val

theorem pFin_34_ev (a : HL pFinTs) : evVal (envX Tryz.prog (pFinL 34) [] 1023 8) Tryz.f165 pFinTs pFinRs a = pFin_34T a.1 a.2.1 a.2.2.1 a.2.2.2 := by kernel_rfl

noncomputable def pFin_38T (c : TC) (s : Int) (g : List Int) (ln : Bool × Bool × Bool × Bool × Bool × Bool × Bool × Bool × Bool) : RT (Option TC) :=
  let x1 : TC × Bool × List Int × TI × List TY := (c, s == 5, g, (0, 0, 0, 0, 0, 0, 0, 0), [])
  let x2 : Bool := qAtC x1 0
  let x3 : Int × Int × Int × Int × Int × Int × Int × Int := rDecode c.1 (qAt x1 0)
  let x4 : Bool := !x2 || x3.1 == 38
  let x5 : Int × TC := rRim (c.1, (rgx c.2.1 c.2.1.2.2.2.2.2.2.2.1 (spOf c) (qBehind (c, s == 5, g, (38, x3.2), []))), c.2.2.1, 38 == 35, 38 == 37, c.2.2.2.2.2) ln
  let x6 : TC := x5.2
  let x7 : TR × Bool × Bool × Bool × Int × Bool × Bool × Bool × Bool × Bool × Bool × Bool := x6.2
  let x8 : Bool × Bool × Bool × Int × Bool × Bool × Bool × Bool × Bool × Bool × Bool := x7.2
  let x9 : Int × Bool × Bool × Bool × Bool × Bool × Bool × Bool := x8.2.2.2
  let x10 : TF := x9.2
  let x11 : Bool × Bool × Bool × Bool × Bool × Bool := x10.2
  let x12 : Bool × Bool × Bool × Bool × Bool := x11.2
  let x13 : Bool × Bool × Bool × Bool := x12.2
  .br (pInternal s)
  (.leaf (some ((c.1, (rgx c.2.1 c.2.1.2.2.2.2.2.2.2.1 (IntKind.u16.wrap ((spOf c) - 2)) (rVector s)), c.2.2))))
  (.br (!x4 || x2)
   (.br (x4)
    (.leaf (some ((x6.1, (x5.1, x7.1.2), x8.1, false, false, x9.1, x10.1, x11.1, x12.1, x13.1, false, false, x13.2.2.2))))
    (.leaf none))
   (.leaf none))

noncomputable def pFin_38 (c : TC) (s : Int) (g : List Int) (ln : Bool × Bool × Bool × Bool × Bool × Bool × Bool × Bool × Bool) : TC := getO pFinRs.dflt (pFin_38T c s g ln).val

noncomputable def pFin_38C (c : TC) (s : Int) (g : List Int) (ln : Bool × Bool × Bool × Bool × Bool × Bool × Bool × Bool × Bool) : Bool := okB (pFin_38T c s g ln).val

theorem pFin_38_ev (a : HL pFinTs) : evVal (envX Tryz.prog (pFinL 38) [] 1023 8) Tryz.f165 pFinTs pFinRs a = pFin_38T a.1 a.2.1 a.2.2.1 a.2.2.2 := by kernel_rfl

noncomputable def pFin_42T (c : TC) (s : Int) (g : List Int) (ln : Bool × Bool × Bool × Bool × Bool × Bool × Bool × Bool × Bool) : RT (Option TC) :=
  let x1 : TC × Bool × List Int × TI × List TY := (c, s == 5, g, (0, 0, 0, 0, 0, 0, 0, 0), [])
  let x2 : Bool := qAtC x1 0
  let x3 : Int × Int × Int × Int × Int × Int × Int × Int := rDecode c.1 (qAt x1 0)
  let x4 : Bool := !x2 || x3.1 == 42
  let x5 : Bool × Bool × Bool × Bool := c.2.1.2.2.2.2.2.2.2.1.2.2.2
  let x6 : Bool × Bool × Bool := x5.2
  let x7 : TC × Bool × List Int × TI × List TY := (c, s == 5, g, (42, x3.2), [])
  let x8 : Int × Bool × Bool := rRdel (qPair x7 1) x6.2.2
  let x9 : Bool × Bool := x8.2
  .br (pInternal s)
  (.leaf (some ((c.1, (rgx c.2.1 c.2.1.2.2.2.2.2.2.2.1 (IntKind.u16.wrap ((spOf c) - 2)) (rVector s)), c.2.2))))
  (.br (!x4 || x2)
   (.br (x4)
    (.leaf (some ((c.1, rSetPair (rgx c.2.1 ((c.2.1.2.2.2.2.2.2.2.1.1, c.2.1.2.2.2.2.2.2.2.1.2.1, c.2.1.2.2.2.2.2.2.2.1.2.2.1, x5.1, x6.1, x9.2, x9.1)) (spOf c) (qBehind x7)) 1 x8.1, c.2.2.1, false, false, c.2.2.2.2.2))))
    (.leaf none))
   (.leaf none))

noncomputable def pFin_42 (c : TC) (s : Int) (g : List Int) (ln : Bool × Bool × Bool × Bool × Bool × Bool × Bool × Bool × Bool) : TC := getO pFinRs.dflt (pFin_42T c s g ln).val

noncomputable def pFin_42C (c : TC) (s : Int) (g : List Int) (ln : Bool × Bool × Bool × Bool × Bool × Bool × Bool × Bool × Bool) : Bool := okB (pFin_42T c s g ln).val

theorem pFin_42_ev (a : HL pFinTs) : evVal (envX Tryz.prog (pFinL 42) [] 1023 8) Tryz.f165 pFinTs pFinRs a = pFin_42T a.1 a.2.1 a.2.2.1 a.2.2.2 := by kernel_rfl

noncomputable def pFin_46T (c : TC) (s : Int) (g : List Int) (ln : Bool × Bool × Bool × Bool × Bool × Bool × Bool × Bool × Bool) : RT (Option TC) :=
  let x1 : TC × Bool × List Int × TI × List TY := (c, s == 5, g, (0, 0, 0, 0, 0, 0, 0, 0), [])
  let x2 : Bool := qAtC x1 0
  let x3 : Int × Int × Int × Int × Int × Int × Int × Int := rDecode c.1 (qAt x1 0)
  let x4 : Bool := !x2 || x3.1 == 46
  .br (pInternal s)
  (.leaf (some ((c.1, (rgx c.2.1 c.2.1.2.2.2.2.2.2.2.1 (IntKind.u16.wrap ((spOf c) - 2)) (rVector s)), c.2.2))))
  (.br (!x4 || x2)
   (.br (x4)
    (.leaf (some ((c.1, (rgx c.2.1 c.2.1.2.2.2.2.2.2.2.1 (spOf c) (qBehind (c, s == 5, g, (46, x3.2), []))), c.2.2.1, false, false, c.2.2.2.2.2))))
    (.leaf none))
   (.leaf none))

noncomputable def pFin_46 (c : TC) (s : Int) (g : List Int) (ln : Bool × Bool × Bool × Bool × Bool × Bool × Bool × Bool × Bool) : TC := getO pFinRs.dflt (pFin_46T c s g ln).val

noncomputable def pFin_46C (c : TC) (s : Int) (g : List Int) (ln : Bool × Bool × Bool × Bool × Bool × Bool × Bool × Bool × Bool) : Bool := okB (pFin_46T c s g ln).val

theorem pFin_46_ev (a : HL pFinTs) : evVal (envX Tryz.prog (pFinL 46) [] 1023 8) Tryz.f165 pFinTs pFinRs a = pFin_46T a.1 a.2.1 a.2.2.1 a.2.2.2 := by kernel_rfl

noncomputable def rFin_3T (c : TC) (s : Int) (g : List Int) (ln : Bool × Bool × Bool × Bool × Bool × Bool × Bool × Bool × Bool) : RT (Option TC) :=
  let x1 : Int × Int × Int × Int × Int × Int × Int × Int := rDecode c.1 (mAt (c, s == 5, g, []) 0)
  let x2 : Int × Int × Int × Int × Int × Int × Int := x1.2
  let x3 : TR := rSet c.2.1 x2.2.1 (mAt (c, s == 5, g, []) 1)
  let x4 : Int × Int × Int × Int × Int × Int × TF × Int × Int := x3.2
  let x5 : Int × Int × Int × Int × Int × TF × Int × Int := x4.2
  let x6 : Int × Int × Int × Int × TF × Int × Int := x5.2
  let x7 : Int × Int × Int × TF × Int × Int := x6.2
  let x8 : Int × Int × TF × Int × Int := x7.2
  let x9 : Int × TF × Int × Int := x8.2
  let x10 : TF × Int × Int := x9.2
  .br (rInternal s)
  (.leaf (some ((c.1, (rgx c.2.1 c.2.1.2.2.2.2.2.2.2.1 (IntKind.u16.wrap ((spOf c) - 2)) (rVector s)), c.2.2))))
  (.br (!mAtC (c, s == 5, g, []) 0 || x1.1 == 3)
   (.br (mAtC (c, s == 5, g, []) 0)
    (.br (mAtC (c, s == 5, g, []) 1)
     (.leaf (some ((c.1, (x3.1, x4.1, x5.1, x6.1, x7.1, x8.1, x9.1, x10.1, x10.2.1, mBehind (c, s == 5, g, []) x2.1), c.2.2.1, false, false, c.2.2.2.2.2))))
     (.leaf none))
    (.leaf none))
   (.leaf none))

noncomputable def rFin_3 (c : TC) (s : Int) (g : List Int) (ln : Bool × Bool × Bool × Bool × Bool × Bool × Bool × Bool × Bool) : TC := getO rFinRs.dflt (rFin_3T c s g ln).val

noncomputable def rFin_3C (c : TC) (s : Int) (g : List Int) (ln : Bool × Bool × Bool × Bool × Bool × Bool × Bool × Bool × Bool) : Bool := okB (rFin_3T c s g ln).val

theorem rFin_3_ev (a : HL rFinTs) : evVal (envX Tryz.prog (rFinL 3) [] 79250227772808467515411824639 8) Tryz.f26 rFinTs rFinRs a = rFin_3T a.1 a.2.1 a.2.2.1 a.2.2.2 := by kernel_rfl

noncomputable def rFin_7T (c : TC) (s : Int) (g : List Int) (ln : Bool × Bool × Bool × Bool × Bool × Bool × Bool × Bool × Bool) : RT (Option TC) :=
  let x1 : Int × Int × Int × Int × Int × Int × Int × Int := rDecode c.1 (mAt (c, s == 5, g, []) 0)
  let x2 : Bool := !mAtC (c, s == 5, g, []) 3 || mAtC (c, s == 5, g, []) 4
  let x3 : Bool := !x2 || mAtC (c, s == 5, g, []) 3
  let x4 : Bool := !x3 || x2
  .br (rInternal s)
  (.leaf (some ((c.1, (rgx c.2.1 c.2.1.2.2.2.2.2.2.2.1 (IntKind.u16.wrap ((spOf c) - 2)) (rVector s)), c.2.2))))
  (.br (!mAtC (c, s == 5, g, []) 0 || x1.1 == 7)
   (.br (mAtC (c, s == 5, g, []) 0)
    (.br (!x4 || x3)
     (.br (x4)
      (.leaf (some ((c.1, (c.2.1.1, c.2.1.2.1, c.2.1.2.2.1, c.2.1.2.2.2.1, c.2.1.2.2.2.2.1, mAt (c, s == 5, g, []) 4, mAt (c, s == 5, g, []) 3, c.2.1.2.2.2.2.2.2.2.1, spOf c, mBehind (c, s == 5, g, []) x1.2.1), c.2.2.1, false, false, c.2.2.2.2.2))))
      (.leaf none))
     (.leaf none))
    (.leaf none))
   (.leaf none))

noncomputable def rFin_7 (c : TC) (s : Int) (g : List Int) (ln : Bool × Bool × Bool × Bool × Bool × Bool × Bool × Bool × Bool) : TC := getO rFinRs.dflt (rFin_7T c s g ln).val

noncomputable def rFin_7C (c : TC) (s : Int) (g : List Int) (ln : Bool × Bool × Bool × Bool × Bool × Bool × Bool × Bool × Bool) : Bool := okB (rFin_7T c s g ln).val

theorem rFin_7_ev (a : HL rFinTs) : evVal (envX Tryz.prog (rFinL 7) [] 79250227772808467515411824639 8) Tryz.f26 rFinTs rFinRs a = rFin_7T a.1 a.2.1 a.2.2.1 a.2.2.2 := by kernel_rfl

noncomputable def rFin_11T (c : TC) (s : Int) (g : List Int) (ln : Bool × Bool × Bool × Bool × Bool × Bool × Bool × Bool × Bool) : RT (Option TC) :=
  let x1 : Int × Int × Int × Int × Int × Int × Int × Int := rDecode c.1 (mAt (c, s == 5, g, []) 0)
  .br (rInternal s)
  (.leaf (some ((c.1, (rgx c.2.1 c.2.1.2.2.2.2.2.2.2.1 (IntKind.u16.wrap ((spOf c) - 2)) (rVector s)), c.2.2))))
  (.br (!mAtC (c, s == 5, g, []) 0 || x1.1 == 11)
   (.br (mAtC (c, s == 5, g, []) 0)
    (.leaf (some ((c.1, (c.2.1.1, c.2.1.2.1, c.2.1.2.2.1, c.2.1.2.2.2.2.2.1, c.2.1.2.2.2.2.2.2.1, c.2.1.2.2.2.1, c.2.1.2.2.2.2.1, c.2.1.2.2.2.2.2.2.2.1, spOf c, mBehind (c, s == 5, g, []) x1.2.1), c.2.2.1, false, false, c.2.2.2.2.2))))
    (.leaf none))
   (.leaf none))

noncomputable def rFin_11 (c : TC) (s : Int) (g : List Int) (ln : Bool × Bool × Bool × Bool × Bool × Bool × Bool × Bool × Bool) : TC := getO rFinRs.dflt (rFin_11T c s g ln).val

noncomputable def rFin_11C (c : TC) (s : Int) (g : List Int) (ln : Bool × Bool × Bool × Bool × Bool × Bool × Bool × Bool × Bool) : Bool := okB (rFin_11T c s g ln).val

theorem rFin_11_ev (a : HL rFinTs) : evVal (envX Tryz.prog (rFinL 11) [] 79250227772808467515411824639 8) Tryz.f26 rFinTs rFinRs a = rFin_11T a.1 a.2.1 a.2.2.1 a.2.2.2 := by kernel_rfl

noncomputable def rFin_15T (c : TC) (s : Int) (g : List Int) (ln : Bool × Bool × Bool × Bool × Bool × Bool × Bool × Bool × Bool) : RT (Option TC) :=
  let x1 : Int × Int × Int × Int × Int × Int × Int × Int := rDecode c.1 (mAt (c, s == 5, g, []) 0)
  let x2 : Int × Int × Int × Int × Int × Int × Int := x1.2
  let x3 : Int := x2.2.1
  let x4 : Bool := x3 == 6
  let x5 : Int × Bool × Bool × Bool × Bool × Bool × Bool × Bool := rStepped c (15, x2) (bif x4 then mAt (c, s == 5, g, []) 1 else rGet c.2.1 x3)
  let x6 : TR := rSet c.2.1 x3 x5.1
  let x7 : Int × Int × Int × Int × Int × Int × TF × Int × Int := x6.2
  let x8 : Int × Int × Int × Int × Int × TF × Int × Int := x7.2
  let x9 : Int × Int × Int × Int × TF × Int × Int := x8.2
  let x10 : Int × Int × Int × TF × Int × Int := x9.2
  let x11 : Int × Int × TF × Int × Int := x10.2
  let x12 : Int × TF × Int × Int := x11.2
  .br (rInternal s)
  (.leaf (some ((c.1, (rgx c.2.1 c.2.1.2.2.2.2.2.2.2.1 (IntKind.u16.wrap ((spOf c) - 2)) (rVector s)), c.2.2))))
  (.br (!mAtC (c, s == 5, g, []) 0 || x1.1 == 15)
   (.br (mAtC (c, s == 5, g, []) 0)
    (.br (!x4 || mAtC (c, s == 5, g, []) 1)
     (.leaf (some ((c.1, (x6.1, x7.1, x8.1, x9.1, x10.1, x11.1, x12.1, x5.2, x12.2.2.1, mBehind (c, s == 5, g, []) x2.1), c.2.2.1, false, false, c.2.2.2.2.2))))
     (.leaf none))
    (.leaf none))
   (.leaf none))

noncomputable def rFin_15 (c : TC) (s : Int) (g : List Int) (ln : Bool × Bool × Bool × Bool × Bool × Bool × Bool × Bool × Bool) : TC := getO rFinRs.dflt (rFin_15T c s g ln).val

noncomputable def rFin_15C (c : TC) (s : Int) (g : List Int) (ln : Bool × Bool × Bool × Bool × Bool × Bool × Bool × Bool × Bool) : Bool := okB (rFin_15T c s g ln).val

theorem rFin_15_ev (a : HL rFinTs) : evVal (envX Tryz.prog (rFinL 15) [] 79250227772808467515411824639 8) Tryz.f26 rFinTs rFinRs a = rFin_15T a.1 a.2.1 a.2.2.1 a.2.2.2 := by kernel_rfl

noncomputable def rFin_19T (c : TC) (s : Int) (g : List Int) (ln : Bool × Bool × Bool × Bool × Bool × Bool × Bool × Bool × Bool) : RT (Option TC) :=
  let x1 : Int × Int × Int × Int × Int × Int × Int × Int := rDecode c.1 (mAt (c, s == 5, g, []) 0)
  let x2 : Int × Bool × Bool × Bool × Bool × Bool × Bool × Bool := rDaa c.1 c.2.1.1 c.2.1.2.2.2.2.2.2.2.1
  .br (rInternal s)
  (.leaf (some ((c.1, (rgx c.2.1 c.2.1.2.2.2.2.2.2.2.1 (IntKind.u16.wrap ((spOf c) - 2)) (rVector s)), c.2.2))))
  (.br (!mAtC (c, s == 5, g, []) 0 || x1.1 == 19)
   (.br (mAtC (c, s == 5, g, []) 0)
    (.leaf (some ((c.1, (x2.1, c.2.1.2.1, c.2.1.2.2.1, c.2.1.2.2.2.1, c.2.1.2.2.2.2.1, c.2.1.2.2.2.2.2.1, c.2.1.2.2.2.2.2.2.1, x2.2, spOf c, mBehind (c, s == 5, g, []) x1.2.1), c.2.2.1, false, false, c.2.2.2.2.2))))
    (.leaf none))
   (.leaf none))

noncomputable def rFin_19 (c : TC) (s : Int) (g : List Int) (ln : Bool × Bool × Bool × Bool × Bool × Bool × Bool × Bool × Bool) : TC := getO rFinRs.dflt (rFin_19T c s g ln).val

noncomputable def rFin_19C (c : TC) (s : Int) (g : List Int) (ln : Bool × Bool × Bool × Bool × Bool × Bool × Bool × Bool × Bool) : Bool := okB (rFin_19T c s g ln).val

theorem rFin_19_ev (a : HL rFinTs) : evVal (envX Tryz.prog (rFinL 19) [] 79250227772808467515411824639 8) Tryz.f26 rFinTs rFinRs a = rFin_19T a.1 a.2.1 a.2.2.1 a.2.2.2 := by kernel_rfl

noncomputable def rFin_23T (c : TC) (s : Int) (g : List Int) (ln : Bool × Bool × Bool × Bool × Bool × Bool × Bool × Bool × Bool) : RT (Option TC) :=
  let x1 : Int × Int × Int × Int × Int × Int × Int × Int := rDecode c.1 (mAt (c, s == 5, g, []) 0)
  let x2 : Int × Int × Int × Int × Int × Int × Int := x1.2
  let x3 : Bool × Bool × Bool × Bool := c.2.1.2.2.2.2.2.2.2.1.2.2.2
  let x4 : Bool × Bool × Bool := x3.2
  let x5 : Bool × Bool := x4.2
  let x6 : Int × Bool := rRot x2.2.2.2.2.1 c.2.1.1 x5.2
  .br (rInternal s)
  (.leaf (some ((c.1, (rgx c.2.1 c.2.1.2.2.2.2.2.2.2.1 (IntKind.u16.wrap ((spOf c) - 2)) (rVector s)), c.2.2))))
  (.br (!mAtC (c, s == 5, g, []) 0 || x1.1 == 23)
   (.br (mAtC (c, s == 5, g, []) 0)
    (.leaf (some ((c.1, (x6.1, c.2.1.2.1, c.2.1.2.2.1, c.2.1.2.2.2.1, c.2.1.2.2.2.2.1, c.2.1.2.2.2.2.2.1, c.2.1.2.2.2.2.2.2.1, (c.2.1.2.2.2.2.2.2.2.1.1, c.2.1.2.2.2.2.2.2.2.1.2.1, c.2.1.2.2.2.2.2.2.2.1.2.2.1, x3.1, x4.1, x5.1, x6.2), spOf c, mBehind (c, s == 5, g, []) x2.1), c.2.2.1, false, false, c.2.2.2.2.2))))
    (.leaf none))
   (.leaf none))

noncomputable def rFin_23 (c : TC) (s : Int) (g : List Int) (ln : Bool × Bool × Bool × Bool × Bool × Bool × Bool × Bool × Bool) : TC := getO rFinRs.dflt (rFin_23T c s g ln).val

noncomputable def rFin_23C (c : TC) (s : Int) (g : List Int) (ln : Bool × Bool × Bool × Bool × Bool × Bool × Bool × Bool × Bool) : Bool := okB (rFin_23T c s g ln).val

theorem rFin_23_ev (a : HL rFinTs) : evVal (envX Tryz.prog (rFinL 23) [] 79250227772808467515411824639 8) Tryz.f26 rFinTs rFinRs a = rFin_23T a.1 a.2.1 a.2.2.1 a.2.2.2 := by kernel_rfl

noncomputable def rFin_27T (c : TC) (s : Int) (g : List Int) (ln : Bool × Bool × Bool × Bool × Bool × Bool × Bool × Bool × Bool) : RT (Option TC) :=
  let x1 : Int := IntKind.u16.wrap ((spOf c) - 2)
  let x2 : Int × Int × Int × Int × Int × Int × Int × Int := rDecode c.1 (mAt (c, s == 5, g, []) 0)
  .br (rInternal s)
  (.leaf (some ((c.1, (rgx c.2.1 c.2.1.2.2.2.2.2.2.2.1 x1 (rVector s)), c.2.2))))
  (.br (!mAtC (c, s == 5, g, []) 0 || x2.1 == 27)
   (.br (mAtC (c, s == 5, g, []) 0)
    (.leaf (some ((c.1, (rgx c.2.1 c.2.1.2.2.2.2.2.2.2.1 x1 (IntKind.u16.wrap (IntKind.i64.wrap (8 * x2.2.2.2.2.2.2.2)))), c.2.2.1, false, false, c.2.2.2.2.2))))
    (.leaf none))
   (.leaf none))

noncomputable def rFin_27 (c : TC) (s : Int) (g : List Int) (ln : Bool × Bool × Bool × Bool × Bool × Bool × Bool × Bool × Bool) : TC := getO rFinRs.dflt (rFin_27T c s g ln).val

noncomputable def rFin_27C (c : TC) (s : Int) (g : List Int) (ln : Bool × Bool × Bool × Bool × Bool × Bool × Bool × Bool × Bool) : Bool := okB (rFin_27T c s g ln).val

theorem rFin_27_ev (a : HL rFinTs) : evVal (envX Tryz.prog (rFinL 27) [] 79250227772808467515411824639 8) Tryz.f26 rFinTs rFinRs a = rFin_27T a.1 a.2.1 a.2.2.1 a.2.2.2 := by kernel_rfl

noncomputable def rFin_31T (c : TC) (s : Int) (g : List Int) (ln : Bool × Bool × Bool × Bool × Bool × Bool × Bool × Bool × Bool) : RT (Option TC) :=
  let x1 : Int × Int × Int × Int × Int × Int × Int × Int := rDecode c.1 (mAt (c, s == 5, g, []) 0)
  let x2 : Int × Int × Int × Int × Int × Int × Int := x1.2
  let x3 : Int := x2.2.2.2.1
  let x4 : Bool := x3 == 3
  let x5 : Bool := !x4 || mWordC (c, s == 5, g, []) 1
  let x6 : Bool := !x5 || (x4 || mWordC (c, s == 5, g, []) 1)
  let x7 : Bool := !x6 || x5
  let x8 : TR := rSetPSW c.1 c.2.1 (mWord (c, s == 5, g, []) 1)
  let x9 : TR := rSetPair c.2.1 x3 (mWord (c, s == 5, g, []) 1)
  let x10 : Int × Int × Int × Int × Int × Int × TF × Int × Int := x8.2
  let x11 : Int × Int × Int × Int × Int × Int × TF × Int × Int := x9.2
  let x12 : Int × Int × Int × Int × Int × TF × Int × Int := x10.2
  let x13 : Int × Int × Int × Int × Int × TF × Int × Int := x11.2
  let x14 : Int × Int × Int × Int × TF × Int × Int := x12.2
  let x15 : Int × Int × Int × Int × TF × Int × Int := x13.2
  let x16 : Int × Int × Int × TF × Int × Int := x14.2
  let x17 : Int × Int × Int × TF × Int × Int := x15.2
  let x18 : Int × Int × TF × Int × Int := x16.2
  let x19 : Int × Int × TF × Int × Int := x17.2
  let x20 : Int × TF × Int × Int := x18.2
  let x21 : Int × TF × Int × Int := x19.2
  let x22 : TF × Int × Int := x20.2
  let x23 : TF := x22.1
  let x24 : TF × Int × Int := x21.2
  let x25 : TF := x24.1
  let x26 : Bool × Bool × Bool × Bool × Bool × Bool := x23.2
  let x27 : Bool × Bool × Bool × Bool × Bool × Bool := x25.2
  let x28 : Bool × Bool × Bool × Bool × Bool := x26.2
  let x29 : Bool × Bool × Bool × Bool × Bool := x27.2
  let x30 : Bool × Bool × Bool × Bool := x28.2
  let x31 : Bool × Bool × Bool × Bool := x29.2
  let x32 : Bool × Bool × Bool := x30.2
  let x33 : Bool × Bool × Bool := x31.2
  let x34 : Bool × Bool := x32.2
  let x35 : Bool × Bool := x33.2
  .br (rInternal s)
  (.leaf (some ((c.1, (rgx c.2.1 c.2.1.2.2.2.2.2.2.2.1 (IntKind.u16.wrap ((spOf c) - 2)) (rVector s)), c.2.2))))
  (.br (!mAtC (c, s == 5, g, []) 0 || x1.1 == 31)
   (.br (mAtC (c, s == 5, g, []) 0)
    (.br (!x7 || x6)
     (.br (x7)
      (.leaf (some ((c.1, (bif x4 then x8.1 else x9.1, bif x4 then x10.1 else x11.1, bif x4 then x12.1 else x13.1, bif x4 then x14.1 else x15.1, bif x4 then x16.1 else x17.1, bif x4 then x18.1 else x19.1, bif x4 then x20.1 else x21.1, (bif x4 then x23.1 else x25.1, bif x4 then x26.1 else x27.1, bif x4 then x28.1 else x29.1, bif x4 then x30.1 else x31.1, bif x4 then x32.1 else x33.1, bif x4 then x34.1 else x35.1, bif x4 then x34.2 else x35.2), IntKind.u16.wrap ((bif x4 then x22.2.1 else x24.2.1) + 2), mBehind (c, s == 5, g, []) x2.1), c.2.2.1, false, false, c.2.2.2.2.2))))
      (.leaf none))
     (.leaf none))
    (.leaf none))
   (.leaf none))

noncomputable def rFin_31 (c : TC) (s : Int) (g : List Int) (ln : Bool × Bool × Bool × Bool × Bool × Bool × Bool × Bool × Bool) : TC := getO rFinRs.dflt (rFin_31T c s g ln).val

noncomputable def rFin_31C (c : TC) (s : Int) (g : List Int) (ln : Bool × Bool × Bool × Bool × Bool × Bool × Bool × Bool × Bool) : Bool := okB (rFin_31T c s g ln).val

theorem rFin_31_ev (a : HL rFinTs) : evVal (envX Tryz.prog (rFinL 31) [] 79250227772808467515411824639 8) Tryz.f26 rFinTs rFinRs a = rFin_31T a.1 a.2.1 a.2.2.1 a.2.2.2 := by kernel_rfl

noncomputable def rFin_35T (c : TC) (s : Int) (g : List Int) (ln : Bool × Bool × Bool × Bool × Bool × Bool × Bool × Bool × Bool) : RT (Option TC) :=
  let x1 : Int × Int × Int × Int × Int × Int × Int × Int := rDecode c.1 (mAt (c, s == 5, g, []) 0)
  .br (rInternal s)
  (.leaf (some ((c.1, (rgx c.2.1 c.2.1.2.2.2.2.2.2.2.1 (IntKind.u16.wrap ((spOf c) - 2)) (rVector s)), c.2.2))))
  (.br (!mAtC (c, s == 5, g, []) 0 || x1.1 == 35)
   (.br (mAtC (c, s == 5, g, []) 0)
    (.leaf (some ((c.1, (rgx c.2.1 c.2.1.2.2.2.2.2.2.2.1 (spOf c) (mBehind (c, s == 5, g, []) x1.2.1)), true, true, false, c.2.2.2.2.2))))
    (.leaf none))
   (.leaf none))

noncomputable def rFin_35 (c : TC) (s : Int) (g : List Int) (ln : Bool × Bool × Bool × Bool × Bool × Bool × Bool × Bool × Bool) : TC := getO rFinRs.dflt (rFin_35T c s g ln).val

noncomputable def rFin_35C (c : TC) (s : Int) (g : List Int) (ln : Bool × Bool × Bool × Bool × Bool × Bool × Bool × Bool × Bool) : Bool := okB (rFin_35T c s g ln).val

theorem rFin_35_ev (a : HL rFinTs) : evVal (envX Tryz.prog (rFinL 35) [] 79250227772808467515411824639 8) Tryz.f26 rFinTs rFinRs a = rFin_35T a.1 a.2.1 a.2.2.1 a.2.2.2 := by kernel_rfl

noncomputable def rFin_39T (c : TC) (s : Int) (g : List Int) (ln : Bool × Bool × Bool × Bool × Bool × Bool × Bool × Bool × Bool) : RT (Option TC) :=
  let x1 : Int × Int × Int × Int × Int × Int × Int × Int := rDecode c.1 (mAt (c, s == 5, g, []) 0)
  let x2 : TC := rSim (c.1, (rgx c.2.1 c.2.1.2.2.2.2.2.2.2.1 (spOf c) (mBehind (c, s == 5, g, []) x1.2.1)), c.2.2) c.2.1.1
  let x3 : TR × Bool × Bool × Bool × Int × Bool × Bool × Bool × Bool × Bool × Bool × Bool := x2.2
  let x4 : Bool × Bool × Bool × Int × Bool × Bool × Bool × Bool × Bool × Bool × Bool := x3.2
  .br (rInternal s)
  (.leaf (some ((c.1, (rgx c.2.1 c.2.1.2.2.2.2.2.2.2.1 (IntKind.u16.wrap ((spOf c) - 2)) (rVector s)), c.2.2))))
  (.br (!mAtC (c, s == 5, g, []) 0 || x1.1 == 39)
   (.br (mAtC (c, s == 5, g, []) 0)
    (.leaf (some ((x2.1, x3.1, x4.1, false, false, x4.2.2.2))))
    (.leaf none))
   (.leaf none))

noncomputable def rFin_39 (c : TC) (s : Int) (g : List Int) (ln : Bool × Bool × Bool × Bool × Bool × Bool × Bool × Bool × Bool) : TC := getO rFinRs.dflt (rFin_39T c s g ln).val

noncomputable def rFin_39C (c : TC) (s : Int) (g : List Int) (ln : Bool × Bool × Bool × Bool × Bool × Bool × Bool × Bool × Bool) : Bool := okB (rFin_39T c s g ln).val

theorem rFin_39_ev (a : HL rFinTs) : evVal (envX Tryz.prog (rFinL 39) [] 79250227772808467515411824639 8) Tryz.f26 rFinTs rFinRs a = rFin_39T a.1 a.2.1 a.2.2.1 a.2.2.2 := by kernel_rfl

noncomputable def rFin_43T (c : TC) (s : Int) (g : List Int) (ln : Bool × Bool × Bool × Bool × Bool × Bool × Bool × Bool × Bool) : RT (Option TC) :=
  let x1 : Int × Int × Int × Int × Int × Int × Int × Int := rDecode c.1 (mAt (c, s == 5, g, []) 0)
  let x2 : TR := rSetPair c.2.1 1 (IntKind.u16.wrap (rPair c.2.1 2 + IntKind.u16.wrap (mAt (c, s == 5, g, []) 1)))
  let x3 : Int × Int × Int × Int × Int × Int × TF × Int × Int := x2.2
  let x4 : Int × Int × Int × Int × Int × TF × Int × Int := x3.2
  let x5 : Int × Int × Int × Int × TF × Int × Int := x4.2
  let x6 : Int × Int × Int × TF × Int × Int := x5.2
  let x7 : Int × Int × TF × Int × Int := x6.2
  let x8 : Int × TF × Int × Int := x7.2
  let x9 : TF × Int × Int := x8.2
  .br (rInternal s)
  (.leaf (some ((c.1, (rgx c.2.1 c.2.1.2.2.2.2.2.2.2.1 (IntKind.u16.wrap ((spOf c) - 2)) (rVector s)), c.2.2))))
  (.br (!mAtC (c, s == 5, g, []) 0 || x1.1 == 43)
   (.br (mAtC (c, s == 5, g, []) 0)
    (.br (mAtC (c, s == 5, g, []) 1)
     (.leaf (some ((c.1, (x2.1, x3.1, x4.1, x5.1, x6.1, x7.1, x8.1, x9.1, x9.2.1, mBehind (c, s == 5, g, []) x1.2.1), c.2.2.1, false, false, c.2.2.2.2.2))))
     (.leaf none))
    (.leaf none))
   (.leaf none))

noncomputable def rFin_43 (c : TC) (s : Int) (g : List Int) (ln : Bool × Bool × Bool × Bool × Bool × Bool × Bool × Bool × Bool) : TC := getO rFinRs.dflt (rFin_43T c s g ln).val

noncomputable def rFin_43C (c : TC) (s : Int) (g : List Int) (ln : Bool × Bool × Bool × Bool × Bool × Bool × Bool × Bool × Bool) : Bool := okB (rFin_43T c s g ln).val

theorem rFin_43_ev (a : HL rFinTs) : evVal (envX Tryz.prog (rFinL 43) [] 79250227772808467515411824639 8) Tryz.f26 rFinTs rFinRs a = rFin_43T a.1 a.2.1 a.2.2.1 a.2.2.2 := by kernel_rfl

noncomputable def rFin_47T (c : TC) (s : Int) (g : List Int) (ln : Bool × Bool × Bool × Bool × Bool × Bool × Bool × Bool × Bool) : RT (Option TC) :=
  let x1 : Int × Int × Int × Int × Int × Int × Int × Int := rDecode c.1 (mAt (c, s == 5, g, []) 0)
  let x2 : Bool := !mAtC (c, s == 5, g, []) 1 || mAtC (c, s == 5, g, []) 2
  let x3 : Bool := !x2 || mAtC (c, s == 5, g, []) 1
  let x4 : Bool := !x3 || x2
  .br (rInternal s)
  (.leaf (some ((c.1, (rgx c.2.1 c.2.1.2.2.2.2.2.2.2.1 (IntKind.u16.wrap ((spOf c) - 2)) (rVector s)), c.2.2))))
  (.br (!mAtC (c, s == 5, g, []) 0 || x1.1 == 47)
   (.br (mAtC (c, s == 5, g, []) 0)
    (.br (!x4 || x3)
     (.br (x4)
      (.leaf (some ((c.1, (c.2.1.1, c.2.1.2.1, c.2.1.2.2.1, c.2.1.2.2.2.1, c.2.1.2.2.2.2.1, mAt (c, s == 5, g, []) 2, mAt (c, s == 5, g, []) 1, c.2.1.2.2.2.2.2.2.2.1, spOf c, mBehind (c, s == 5, g, []) x1.2.1), c.2.2.1, false, false, c.2.2.2.2.2))))
      (.leaf none))
     (.leaf none))
    (.leaf none))
   (.leaf none))

noncomputable def rFin_47 (c : TC) (s : Int) (g : List Int) (ln : Bool × Bool × Bool × Bool × Bool × Bool × Bool × Bool × Bool) : TC := getO rFinRs.dflt (rFin_47T c s g ln).val

noncomputable def rFin_47C (c : TC) (s : Int) (g : List Int) (ln : Bool × Bool × Bool × Bool × Bool × Bool × Bool × Bool × Bool) : Bool := okB (rFin_47T c s g ln).val

theorem rFin_47_ev (a : HL rFinTs) : evVal (envX Tryz.prog (rFinL 47) [] 79250227772808467515411824639 8) Tryz.f26 rFinTs rFinRs a = rFin_47T a.1 a.2.1 a.2.2.1 a.2.2.2 := by kernel_rfl
end
end Go.Proofs.YteboknglfjadoaaGreat
