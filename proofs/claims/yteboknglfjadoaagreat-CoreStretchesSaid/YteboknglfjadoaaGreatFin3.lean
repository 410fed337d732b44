/-
  Contracts of functions; each found by the symbolic executor and checked by the kernel. Conditions: none.
-/
import Derived.Test.YteboknglfjadoaaGreatS3D
import Derived.Test.YteboknglfjadoaaGreatProg
import Derived.Test.YteboknglfjadoaaGreatFin0
set_option linter.unusedSimpArgs false
open Go Go.S3 Go.Proofs
set_option linter.unusedVariables false
set_option maxRecDepth 100000
namespace Go.Proofs.YteboknglfjadoaaGreat
noncomputable section
noncomputable def pFin_3T (c : TC) (s : Int) (g : List Int) (ln : Bool × Bool × Bool × Bool × Bool × Bool × Bool × Bool × Bool) : RT (Option TC) :=
  let x1 : TC × Bool × List Int × TI × List TY := (c, s == 5, g, (0, 0, 0, 0, 0, 0, 0, 0), [])
  let x2 : Bool := qAtC x1 0
  let x3 : Int × Int × Int × Int × Int × Int × Int × Int := rDecode c.1 (qAt x1 0)
  let x4 : Bool := !x2 || x3.1 == 3
  let x5 : Int × Int × Int × Int × Int × Int × Int := x3.2
  let x6 : TC × Bool × List Int × TI × List TY := (c, s == 5, g, (3, x5), [])
  .br (pInternal s)
  (.leaf (some ((c.1, (rgx c.2.1 c.2.1.2.2.2.2.2.2.2.1 (IntKind.u16.wrap ((spOf c) - 2)) (rVector s)), c.2.2))))
  (.br (!x4 || x2)
   (.br (x4)
    (.br (qAtC x6 1)
     (.leaf (some ((c.1, rSet (rgx c.2.1 c.2.1.2.2.2.2.2.2.2.1 (spOf c) (qBehind x6)) x5.2.1 (qAt x6 1), c.2.2.1, false, false, c.2.2.2.2.2))))
     (.leaf none))
    (.leaf none))
   (.leaf none))

noncomputable def pFin_3 (c : TC) (s : Int) (g : List Int) (ln : Bool × Bool × Bool × Bool × Bool × Bool × Bool × Bool × Bool) : TC := getO pFinRs.dflt (pFin_3T c s g ln).val

noncomputable def pFin_3C (c : TC) (s : Int) (g : List Int) (ln : Bool × Bool × Bool × Bool × Bool × Bool × Bool × Bool × Bool) : Bool := okB (pFin_3T c s g ln).val

theorem pFin_3_ev (a : HL pFinTs) : evVal (envX Tryz.prog (pFinL 3) [] 1023 8) Tryz.f165 pFinTs pFinRs a = pFin_3T a.1 a.2.1 a.2.2.1 a.2.2.2 := by kernel_rfl

noncomputable def pFin_7T (c : TC) (s : Int) (g : List Int) (ln : Bool × Bool × Bool × Bool × Bool × Bool × Bool × Bool × Bool) : RT (Option TC) :=
  let x1 : TC × Bool × List Int × TI × List TY := (c, s == 5, g, (0, 0, 0, 0, 0, 0, 0, 0), [])
  let x2 : Bool := qAtC x1 0
  let x3 : Int × Int × Int × Int × Int × Int × Int × Int := rDecode c.1 (qAt x1 0)
  let x4 : Bool := !x2 || x3.1 == 7
  let x5 : TC × Bool × List Int × TI × List TY := (c, s == 5, g, (7, x3.2), [])
  .br (pInternal s)
  (.leaf (some ((c.1, (rgx c.2.1 c.2.1.2.2.2.2.2.2.2.1 (IntKind.u16.wrap ((spOf c) - 2)) (rVector s)), c.2.2))))
  (.br (!x4 || x2)
   (.br (x4)
    (.br (qJoinC x5 3)
     (.leaf (some ((c.1, rSetPair (rgx c.2.1 c.2.1.2.2.2.2.2.2.2.1 (spOf c) (qBehind x5)) 2 (qJoin x5 3), c.2.2.1, false, false, c.2.2.2.2.2))))
     (.leaf none))
    (.leaf none))
   (.leaf none))

noncomputable def pFin_7 (c : TC) (s : Int) (g : List Int) (ln : Bool × Bool × Bool × Bool × Bool × Bool × Bool × Bool × Bool) : TC := getO pFinRs.dflt (pFin_7T c s g ln).val

noncomputable def pFin_7C (c : TC) (s : Int) (g : List Int) (ln : Bool × Bool × Bool × Bool × Bool × Bool × Bool × Bool × Bool) : Bool := okB (pFin_7T c s g ln).val

theorem pFin_7_ev (a : HL pFinTs) : evVal (envX Tryz.prog (pFinL 7) [] 1023 8) Tryz.f165 pFinTs pFinRs a = pFin_7T a.1 a.2.1 a.2.2.1 a.2.2.2 := by kernel_rfl

noncomputable def pFin_11T (c : TC) (s : Int) (g : List Int) (ln : Bool × Bool × Bool × Bool × Bool × Bool × Bool × Bool × Bool) : RT (Option TC) :=
  let x1 : TC × Bool × List Int × TI × List TY := (c, s == 5, g, (0, 0, 0, 0, 0, 0, 0, 0), [])
  let x2 : Bool := qAtC x1 0
  let x3 : Int × Int × Int × Int × Int × Int × Int × Int := rDecode c.1 (qAt x1 0)
  let x4 : Bool := !x2 || x3.1 == 11
  .br (pInternal s)
  (.leaf (some ((c.1, (rgx c.2.1 c.2.1.2.2.2.2.2.2.2.1 (IntKind.u16.wrap ((spOf c) - 2)) (rVector s)), c.2.2))))
  (.br (!x4 || x2)
   (.br (x4)
    (.leaf (some ((c.1, (c.2.1.1, c.2.1.2.1, c.2.1.2.2.1, c.2.1.2.2.2.2.2.1, c.2.1.2.2.2.2.2.2.1, c.2.1.2.2.2.1, c.2.1.2.2.2.2.1, c.2.1.2.2.2.2.2.2.2.1, spOf c, qBehind (c, s == 5, g, (11, x3.2), [])), c.2.2.1, false, false, c.2.2.2.2.2))))
    (.leaf none))
   (.leaf none))

noncomputable def pFin_11 (c : TC) (s : Int) (g : List Int) (ln : Bool × Bool × Bool × Bool × Bool × Bool × Bool × Bool × Bool) : TC := getO pFinRs.dflt (pFin_11T c s g ln).val

noncomputable def pFin_11C (c : TC) (s : Int) (g : List Int) (ln : Bool × Bool × Bool × Bool × Bool × Bool × Bool × Bool × Bool) : Bool := okB (pFin_11T c s g ln).val

theorem pFin_11_ev (a : HL pFinTs) : evVal (envX Tryz.prog (pFinL 11) [] 1023 8) Tryz.f165 pFinTs pFinRs a = pFin_11T a.1 a.2.1 a.2.2.1 a.2.2.2 := by kernel_rfl

noncomputable def pFin_15T (c : TC) (s : Int) (g : List Int) (ln : Bool × Bool × Bool × Bool × Bool × Bool × Bool × Bool × Bool) : RT (Option TC) :=
  let x1 : TC × Bool × List Int × TI × List TY := (c, s == 5, g, (0, 0, 0, 0, 0, 0, 0, 0), [])
  let x2 : Bool := qAtC x1 0
  let x3 : Int × Int × Int × Int × Int × Int × Int × Int := rDecode c.1 (qAt x1 0)
  let x4 : Bool := !x2 || x3.1 == 15
  let x5 : Int × Int × Int × Int × Int × Int × Int := x3.2
  let x6 : Int := x5.2.1
  let x7 : Bool := x6 == 6
  let x8 : TC × Bool × List Int × TI × List TY := (c, s == 5, g, (15, x5), [])
  let x9 : Int × Bool × Bool × Bool × Bool × Bool × Bool × Bool := rDcr c.1 (bif x7 then qAt x8 1 else qReg x8 x6) c.2.1.2.2.2.2.2.2.2.1
  .br (pInternal s)
  (.leaf (some ((c.1, (rgx c.2.1 c.2.1.2.2.2.2.2.2.2.1 (IntKind.u16.wrap ((spOf c) - 2)) (rVector s)), c.2.2))))
  (.br (!x4 || x2)
   (.br (x4)
    (.br (!x7 || qAtC x8 1)
     (.leaf (some ((c.1, rSet (rgx c.2.1 x9.2 (spOf c) (qBehind x8)) x6 x9.1, c.2.2.1, false, false, c.2.2.2.2.2))))
     (.leaf none))
    (.leaf none))
   (.leaf none))

noncomputable def pFin_15 (c : TC) (s : Int) (g : List Int) (ln : Bool × Bool × Bool × Bool × Bool × Bool × Bool × Bool × Bool) : TC := getO pFinRs.dflt (pFin_15T c s g ln).val

noncomputable def pFin_15C (c : TC) (s : Int) (g : List Int) (ln : Bool × Bool × Bool × Bool × Bool × Bool × Bool × Bool × Bool) : Bool := okB (pFin_15T c s g ln).val

theorem pFin_15_ev (a : HL pFinTs) : evVal (envX Tryz.prog (pFinL 15) [] 1023 8) Tryz.f165 pFinTs pFinRs a = pFin_15T a.1 a.2.1 a.2.2.1 a.2.2.2 := by kernel_rfl

noncomputable def pFin_19T (c : TC) (s : Int) (g : List Int) (ln : Bool × Bool × Bool × Bool × Bool × Bool × Bool × Bool × Bool) : RT (Option TC) :=
  let x1 : TC × Bool × List Int × TI × List TY := (c, s == 5, g, (0, 0, 0, 0, 0, 0, 0, 0), [])
  let x2 : Bool := qAtC x1 0
  let x3 : Int × Int × Int × Int × Int × Int × Int × Int := rDecode c.1 (qAt x1 0)
  let x4 : Bool := !x2 || x3.1 == 19
  let x5 : Int × Bool × Bool × Bool × Bool × Bool × Bool × Bool := rDaa c.1 c.2.1.1 c.2.1.2.2.2.2.2.2.2.1
  .br (pInternal s)
  (.leaf (some ((c.1, (rgx c.2.1 c.2.1.2.2.2.2.2.2.2.1 (IntKind.u16.wrap ((spOf c) - 2)) (rVector s)), c.2.2))))
  (.br (!x4 || x2)
   (.br (x4)
    (.leaf (some ((c.1, (x5.1, c.2.1.2.1, c.2.1.2.2.1, c.2.1.2.2.2.1, c.2.1.2.2.2.2.1, c.2.1.2.2.2.2.2.1, c.2.1.2.2.2.2.2.2.1, x5.2, spOf c, qBehind (c, s == 5, g, (19, x3.2), [])), c.2.2.1, false, false, c.2.2.2.2.2))))
    (.leaf none))
   (.leaf none))

noncomputable def pFin_19 (c : TC) (s : Int) (g : List Int) (ln : Bool × Bool × Bool × Bool × Bool × Bool × Bool × Bool × Bool) : TC := getO pFinRs.dflt (pFin_19T c s g ln).val

noncomputable def pFin_19C (c : TC) (s : Int) (g : List Int) (ln : Bool × Bool × Bool × Bool × Bool × Bool × Bool × Bool × Bool) : Bool := okB (pFin_19T c s g ln).val

theorem pFin_19_ev (a : HL pFinTs) : evVal (envX Tryz.prog (pFinL 19) [] 1023 8) Tryz.f165 pFinTs pFinRs a = pFin_19T a.1 a.2.1 a.2.2.1 a.2.2.2 := by kernel_rfl

noncomputable def pFin_23T (c : TC) (s : Int) (g : List Int) (ln : Bool × Bool × Bool × Bool × Bool × Bool × Bool × Bool × Bool) : RT (Option TC) :=
  let x1 : TC × Bool × List Int × TI × List TY := (c, s == 5, g, (0, 0, 0, 0, 0, 0, 0, 0), [])
  let x2 : Bool := qAtC x1 0
  let x3 : Int × Int × Int × Int × Int × Int × Int × Int := rDecode c.1 (qAt x1 0)
  let x4 : Bool := !x2 || x3.1 == 23
  let x5 : Int × Int × Int × Int × Int × Int × Int := x3.2
  let x6 : Bool × Bool × Bool × Bool := c.2.1.2.2.2.2.2.2.2.1.2.2.2
  let x7 : Bool × Bool × Bool := x6.2
  let x8 : Bool × Bool := x7.2
  let x9 : Int × Bool := rRot x5.2.2.2.2.1 c.2.1.1 x8.2
  .br (pInternal s)
  (.leaf (some ((c.1, (rgx c.2.1 c.2.1.2.2.2.2.2.2.2.1 (IntKind.u16.wrap ((spOf c) - 2)) (rVector s)), c.2.2))))
  (.br (!x4 || x2)
   (.br (x4)
    (.leaf (some ((c.1, (x9.1, c.2.1.2.1, c.2.1.2.2.1, c.2.1.2.2.2.1, c.2.1.2.2.2.2.1, c.2.1.2.2.2.2.2.1, c.2.1.2.2.2.2.2.2.1, (c.2.1.2.2.2.2.2.2.2.1.1, c.2.1.2.2.2.2.2.2.2.1.2.1, c.2.1.2.2.2.2.2.2.2.1.2.2.1, x6.1, x7.1, x8.1, x9.2), spOf c, qBehind (c, s == 5, g, (23, x5), [])), c.2.2.1, false, false, c.2.2.2.2.2))))
    (.leaf none))
   (.leaf none))

noncomputable def pFin_23 (c : TC) (s : Int) (g : List Int) (ln : Bool × Bool × Bool × Bool × Bool × Bool × Bool × Bool × Bool) : TC := getO pFinRs.dflt (pFin_23T c s g ln).val

noncomputable def pFin_23C (c : TC) (s : Int) (g : List Int) (ln : Bool × Bool × Bool × Bool × Bool × Bool × Bool × Bool × Bool) : Bool := okB (pFin_23T c s g ln).val

theorem pFin_23_ev (a : HL pFinTs) : evVal (envX Tryz.prog (pFinL 23) [] 1023 8) Tryz.f165 pFinTs pFinRs a = pFin_23T a.1 a.2.1 a.2.2.1 a.2.2.2 := by kernel_rfl

noncomputable def pFin_27T (c : TC) (s : Int) (g : List Int) (ln : Bool × Bool × Bool × Bool × Bool × Bool × Bool × Bool × Bool) : RT (Option TC) :=
  let x1 : Int := IntKind.u16.wrap ((spOf c) - 2)
  let x2 : TC × Bool × List Int × TI × List TY := (c, s == 5, g, (0, 0, 0, 0, 0, 0, 0, 0), [])
  let x3 : Bool := qAtC x2 0
  let x4 : Int × Int × Int × Int × Int × Int × Int × Int := rDecode c.1 (qAt x2 0)
  let x5 : Bool := !x3 || x4.1 == 27
  .br (pInternal s)
  (.leaf (some ((c.1, (rgx c.2.1 c.2.1.2.2.2.2.2.2.2.1 x1 (rVector s)), c.2.2))))
  (.br (!x5 || x3)
   (.br (x5)
    (.leaf (some ((c.1, (rgx c.2.1 c.2.1.2.2.2.2.2.2.2.1 x1 (IntKind.u16.wrap (IntKind.i64.wrap (8 * x4.2.2.2.2.2.2.2)))), c.2.2.1, false, false, c.2.2.2.2.2))))
    (.leaf none))
   (.leaf none))

noncomputable def pFin_27 (c : TC) (s : Int) (g : List Int) (ln : Bool × Bool × Bool × Bool × Bool × Bool × Bool × Bool × Bool) : TC := getO pFinRs.dflt (pFin_27T c s g ln).val

noncomputable def pFin_27C (c : TC) (s : Int) (g : List Int) (ln : Bool × Bool × Bool × Bool × Bool × Bool × Bool × Bool × Bool) : Bool := okB (pFin_27T c s g ln).val

theorem pFin_27_ev (a : HL pFinTs) : evVal (envX Tryz.prog (pFinL 27) [] 1023 8) Tryz.f165 pFinTs pFinRs a = pFin_27T a.1 a.2.1 a.2.2.1 a.2.2.2 := by kernel_rfl

noncomputable def pFin_31T (c : TC) (s : Int) (g : List Int) (ln : Bool × Bool × Bool × Bool × Bool × Bool × Bool × Bool × Bool) : RT (Option TC) :=
  let x1 : TC × Bool × List Int × TI × List TY := (c, s == 5, g, (0, 0, 0, 0, 0, 0, 0, 0), [])
  let x2 : Bool := qAtC x1 0
  let x3 : Int × Int × Int × Int × Int × Int × Int × Int := rDecode c.1 (qAt x1 0)
  let x4 : Bool := !x2 || x3.1 == 31
  let x5 : Int × Int × Int × Int × Int × Int × Int := x3.2
  let x6 : Int := x5.2.2.2.1
  let x7 : Bool := x6 == 3
  let x8 : TC × Bool × List Int × TI × List TY := (c, s == 5, g, (31, x5), [])
  let x9 : Bool := qJoinC x8 1
  let x10 : Bool := !x7 || x9
  let x11 : Bool := !x10 || (x7 || x9)
  let x12 : Bool := !x11 || x10
  let x13 : Bool := !x12 || x11
  let x14 : TR := (rgx c.2.1 c.2.1.2.2.2.2.2.2.2.1 (spOf c) (qBehind x8))
  let x15 : Int := qJoin x8 1
  let x16 : TR := rSetPSW c.1 x14 x15
  let x17 : TR := rSetPair x14 x6 x15
  let x18 : Int × Int × Int × Int × Int × Int × TF × Int × Int := x16.2
  let x19 : Int × Int × Int × Int × Int × Int × TF × Int × Int := x17.2
  let x20 : Int × Int × Int × Int × Int × TF × Int × Int := x18.2
  let x21 : Int × Int × Int × Int × Int × TF × Int × Int := x19.2
  let x22 : Int × Int × Int × Int × TF × Int × Int := x20.2
  let x23 : Int × Int × Int × Int × TF × Int × Int := x21.2
  let x24 : Int × Int × Int × TF × Int × Int := x22.2
  let x25 : Int × Int × Int × TF × Int × Int := x23.2
  let x26 : Int × Int × TF × Int × Int := x24.2
  let x27 : Int × Int × TF × Int × Int := x25.2
  let x28 : Int × TF × Int × Int := x26.2
  let x29 : Int × TF × Int × Int := x27.2
  let x30 : TF × Int × Int := x28.2
  let x31 : TF := x30.1
  let x32 : TF × Int × Int := x29.2
  let x33 : TF := x32.1
  let x34 : Bool × Bool × Bool × Bool × Bool × Bool := x31.2
  let x35 : Bool × Bool × Bool × Bool × Bool × Bool := x33.2
  let x36 : Bool × Bool × Bool × Bool × Bool := x34.2
  let x37 : Bool × Bool × Bool × Bool × Bool := x35.2
  let x38 : Bool × Bool × Bool × Bool := x36.2
  let x39 : Bool × Bool × Bool × Bool := x37.2
  let x40 : Bool × Bool × Bool := x38.2
  let x41 : Bool × Bool × Bool := x39.2
  let x42 : Bool × Bool := x40.2
  let x43 : Bool × Bool := x41.2
  let x44 : Int × Int := x30.2
  let x45 : Int × Int := x32.2
  .br (pInternal s)
  (.leaf (some ((c.1, (rgx c.2.1 c.2.1.2.2.2.2.2.2.2.1 (IntKind.u16.wrap ((spOf c) - 2)) (rVector s)), c.2.2))))
  (.br (!x4 || x2)
   (.br (x4)
    (.br (!x13 || x12)
     (.br (x13)
      (.leaf (some ((c.1, (bif x7 then x16.1 else x17.1, bif x7 then x18.1 else x19.1, bif x7 then x20.1 else x21.1, bif x7 then x22.1 else x23.1, bif x7 then x24.1 else x25.1, bif x7 then x26.1 else x27.1, bif x7 then x28.1 else x29.1, (bif x7 then x31.1 else x33.1, bif x7 then x34.1 else x35.1, bif x7 then x36.1 else x37.1, bif x7 then x38.1 else x39.1, bif x7 then x40.1 else x41.1, bif x7 then x42.1 else x43.1, bif x7 then x42.2 else x43.2), IntKind.u16.wrap ((bif x7 then x44.1 else x45.1) + 2), bif x7 then x44.2 else x45.2), c.2.2.1, false, false, c.2.2.2.2.2))))
      (.leaf none))
     (.leaf none))
    (.leaf none))
   (.leaf none))

noncomputable def pFin_31 (c : TC) (s : Int) (g : List Int) (ln : Bool × Bool × Bool × Bool × Bool × Bool × Bool × Bool × Bool) : TC := getO pFinRs.dflt (pFin_31T c s g ln).val

noncomputable def pFin_31C (c : TC) (s : Int) (g : List Int) (ln : Bool × Bool × Bool × Bool × Bool × Bool × Bool × Bool × Bool) : Bool := okB (pFin_31T c s g ln).val

theorem pFin_31_ev (a : HL pFinTs) : evVal (envX Tryz.prog (pFinL 31) [] 1023 8) Tryz.f165 pFinTs pFinRs a = pFin_31T a.1 a.2.1 a.2.2.1 a.2.2.2 := by kernel_rfl

noncomputable def pFin_35T (c : TC) (s : Int) (g : List Int) (ln : Bool × Bool × Bool × Bool × Bool × Bool × Bool × Bool × Bool) : RT (Option TC) :=
  let x1 : TC × Bool × List Int × TI × List TY := (c, s == 5, g, (0, 0, 0, 0, 0, 0, 0, 0), [])
  let x2 : Bool := qAtC x1 0
  let x3 : Int × Int × Int × Int × Int × Int × Int × Int := rDecode c.1 (qAt x1 0)
  let x4 : Bool := !x2 || x3.1 == 35
  .br (pInternal s)
  (.leaf (some ((c.1, (rgx c.2.1 c.2.1.2.2.2.2.2.2.2.1 (IntKind.u16.wrap ((spOf c) - 2)) (rVector s)), c.2.2))))
  (.br (!x4 || x2)
   (.br (x4)
    (.leaf (some ((c.1, (rgx c.2.1 c.2.1.2.2.2.2.2.2.2.1 (spOf c) (qBehind (c, s == 5, g, (35, x3.2), []))), true, true, false, c.2.2.2.2.2))))
    (.leaf none))
   (.leaf none))

noncomputable def pFin_35 (c : TC) (s : Int) (g : List Int) (ln : Bool × Bool × Bool × Bool × Bool × Bool × Bool × Bool × Bool) : TC := getO pFinRs.dflt (pFin_35T c s g ln).val

noncomputable def pFin_35C (c : TC) (s : Int) (g : List Int) (ln : Bool × Bool × Bool × Bool × Bool × Bool × Bool × Bool × Bool) : Bool := okB (pFin_35T c s g ln).val

theorem pFin_35_ev (a : HL pFinTs) : evVal (envX Tryz.prog (pFinL 35) [] 1023 8) Tryz.f165 pFinTs pFinRs a = pFin_35T a.1 a.2.1 a.2.2.1 a.2.2.2 := by kernel_rfl

noncomputable def pFin_39T (c : TC) (s : Int) (g : List Int) (ln : Bool × Bool × Bool × Bool × Bool × Bool × Bool × Bool × Bool) : RT (Option TC) :=
  let x1 : TC × Bool × List Int × TI × List TY := (c, s == 5, g, (0, 0, 0, 0, 0, 0, 0, 0), [])
  let x2 : Bool := qAtC x1 0
  let x3 : Int × Int × Int × Int × Int × Int × Int × Int := rDecode c.1 (qAt x1 0)
  let x4 : Bool := !x2 || x3.1 == 39
  let x5 : TC := rSim (c.1, (rgx c.2.1 c.2.1.2.2.2.2.2.2.2.1 (spOf c) (qBehind (c, s == 5, g, (39, x3.2), []))), c.2.2.1, 39 == 35, 39 == 37, c.2.2.2.2.2) c.2.1.1
  let x6 : TR × Bool × Bool × Bool × Int × Bool × Bool × Bool × Bool × Bool × Bool × Bool := x5.2
  let x7 : Bool × Bool × Bool × Int × Bool × Bool × Bool × Bool × Bool × Bool × Bool := x6.2
  .br (pInternal s)
  (.leaf (some ((c.1, (rgx c.2.1 c.2.1.2.2.2.2.2.2.2.1 (IntKind.u16.wrap ((spOf c) - 2)) (rVector s)), c.2.2))))
  (.br (!x4 || x2)
   (.br (x4)
    (.leaf (some ((x5.1, x6.1, x7.1, false, false, x7.2.2.2))))
    (.leaf none))
   (.leaf none))

noncomputable def pFin_39 (c : TC) (s : Int) (g : List Int) (ln : Bool × Bool × Bool × Bool × Bool × Bool × Bool × Bool × Bool) : TC := getO pFinRs.dflt (pFin_39T c s g ln).val

noncomputable def pFin_39C (c : TC) (s : Int) (g : List Int) (ln : Bool × Bool × Bool × Bool × Bool × Bool × Bool × Bool × Bool) : Bool := okB (pFin_39T c s g ln).val

theorem pFin_39_ev (a : HL pFinTs) : evVal (envX Tryz.prog (pFinL 39) [] 1023 8) Tryz.f165 pFinTs pFinRs a = pFin_39T a.1 a.2.1 a.2.2.1 a.2.2.2 := by kernel_rfl

noncomputable def pFin_43T (c : TC) (s : Int) (g : List Int) (ln : Bool × Bool × Bool × Bool × Bool × Bool × Bool × Bool × Bool) : RT (Option TC) :=
  let x1 : TC × Bool × List Int × TI × List TY := (c, s == 5, g, (0, 0, 0, 0, 0, 0, 0, 0), [])
  let x2 : Bool := qAtC x1 0
  let x3 : Int × Int × Int × Int × Int × Int × Int × Int := rDecode c.1 (qAt x1 0)
  let x4 : Bool := !x2 || x3.1 == 43
  let x5 : TC × Bool × List Int × TI × List TY := (c, s == 5, g, (43, x3.2), [])
  .br (pInternal s)
  (.leaf (some ((c.1, (rgx c.2.1 c.2.1.2.2.2.2.2.2.2.1 (IntKind.u16.wrap ((spOf c) - 2)) (rVector s)), c.2.2))))
  (.br (!x4 || x2)
   (.br (x4)
    (.br (qAtC x5 1)
     (.leaf (some ((c.1, rSetPair (rgx c.2.1 c.2.1.2.2.2.2.2.2.2.1 (spOf c) (qBehind x5)) 1 (IntKind.u16.wrap (qPair x5 2 + IntKind.u16.wrap (qAt x5 1))), c.2.2.1, false, false, c.2.2.2.2.2))))
     (.leaf none))
    (.leaf none))
   (.leaf none))

noncomputable def pFin_43 (c : TC) (s : Int) (g : List Int) (ln : Bool × Bool × Bool × Bool × Bool × Bool × Bool × Bool × Bool) : TC := getO pFinRs.dflt (pFin_43T c s g ln).val

noncomputable def pFin_43C (c : TC) (s : Int) (g : List Int) (ln : Bool × Bool × Bool × Bool × Bool × Bool × Bool × Bool × Bool) : Bool := okB (pFin_43T c s g ln).val

theorem pFin_43_ev (a : HL pFinTs) : evVal (envX Tryz.prog (pFinL 43) [] 1023 8) Tryz.f165 pFinTs pFinRs a = pFin_43T a.1 a.2.1 a.2.2.1 a.2.2.2 := by kernel_rfl

noncomputable def pFin_47T (c : TC) (s : Int) (g : List Int) (ln : Bool × Bool × Bool × Bool × Bool × Bool × Bool × Bool × Bool) : RT (Option TC) :=
  let x1 : TC × Bool × List Int × TI × List TY := (c, s == 5, g, (0, 0, 0, 0, 0, 0, 0, 0), [])
  let x2 : Bool := qAtC x1 0
  let x3 : Int × Int × Int × Int × Int × Int × Int × Int := rDecode c.1 (qAt x1 0)
  let x4 : Bool := !x2 || x3.1 == 47
  let x5 : TC × Bool × List Int × TI × List TY := (c, s == 5, g, (47, x3.2), [])
  .br (pInternal s)
  (.leaf (some ((c.1, (rgx c.2.1 c.2.1.2.2.2.2.2.2.2.1 (IntKind.u16.wrap ((spOf c) - 2)) (rVector s)), c.2.2))))
  (.br (!x4 || x2)
   (.br (x4)
    (.br (qJoinC x5 1)
     (.leaf (some ((c.1, rSetPair (rgx c.2.1 c.2.1.2.2.2.2.2.2.2.1 (spOf c) (qBehind x5)) 2 (qJoin x5 1), c.2.2.1, false, false, c.2.2.2.2.2))))
     (.leaf none))
    (.leaf none))
   (.leaf none))

noncomputable def pFin_47 (c : TC) (s : Int) (g : List Int) (ln : Bool × Bool × Bool × Bool × Bool × Bool × Bool × Bool × Bool) : TC := getO pFinRs.dflt (pFin_47T c s g ln).val

noncomputable def pFin_47C (c : TC) (s : Int) (g : List Int) (ln : Bool × Bool × Bool × Bool × Bool × Bool × Bool × Bool × Bool) : Bool := okB (pFin_47T c s g ln).val

theorem pFin_47_ev (a : HL pFinTs) : evVal (envX Tryz.prog (pFinL 47) [] 1023 8) Tryz.f165 pFinTs pFinRs a = pFin_47T a.1 a.2.1 a.2.2.1 a.2.2.2 := by kernel_rfl

noncomputable def rFin_4T (c : TC) (s : Int) (g : List Int) (ln : Bool × Bool × Bool × Bool × Bool × Bool × Bool × Bool × Bool) : RT (Option TC) :=
  let x1 : Int × Int × Int × Int × Int × Int × Int × Int := rDecode c.1 (mAt (c, s == 5, g, []) 0)
  let x2 : Int × Int × Int × Int × Int × Int × Int := x1.2
  let x3 : TR := rSetPair c.2.1 x2.2.2.2.1 (mWord (c, s == 5, g, []) 1)
  let x4 : Int × Int × Int × Int × Int × Int × TF × Int × Int := x3.2
  let x5 : Int × Int × Int × Int × Int × TF × Int × Int := x4.2
  let x6 : Int × Int × Int × Int × TF × Int × Int := x5.2
  let x7 : Int × Int × Int × TF × Int × Int := x6.2
  let x8 : Int × Int × TF × Int × Int := x7.2
  let x9 : Int × TF × Int × Int := x8.2
  let x10 : TF × Int × Int := x9.2
  .br (rInternal s)
  (.leaf (some ((c.1, (rgx c.2.1 c.2.1.2.2.2.2.2.2.2.1 (IntKind.u16.wrap ((spOf c) - 2)) (rVector s)), c.2.2))))
  (.br (!mAtC (c, s == 5, g, []) 0 || x1.1 == 4)
   (.br (mAtC (c, s == 5, g, []) 0)
    (.br (mWordC (c, s == 5, g, []) 1)
     (.leaf (some ((c.1, (x3.1, x4.1, x5.1, x6.1, x7.1, x8.1, x9.1, x10.1, x10.2.1, mBehind (c, s == 5, g, []) x2.1), c.2.2.1, false, false, c.2.2.2.2.2))))
     (.leaf none))
    (.leaf none))
   (.leaf none))

noncomputable def rFin_4 (c : TC) (s : Int) (g : List Int) (ln : Bool × Bool × Bool × Bool × Bool × Bool × Bool × Bool × Bool) : TC := getO rFinRs.dflt (rFin_4T c s g ln).val

noncomputable def rFin_4C (c : TC) (s : Int) (g : List Int) (ln : Bool × Bool × Bool × Bool × Bool × Bool × Bool × Bool × Bool) : Bool := okB (rFin_4T c s g ln).val

theorem rFin_4_ev (a : HL rFinTs) : evVal (envX Tryz.prog (rFinL 4) [] 79250227772808467515411824639 8) Tryz.f26 rFinTs rFinRs a = rFin_4T a.1 a.2.1 a.2.2.1 a.2.2.2 := by kernel_rfl

noncomputable def rFin_8T (c : TC) (s : Int) (g : List Int) (ln : Bool × Bool × Bool × Bool × Bool × Bool × Bool × Bool × Bool) : RT (Option TC) :=
  let x1 : Int × Int × Int × Int × Int × Int × Int × Int := rDecode c.1 (mAt (c, s == 5, g, []) 0)
  .br (rInternal s)
  (.leaf (some ((c.1, (rgx c.2.1 c.2.1.2.2.2.2.2.2.2.1 (IntKind.u16.wrap ((spOf c) - 2)) (rVector s)), c.2.2))))
  (.br (!mAtC (c, s == 5, g, []) 0 || x1.1 == 8)
   (.br (mAtC (c, s == 5, g, []) 0)
    (.leaf (some ((c.1, (rgx c.2.1 c.2.1.2.2.2.2.2.2.2.1 (spOf c) (mBehind (c, s == 5, g, []) x1.2.1)), c.2.2.1, false, false, c.2.2.2.2.2))))
    (.leaf none))
   (.leaf none))

noncomputable def rFin_8 (c : TC) (s : Int) (g : List Int) (ln : Bool × Bool × Bool × Bool × Bool × Bool × Bool × Bool × Bool) : TC := getO rFinRs.dflt (rFin_8T c s g ln).val

noncomputable def rFin_8C (c : TC) (s : Int) (g : List Int) (ln : Bool × Bool × Bool × Bool × Bool × Bool × Bool × Bool × Bool) : Bool := okB (rFin_8T c s g ln).val

theorem rFin_8_ev (a : HL rFinTs) : evVal (envX Tryz.prog (rFinL 8) [] 79250227772808467515411824639 8) Tryz.f26 rFinTs rFinRs a = rFin_8T a.1 a.2.1 a.2.2.1 a.2.2.2 := by kernel_rfl

noncomputable def rFin_12T (c : TC) (s : Int) (g : List Int) (ln : Bool × Bool × Bool × Bool × Bool × Bool × Bool × Bool × Bool) : RT (Option TC) :=
  let x1 : Int × Int × Int × Int × Int × Int × Int × Int := rDecode c.1 (mAt (c, s == 5, g, []) 0)
  let x2 : Int × Int × Int × Int × Int × Int × Int := x1.2
  let x3 : Int × Int × Int × Int × Int := x2.2.2
  let x4 : Int := x3.1
  let x5 : Bool := x4 == 6
  let x6 : Int × Bool × Bool × Bool × Bool × Bool × Bool × Bool := rDo c.1 x3.2.2.1 c.2.1.1 (bif x5 then mAt (c, s == 5, g, []) 1 else rGet c.2.1 x4) c.2.1.2.2.2.2.2.2.2.1
  .br (rInternal s)
  (.leaf (some ((c.1, (rgx c.2.1 c.2.1.2.2.2.2.2.2.2.1 (IntKind.u16.wrap ((spOf c) - 2)) (rVector s)), c.2.2))))
  (.br (!mAtC (c, s == 5, g, []) 0 || x1.1 == 12)
   (.br (mAtC (c, s == 5, g, []) 0)
    (.br (!x5 || mAtC (c, s == 5, g, []) 1)
     (.leaf (some ((c.1, (x6.1, c.2.1.2.1, c.2.1.2.2.1, c.2.1.2.2.2.1, c.2.1.2.2.2.2.1, c.2.1.2.2.2.2.2.1, c.2.1.2.2.2.2.2.2.1, x6.2, spOf c, mBehind (c, s == 5, g, []) x2.1), c.2.2.1, false, false, c.2.2.2.2.2))))
     (.leaf none))
    (.leaf none))
   (.leaf none))

noncomputable def rFin_12 (c : TC) (s : Int) (g : List Int) (ln : Bool × Bool × Bool × Bool × Bool × Bool × Bool × Bool × Bool) : TC := getO rFinRs.dflt (rFin_12T c s g ln).val

noncomputable def rFin_12C (c : TC) (s : Int) (g : List Int) (ln : Bool × Bool × Bool × Bool × Bool × Bool × Bool × Bool × Bool) : Bool := okB (rFin_12T c s g ln).val

theorem rFin_12_ev (a : HL rFinTs) : evVal (envX Tryz.prog (rFinL 12) [] 79250227772808467515411824639 8) Tryz.f26 rFinTs rFinRs a = rFin_12T a.1 a.2.1 a.2.2.1 a.2.2.2 := by kernel_rfl

noncomputable def rFin_16T (c : TC) (s : Int) (g : List Int) (ln : Bool × Bool × Bool × Bool × Bool × Bool × Bool × Bool × Bool) : RT (Option TC) :=
  let x1 : Int × Int × Int × Int × Int × Int × Int × Int := rDecode c.1 (mAt (c, s == 5, g, []) 0)
  let x2 : Int × Int × Int × Int × Int × Int × Int := x1.2
  let x3 : Int := x2.2.2.2.1
  let x4 : Int × Bool × Bool × Bool × Bool × Bool × Bool × Bool := rInx c.1 (rPair c.2.1 x3) c.2.1.2.2.2.2.2.2.2.1
  let x5 : TR := rSetPair c.2.1 x3 x4.1
  let x6 : Int × Int × Int × Int × Int × Int × TF × Int × Int := x5.2
  let x7 : Int × Int × Int × Int × Int × TF × Int × Int := x6.2
  let x8 : Int × Int × Int × Int × TF × Int × Int := x7.2
  let x9 : Int × Int × Int × TF × Int × Int := x8.2
  let x10 : Int × Int × TF × Int × Int := x9.2
  let x11 : Int × TF × Int × Int := x10.2
  .br (rInternal s)
  (.leaf (some ((c.1, (rgx c.2.1 c.2.1.2.2.2.2.2.2.2.1 (IntKind.u16.wrap ((spOf c) - 2)) (rVector s)), c.2.2))))
  (.br (!mAtC (c, s == 5, g, []) 0 || x1.1 == 16)
   (.br (mAtC (c, s == 5, g, []) 0)
    (.leaf (some ((c.1, (x5.1, x6.1, x7.1, x8.1, x9.1, x10.1, x11.1, x4.2, x11.2.2.1, mBehind (c, s == 5, g, []) x2.1), c.2.2.1, false, false, c.2.2.2.2.2))))
    (.leaf none))
   (.leaf none))

noncomputable def rFin_16 (c : TC) (s : Int) (g : List Int) (ln : Bool × Bool × Bool × Bool × Bool × Bool × Bool × Bool × Bool) : TC := getO rFinRs.dflt (rFin_16T c s g ln).val

noncomputable def rFin_16C (c : TC) (s : Int) (g : List Int) (ln : Bool × Bool × Bool × Bool × Bool × Bool × Bool × Bool × Bool) : Bool := okB (rFin_16T c s g ln).val

theorem rFin_16_ev (a : HL rFinTs) : evVal (envX Tryz.prog (rFinL 16) [] 79250227772808467515411824639 8) Tryz.f26 rFinTs rFinRs a = rFin_16T a.1 a.2.1 a.2.2.1 a.2.2.2 := by kernel_rfl

noncomputable def rFin_20T (c : TC) (s : Int) (g : List Int) (ln : Bool × Bool × Bool × Bool × Bool × Bool × Bool × Bool × Bool) : RT (Option TC) :=
  let x1 : Int × Int × Int × Int × Int × Int × Int × Int := rDecode c.1 (mAt (c, s == 5, g, []) 0)
  .br (rInternal s)
  (.leaf (some ((c.1, (rgx c.2.1 c.2.1.2.2.2.2.2.2.2.1 (IntKind.u16.wrap ((spOf c) - 2)) (rVector s)), c.2.2))))
  (.br (!mAtC (c, s == 5, g, []) 0 || x1.1 == 20)
   (.br (mAtC (c, s == 5, g, []) 0)
    (.leaf (some ((c.1, (IntKind.u8.wrap (255 - c.2.1.1), c.2.1.2.1, c.2.1.2.2.1, c.2.1.2.2.2.1, c.2.1.2.2.2.2.1, c.2.1.2.2.2.2.2.1, c.2.1.2.2.2.2.2.2.1, c.2.1.2.2.2.2.2.2.2.1, spOf c, mBehind (c, s == 5, g, []) x1.2.1), c.2.2.1, false, false, c.2.2.2.2.2))))
    (.leaf none))
   (.leaf none))

noncomputable def rFin_20 (c : TC) (s : Int) (g : List Int) (ln : Bool × Bool × Bool × Bool × Bool × Bool × Bool × Bool × Bool) : TC := getO rFinRs.dflt (rFin_20T c s g ln).val

noncomputable def rFin_20C (c : TC) (s : Int) (g : List Int) (ln : Bool × Bool × Bool × Bool × Bool × Bool × Bool × Bool × Bool) : Bool := okB (rFin_20T c s g ln).val

theorem rFin_20_ev (a : HL rFinTs) : evVal (envX Tryz.prog (rFinL 20) [] 79250227772808467515411824639 8) Tryz.f26 rFinTs rFinRs a = rFin_20T a.1 a.2.1 a.2.2.1 a.2.2.2 := by kernel_rfl

noncomputable def rFin_24T (c : TC) (s : Int) (g : List Int) (ln : Bool × Bool × Bool × Bool × Bool × Bool × Bool × Bool × Bool) : RT (Option TC) :=
  let x1 : Int × Int × Int × Int × Int × Int × Int × Int := rDecode c.1 (mAt (c, s == 5, g, []) 0)
  let x2 : Int × Int × Int × Int × Int × Int × Int := x1.2
  let x3 : Bool := !mTaken (c, s == 5, g, []) (24, x2)
  let x4 : Bool := c.2.1.2.2.2.2.2.2.2.1.2.2.1
  let x5 : Bool × Bool × Bool × Bool := c.2.1.2.2.2.2.2.2.2.1.2.2.2
  let x6 : Bool := x5.1
  let x7 : Bool × Bool × Bool := x5.2
  let x8 : Bool := x7.1
  let x9 : Bool × Bool := x7.2
  let x10 : Bool := x9.1
  let x11 : Bool := x9.2
  .br (rInternal s)
  (.leaf (some ((c.1, (rgx c.2.1 c.2.1.2.2.2.2.2.2.2.1 (IntKind.u16.wrap ((spOf c) - 2)) (rVector s)), c.2.2))))
  (.br (!mAtC (c, s == 5, g, []) 0 || x1.1 == 24)
   (.br (mAtC (c, s == 5, g, []) 0)
    (.br (x3 || mWordC (c, s == 5, g, []) 1)
     (.leaf (some ((bif x3 then c.1 else c.1, (bif x3 then c.2.1.1 else c.2.1.1, bif x3 then c.2.1.2.1 else c.2.1.2.1, bif x3 then c.2.1.2.2.1 else c.2.1.2.2.1, bif x3 then c.2.1.2.2.2.1 else c.2.1.2.2.2.1, bif x3 then c.2.1.2.2.2.2.1 else c.2.1.2.2.2.2.1, bif x3 then c.2.1.2.2.2.2.2.1 else c.2.1.2.2.2.2.2.1, bif x3 then c.2.1.2.2.2.2.2.2.1 else c.2.1.2.2.2.2.2.2.1, (bif x3 then c.2.1.2.2.2.2.2.2.2.1.1 else c.2.1.2.2.2.2.2.2.2.1.1, bif x3 then c.2.1.2.2.2.2.2.2.2.1.2.1 else c.2.1.2.2.2.2.2.2.2.1.2.1, bif x3 then x4 else x4, bif x3 then x6 else x6, bif x3 then x8 else x8, bif x3 then x10 else x10, bif x3 then x11 else x11), bif x3 then (spOf c) else (spOf c), bif x3 then mBehind (c, s == 5, g, []) x2.1 else mWord (c, s == 5, g, []) 1), bif x3 then c.2.2.1 else c.2.2.1, false, false, bif x3 then c.2.2.2.2.2.1 else c.2.2.2.2.2.1, bif x3 then c.2.2.2.2.2.2.1 else c.2.2.2.2.2.2.1, bif x3 then c.2.2.2.2.2.2.2.1 else c.2.2.2.2.2.2.2.1, bif x3 then c.2.2.2.2.2.2.2.2.1 else c.2.2.2.2.2.2.2.2.1, bif x3 then c.2.2.2.2.2.2.2.2.2.1 else c.2.2.2.2.2.2.2.2.2.1, bif x3 then c.2.2.2.2.2.2.2.2.2.2.1 else c.2.2.2.2.2.2.2.2.2.2.1, bif x3 then c.2.2.2.2.2.2.2.2.2.2.2.1 else c.2.2.2.2.2.2.2.2.2.2.2.1, bif x3 then c.2.2.2.2.2.2.2.2.2.2.2.2 else c.2.2.2.2.2.2.2.2.2.2.2.2))))
     (.leaf none))
    (.leaf none))
   (.leaf none))

noncomputable def rFin_24 (c : TC) (s : Int) (g : List Int) (ln : Bool × Bool × Bool × Bool × Bool × Bool × Bool × Bool × Bool) : TC := getO rFinRs.dflt (rFin_24T c s g ln).val

noncomputable def rFin_24C (c : TC) (s : Int) (g : List Int) (ln : Bool × Bool × Bool × Bool × Bool × Bool × Bool × Bool × Bool) : Bool := okB (rFin_24T c s g ln).val

theorem rFin_24_ev (a : HL rFinTs) : evVal (envX Tryz.prog (rFinL 24) [] 79250227772808467515411824639 8) Tryz.f26 rFinTs rFinRs a = rFin_24T a.1 a.2.1 a.2.2.1 a.2.2.2 := by kernel_rfl

noncomputable def rFin_28T (c : TC) (s : Int) (g : List Int) (ln : Bool × Bool × Bool × Bool × Bool × Bool × Bool × Bool × Bool) : RT (Option TC) :=
  let x1 : Int × Int × Int × Int × Int × Int × Int × Int := rDecode c.1 (mAt (c, s == 5, g, []) 0)
  .br (rInternal s)
  (.leaf (some ((c.1, (rgx c.2.1 c.2.1.2.2.2.2.2.2.2.1 (IntKind.u16.wrap ((spOf c) - 2)) (rVector s)), c.2.2))))
  (.br (!mAtC (c, s == 5, g, []) 0 || x1.1 == 28)
   (.br (mAtC (c, s == 5, g, []) 0)
    (.leaf (some ((c.1, (rgx c.2.1 c.2.1.2.2.2.2.2.2.2.1 (spOf c) (rPair (rgx c.2.1 c.2.1.2.2.2.2.2.2.2.1 (spOf c) (mBehind (c, s == 5, g, []) x1.2.1)) 2)), c.2.2.1, false, false, c.2.2.2.2.2))))
    (.leaf none))
   (.leaf none))

noncomputable def rFin_28 (c : TC) (s : Int) (g : List Int) (ln : Bool × Bool × Bool × Bool × Bool × Bool × Bool × Bool × Bool) : TC := getO rFinRs.dflt (rFin_28T c s g ln).val

noncomputable def rFin_28C (c : TC) (s : Int) (g : List Int) (ln : Bool × Bool × Bool × Bool × Bool × Bool × Bool × Bool × Bool) : Bool := okB (rFin_28T c s g ln).val

theorem rFin_28_ev (a : HL rFinTs) : evVal (envX Tryz.prog (rFinL 28) [] 79250227772808467515411824639 8) Tryz.f26 rFinTs rFinRs a = rFin_28T a.1 a.2.1 a.2.2.1 a.2.2.2 := by kernel_rfl

noncomputable def rFin_32T (c : TC) (s : Int) (g : List Int) (ln : Bool × Bool × Bool × Bool × Bool × Bool × Bool × Bool × Bool) : RT (Option TC) :=
  let x1 : Int × Int × Int × Int × Int × Int × Int × Int := rDecode c.1 (mAt (c, s == 5, g, []) 0)
  let x2 : Bool := !mAtC (c, s == 5, g, []) 1 || mAtC (c, s == 5, g, []) 2
  let x3 : Bool := !x2 || mAtC (c, s == 5, g, []) 1
  let x4 : Bool := !x3 || x2
  .br (rInternal s)
  (.leaf (some ((c.1, (rgx c.2.1 c.2.1.2.2.2.2.2.2.2.1 (IntKind.u16.wrap ((spOf c) - 2)) (rVector s)), c.2.2))))
  (.br (!mAtC (c, s == 5, g, []) 0 || x1.1 == 32)
   (.br (mAtC (c, s == 5, g, []) 0)
    (.br (!x4 || x3)
     (.br (x4)
      (.leaf (some ((c.1, (c.2.1.1, c.2.1.2.1, c.2.1.2.2.1, c.2.1.2.2.2.1, c.2.1.2.2.2.2.1, mAt (c, s == 5, g, []) 2, mAt (c, s == 5, g, []) 1, c.2.1.2.2.2.2.2.2.2.1, spOf c, mBehind (c, s == 5, g, []) x1.2.1), c.2.2.1, false, false, c.2.2.2.2.2))))
      (.leaf none))
     (.leaf none))
    (.leaf none))
   (.leaf none))

noncomputable def rFin_32 (c : TC) (s : Int) (g : List Int) (ln : Bool × Bool × Bool × Bool × Bool × Bool × Bool × Bool × Bool) : TC := getO rFinRs.dflt (rFin_32T c s g ln).val

noncomputable def rFin_32C (c : TC) (s : Int) (g : List Int) (ln : Bool × Bool × Bool × Bool × Bool × Bool × Bool × Bool × Bool) : Bool := okB (rFin_32T c s g ln).val

theorem rFin_32_ev (a : HL rFinTs) : evVal (envX Tryz.prog (rFinL 32) [] 79250227772808467515411824639 8) Tryz.f26 rFinTs rFinRs a = rFin_32T a.1 a.2.1 a.2.2.1 a.2.2.2 := by kernel_rfl

noncomputable def rFin_36T (c : TC) (s : Int) (g : List Int) (ln : Bool × Bool × Bool × Bool × Bool × Bool × Bool × Bool × Bool) : RT (Option TC) :=
  let x1 : Int × Int × Int × Int × Int × Int × Int × Int := rDecode c.1 (mAt (c, s == 5, g, []) 0)
  .br (rInternal s)
  (.leaf (some ((c.1, (rgx c.2.1 c.2.1.2.2.2.2.2.2.2.1 (IntKind.u16.wrap ((spOf c) - 2)) (rVector s)), c.2.2))))
  (.br (!mAtC (c, s == 5, g, []) 0 || x1.1 == 36)
   (.br (mAtC (c, s == 5, g, []) 0)
    (.leaf (some ((c.1, (rgx c.2.1 c.2.1.2.2.2.2.2.2.2.1 (spOf c) (mBehind (c, s == 5, g, []) x1.2.1)), false, false, false, c.2.2.2.2.2))))
    (.leaf none))
   (.leaf none))

noncomputable def rFin_36 (c : TC) (s : Int) (g : List Int) (ln : Bool × Bool × Bool × Bool × Bool × Bool × Bool × Bool × Bool) : TC := getO rFinRs.dflt (rFin_36T c s g ln).val

noncomputable def rFin_36C (c : TC) (s : Int) (g : List Int) (ln : Bool × Bool × Bool × Bool × Bool × Bool × Bool × Bool × Bool) : Bool := okB (rFin_36T c s g ln).val

theorem rFin_36_ev (a : HL rFinTs) : evVal (envX Tryz.prog (rFinL 36) [] 79250227772808467515411824639 8) Tryz.f26 rFinTs rFinRs a = rFin_36T a.1 a.2.1 a.2.2.1 a.2.2.2 := by kernel_rfl

noncomputable def rFin_40T (c : TC) (s : Int) (g : List Int) (ln : Bool × Bool × Bool × Bool × Bool × Bool × Bool × Bool × Bool) : RT (Option TC) :=
  let x1 : Int × Int × Int × Int × Int × Int × Int × Int := rDecode c.1 (mAt (c, s == 5, g, []) 0)
  let x2 : TR := rSetPair c.2.1 2 (rDsub (rPair c.2.1 2) (rPair c.2.1 0)).1
  let x3 : Int × Int × Int × Int × Int × Int × TF × Int × Int := x2.2
  let x4 : Int × Int × Int × Int × Int × TF × Int × Int := x3.2
  let x5 : Int × Int × Int × Int × TF × Int × Int := x4.2
  let x6 : Int × Int × Int × TF × Int × Int := x5.2
  let x7 : Int × Int × TF × Int × Int := x6.2
  let x8 : Int × TF × Int × Int := x7.2
  .br (rInternal s)
  (.leaf (some ((c.1, (rgx c.2.1 c.2.1.2.2.2.2.2.2.2.1 (IntKind.u16.wrap ((spOf c) - 2)) (rVector s)), c.2.2))))
  (.br (!mAtC (c, s == 5, g, []) 0 || x1.1 == 40)
   (.br (mAtC (c, s == 5, g, []) 0)
    (.leaf (some ((c.1, (x2.1, x3.1, x4.1, x5.1, x6.1, x7.1, x8.1, (rDsub (rPair c.2.1 2) (rPair c.2.1 0)).2, x8.2.2.1, mBehind (c, s == 5, g, []) x1.2.1), c.2.2.1, false, false, c.2.2.2.2.2))))
    (.leaf none))
   (.leaf none))

noncomputable def rFin_40 (c : TC) (s : Int) (g : List Int) (ln : Bool × Bool × Bool × Bool × Bool × Bool × Bool × Bool × Bool) : TC := getO rFinRs.dflt (rFin_40T c s g ln).val

noncomputable def rFin_40C (c : TC) (s : Int) (g : List Int) (ln : Bool × Bool × Bool × Bool × Bool × Bool × Bool × Bool × Bool) : Bool := okB (rFin_40T c s g ln).val

theorem rFin_40_ev (a : HL rFinTs) : evVal (envX Tryz.prog (rFinL 40) [] 79250227772808467515411824639 8) Tryz.f26 rFinTs rFinRs a = rFin_40T a.1 a.2.1 a.2.2.1 a.2.2.2 := by kernel_rfl

noncomputable def rFin_44T (c : TC) (s : Int) (g : List Int) (ln : Bool × Bool × Bool × Bool × Bool × Bool × Bool × Bool × Bool) : RT (Option TC) :=
  let x1 : Int × Int × Int × Int × Int × Int × Int × Int := rDecode c.1 (mAt (c, s == 5, g, []) 0)
  let x2 : TR := rSetPair c.2.1 1 (IntKind.u16.wrap ((spOf c) + IntKind.u16.wrap (mAt (c, s == 5, g, []) 1)))
  let x3 : Int × Int × Int × Int × Int × Int × TF × Int × Int := x2.2
  let x4 : Int × Int × Int × Int × Int × TF × Int × Int := x3.2
  let x5 : Int × Int × Int × Int × TF × Int × Int := x4.2
  let x6 : Int × Int × Int × TF × Int × Int := x5.2
  let x7 : Int × Int × TF × Int × Int := x6.2
  let x8 : Int × TF × Int × Int := x7.2
  let x9 : TF × Int × Int := x8.2
  .br (rInternal s)
  (.leaf (some ((c.1, (rgx c.2.1 c.2.1.2.2.2.2.2.2.2.1 (IntKind.u16.wrap ((spOf c) - 2)) (rVector s)), c.2.2))))
  (.br (!mAtC (c, s == 5, g, []) 0 || x1.1 == 44)
   (.br (mAtC (c, s == 5, g, []) 0)
    (.br (mAtC (c, s == 5, g, []) 1)
     (.leaf (some ((c.1, (x2.1, x3.1, x4.1, x5.1, x6.1, x7.1, x8.1, x9.1, x9.2.1, mBehind (c, s == 5, g, []) x1.2.1), c.2.2.1, false, false, c.2.2.2.2.2))))
     (.leaf none))
    (.leaf none))
   (.leaf none))

noncomputable def rFin_44 (c : TC) (s : Int) (g : List Int) (ln : Bool × Bool × Bool × Bool × Bool × Bool × Bool × Bool × Bool) : TC := getO rFinRs.dflt (rFin_44T c s g ln).val

noncomputable def rFin_44C (c : TC) (s : Int) (g : List Int) (ln : Bool × Bool × Bool × Bool × Bool × Bool × Bool × Bool × Bool) : Bool := okB (rFin_44T c s g ln).val

theorem rFin_44_ev (a : HL rFinTs) : evVal (envX Tryz.prog (rFinL 44) [] 79250227772808467515411824639 8) Tryz.f26 rFinTs rFinRs a = rFin_44T a.1 a.2.1 a.2.2.1 a.2.2.2 := by kernel_rfl
end
end Go.Proofs.YteboknglfjadoaaGreat
