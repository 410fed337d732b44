/-
  What the makers of inputs make: in range, and never a panic. Conditions: none.
-/
import Derived.Test.YtpkijkmagnhciaaGreatS3D
import Derived.Test.YtpkijkmagnhciaaGreatProg
import Derived.Test.YtpkijkmagnhciaaGreatFin2
import Derived.Test.YtpkijkmagnhciaaGreatPinsEq
set_option linter.unusedSimpArgs false
open Go Go.S3 Go.Proofs
set_option linter.unusedVariables false
set_option maxRecDepth 100000
namespace Go.Proofs.YtpkijkmagnhciaaGreat
noncomputable section
def pFin_3T (c : TC) (s : Int) (g : List Int) (ln : Bool × Bool × Bool × Bool × Bool × Bool × Bool × Bool × Bool) : RT (Option TC) :=
  let x1 : TC × Bool × List Int × TI × List TY := (c, s == 5, g, (0, 0, 0, 0, 0, 0, 0, 0), [])
  let x2 : Bool := qAtC x1 0
  let x3 : Int × Int × Int × Int × Int × Int × Int × Int := rDecode c.1 (qAt x1 0)
  let x4 : Bool := !x2 || x3.1 == 3
  let x5 : Int × Int × Int × Int × Int × Int × Int := x3.2
  let x6 : TC × Bool × List Int × TI × List TY := (c, s == 5, g, (3, x5), [])
  .br (pInternal s)
  (.leaf (some ((c.1, (rgx c.2.1 c.2.1.2.2.2.2.2.2.2.1 (IntKind.u16.wrap ((spOf c) - 2)) (rVector s)), c.2.2))))
  (.br (!x4 || x2)
   (.br (x4)
    (.br (qAtC x6 1)
     (.leaf (some ((c.1, rSet (rgx c.2.1 c.2.1.2.2.2.2.2.2.2.1 (spOf c) (qBehind x6)) x5.2.1 (qAt x6 1), c.2.2.1, false, false, c.2.2.2.2.2))))
     (.leaf none))
    (.leaf none))
   (.leaf none))
theorem pFin_3_ev (a : HL pFinTs) : evVal (envX Tryz.prog (pFinL 3) [] 1023 8) Tryz.f116 pFinTs pFinRs a = pFin_3T a.1 a.2.1 a.2.2.1 a.2.2.2 := by kernel_rfl
def pFin_7T (c : TC) (s : Int) (g : List Int) (ln : Bool × Bool × Bool × Bool × Bool × Bool × Bool × Bool × Bool) : RT (Option TC) :=
  let x1 : TC × Bool × List Int × TI × List TY := (c, s == 5, g, (0, 0, 0, 0, 0, 0, 0, 0), [])
  let x2 : Bool := qAtC x1 0
  let x3 : Int × Int × Int × Int × Int × Int × Int × Int := rDecode c.1 (qAt x1 0)
  let x4 : Bool := !x2 || x3.1 == 7
  let x5 : TC × Bool × List Int × TI × List TY := (c, s == 5, g, (7, x3.2), [])
  .br (pInternal s)
  (.leaf (some ((c.1, (rgx c.2.1 c.2.1.2.2.2.2.2.2.2.1 (IntKind.u16.wrap ((spOf c) - 2)) (rVector s)), c.2.2))))
  (.br (!x4 || x2)
   (.br (x4)
    (.br (qJoinC x5 3)
     (.leaf (some ((c.1, rSetPair (rgx c.2.1 c.2.1.2.2.2.2.2.2.2.1 (spOf c) (qBehind x5)) 2 (qJoin x5 3), c.2.2.1, false, false, c.2.2.2.2.2))))
     (.leaf none))
    (.leaf none))
   (.leaf none))
theorem pFin_7_ev (a : HL pFinTs) : evVal (envX Tryz.prog (pFinL 7) [] 1023 8) Tryz.f116 pFinTs pFinRs a = pFin_7T a.1 a.2.1 a.2.2.1 a.2.2.2 := by kernel_rfl
def pFin_11T (c : TC) (s : Int) (g : List Int) (ln : Bool × Bool × Bool × Bool × Bool × Bool × Bool × Bool × Bool) : RT (Option TC) :=
  let x1 : TC × Bool × List Int × TI × List TY := (c, s == 5, g, (0, 0, 0, 0, 0, 0, 0, 0), [])
  let x2 : Bool := qAtC x1 0
  let x3 : Int × Int × Int × Int × Int × Int × Int × Int := rDecode c.1 (qAt x1 0)
  let x4 : Bool := !x2 || x3.1 == 11
  .br (pInternal s)
  (.leaf (some ((c.1, (rgx c.2.1 c.2.1.2.2.2.2.2.2.2.1 (IntKind.u16.wrap ((spOf c) - 2)) (rVector s)), c.2.2))))
  (.br (!x4 || x2)
   (.br (x4)
    (.leaf (some ((c.1, (c.2.1.1, c.2.1.2.1, c.2.1.2.2.1, c.2.1.2.2.2.2.2.1, c.2.1.2.2.2.2.2.2.1, c.2.1.2.2.2.1, c.2.1.2.2.2.2.1, c.2.1.2.2.2.2.2.2.2.1, spOf c, qBehind (c, s == 5, g, (11, x3.2), [])), c.2.2.1, false, false, c.2.2.2.2.2))))
    (.leaf none))
   (.leaf none))
theorem pFin_11_ev (a : HL pFinTs) : evVal (envX Tryz.prog (pFinL 11) [] 1023 8) Tryz.f116 pFinTs pFinRs a = pFin_11T a.1 a.2.1 a.2.2.1 a.2.2.2 := by kernel_rfl
def pFin_15T (c : TC) (s : Int) (g : List Int) (ln : Bool × Bool × Bool × Bool × Bool × Bool × Bool × Bool × Bool) : RT (Option TC) :=
  let x1 : TC × Bool × List Int × TI × List TY := (c, s == 5, g, (0, 0, 0, 0, 0, 0, 0, 0), [])
  let x2 : Bool := qAtC x1 0
  let x3 : Int × Int × Int × Int × Int × Int × Int × Int := rDecode c.1 (qAt x1 0)
  let x4 : Bool := !x2 || x3.1 == 15
  let x5 : Int × Int × Int × Int × Int × Int × Int := x3.2
  let x6 : Int := x5.2.1
  let x7 : Bool := x6 == 6
  let x8 : TC × Bool × List Int × TI × List TY := (c, s == 5, g, (15, x5), [])
  let x9 : Int × Bool × Bool × Bool × Bool × Bool × Bool × Bool := rDcr c.1 (bif x7 then qAt x8 1 else qReg x8 x6) c.2.1.2.2.2.2.2.2.2.1
  .br (pInternal s)
  (.leaf (some ((c.1, (rgx c.2.1 c.2.1.2.2.2.2.2.2.2.1 (IntKind.u16.wrap ((spOf c) - 2)) (rVector s)), c.2.2))))
  (.br (!x4 || x2)
   (.br (x4)
    (.br (!x7 || qAtC x8 1)
     (.leaf (some ((c.1, rSet (rgx c.2.1 x9.2 (spOf c) (qBehind x8)) x6 x9.1, c.2.2.1, false, false, c.2.2.2.2.2))))
     (.leaf none))
    (.leaf none))
   (.leaf none))
theorem pFin_15_ev (a : HL pFinTs) : evVal (envX Tryz.prog (pFinL 15) [] 1023 8) Tryz.f116 pFinTs pFinRs a = pFin_15T a.1 a.2.1 a.2.2.1 a.2.2.2 := by kernel_rfl
def pFin_19T (c : TC) (s : Int) (g : List Int) (ln : Bool × Bool × Bool × Bool × Bool × Bool × Bool × Bool × Bool) : RT (Option TC) :=
  let x1 : TC × Bool × List Int × TI × List TY := (c, s == 5, g, (0, 0, 0, 0, 0, 0, 0, 0), [])
  let x2 : Bool := qAtC x1 0
  let x3 : Int × Int × Int × Int × Int × Int × Int × Int := rDecode c.1 (qAt x1 0)
  let x4 : Bool := !x2 || x3.1 == 19
  let x5 : Int × Bool × Bool × Bool × Bool × Bool × Bool × Bool := rDaa c.1 c.2.1.1 c.2.1.2.2.2.2.2.2.2.1
  .br (pInternal s)
  (.leaf (some ((c.1, (rgx c.2.1 c.2.1.2.2.2.2.2.2.2.1 (IntKind.u16.wrap ((spOf c) - 2)) (rVector s)), c.2.2))))
  (.br (!x4 || x2)
   (.br (x4)
    (.leaf (some ((c.1, (x5.1, c.2.1.2.1, c.2.1.2.2.1, c.2.1.2.2.2.1, c.2.1.2.2.2.2.1, c.2.1.2.2.2.2.2.1, c.2.1.2.2.2.2.2.2.1, x5.2, spOf c, qBehind (c, s == 5, g, (19, x3.2), [])), c.2.2.1, false, false, c.2.2.2.2.2))))
    (.leaf none))
   (.leaf none))
theorem pFin_19_ev (a : HL pFinTs) : evVal (envX Tryz.prog (pFinL 19) [] 1023 8) Tryz.f116 pFinTs pFinRs a = pFin_19T a.1 a.2.1 a.2.2.1 a.2.2.2 := by kernel_rfl
def pFin_23T (c : TC) (s : Int) (g : List Int) (ln : Bool × Bool × Bool × Bool × Bool × Bool × Bool × Bool × Bool) : RT (Option TC) :=
  let x1 : TC × Bool × List Int × TI × List TY := (c, s == 5, g, (0, 0, 0, 0, 0, 0, 0, 0), [])
  let x2 : Bool := qAtC x1 0
  let x3 : Int × Int × Int × Int × Int × Int × Int × Int := rDecode c.1 (qAt x1 0)
  let x4 : Bool := !x2 || x3.1 == 23
  let x5 : Int × Int × Int × Int × Int × Int × Int := x3.2
  let x6 : Bool × Bool × Bool × Bool := c.2.1.2.2.2.2.2.2.2.1.2.2.2
  let x7 : Bool × Bool × Bool := x6.2
  let x8 : Bool × Bool := x7.2
  let x9 : Int × Bool := rRot x5.2.2.2.2.1 c.2.1.1 x8.2
  .br (pInternal s)
  (.leaf (some ((c.1, (rgx c.2.1 c.2.1.2.2.2.2.2.2.2.1 (IntKind.u16.wrap ((spOf c) - 2)) (rVector s)), c.2.2))))
  (.br (!x4 || x2)
   (.br (x4)
    (.leaf (some ((c.1, (x9.1, c.2.1.2.1, c.2.1.2.2.1, c.2.1.2.2.2.1, c.2.1.2.2.2.2.1, c.2.1.2.2.2.2.2.1, c.2.1.2.2.2.2.2.2.1, (c.2.1.2.2.2.2.2.2.2.1.1, c.2.1.2.2.2.2.2.2.2.1.2.1, c.2.1.2.2.2.2.2.2.2.1.2.2.1, x6.1, x7.1, x8.1, x9.2), spOf c, qBehind (c, s == 5, g, (23, x5), [])), c.2.2.1, false, false, c.2.2.2.2.2))))
    (.leaf none))
   (.leaf none))
theorem pFin_23_ev (a : HL pFinTs) : evVal (envX Tryz.prog (pFinL 23) [] 1023 8) Tryz.f116 pFinTs pFinRs a = pFin_23T a.1 a.2.1 a.2.2.1 a.2.2.2 := by kernel_rfl
def pFin_27T (c : TC) (s : Int) (g : List Int) (ln : Bool × Bool × Bool × Bool × Bool × Bool × Bool × Bool × Bool) : RT (Option TC) :=
  let x1 : Int := IntKind.u16.wrap ((spOf c) - 2)
  let x2 : TC × Bool × List Int × TI × List TY := (c, s == 5, g, (0, 0, 0, 0, 0, 0, 0, 0), [])
  let x3 : Bool := qAtC x2 0
  let x4 : Int × Int × Int × Int × Int × Int × Int × Int := rDecode c.1 (qAt x2 0)
  let x5 : Bool := !x3 || x4.1 == 27
  .br (pInternal s)
  (.leaf (some ((c.1, (rgx c.2.1 c.2.1.2.2.2.2.2.2.2.1 x1 (rVector s)), c.2.2))))
  (.br (!x5 || x3)
   (.br (x5)
    (.leaf (some ((c.1, (rgx c.2.1 c.2.1.2.2.2.2.2.2.2.1 x1 (IntKind.u16.wrap (IntKind.i64.wrap (8 * x4.2.2.2.2.2.2.2)))), c.2.2.1, false, false, c.2.2.2.2.2))))
    (.leaf none))
   (.leaf none))
theorem pFin_27_ev (a : HL pFinTs) : evVal (envX Tryz.prog (pFinL 27) [] 1023 8) Tryz.f116 pFinTs pFinRs a = pFin_27T a.1 a.2.1 a.2.2.1 a.2.2.2 := by kernel_rfl
def pFin_31T (c : TC) (s : Int) (g : List Int) (ln : Bool × Bool × Bool × Bool × Bool × Bool × Bool × Bool × Bool) : RT (Option TC) :=
  let x1 : TC × Bool × List Int × TI × List TY := (c, s == 5, g, (0, 0, 0, 0, 0, 0, 0, 0), [])
  let x2 : Bool := qAtC x1 0
  let x3 : Int × Int × Int × Int × Int × Int × Int × Int := rDecode c.1 (qAt x1 0)
  let x4 : Bool := !x2 || x3.1 == 31
  let x5 : Int × Int × Int × Int × Int × Int × Int := x3.2
  let x6 : Int := x5.2.2.2.1
  let x7 : Bool := x6 == 3
  let x8 : TC × Bool × List Int × TI × List TY := (c, s == 5, g, (31, x5), [])
  let x9 : Bool := qJoinC x8 1
  let x10 : Bool := !x7 || x9
  let x11 : Bool := !x10 || (x7 || x9)
  let x12 : Bool := !x11 || x10
  let x13 : Bool := !x12 || x11
  let x14 : TR := (rgx c.2.1 c.2.1.2.2.2.2.2.2.2.1 (spOf c) (qBehind x8))
  let x15 : Int := qJoin x8 1
  let x16 : TR := rSetPSW c.1 x14 x15
  let x17 : TR := rSetPair x14 x6 x15
  let x18 : Int × Int × Int × Int × Int × Int × TF × Int × Int := x16.2
  let x19 : Int × Int × Int × Int × Int × Int × TF × Int × Int := x17.2
  let x20 : Int × Int × Int × Int × Int × TF × Int × Int := x18.2
  let x21 : Int × Int × Int × Int × Int × TF × Int × Int := x19.2
  let x22 : Int × Int × Int × Int × TF × Int × Int := x20.2
  let x23 : Int × Int × Int × Int × TF × Int × Int := x21.2
  let x24 : Int × Int × Int × TF × Int × Int := x22.2
  let x25 : Int × Int × Int × TF × Int × Int := x23.2
  let x26 : Int × Int × TF × Int × Int := x24.2
  let x27 : Int × Int × TF × Int × Int := x25.2
  let x28 : Int × TF × Int × Int := x26.2
  let x29 : Int × TF × Int × Int := x27.2
  let x30 : TF × Int × Int := x28.2
  let x31 : TF := x30.1
  let x32 : TF × Int × Int := x29.2
  let x33 : TF := x32.1
  let x34 : Bool × Bool × Bool × Bool × Bool × Bool := x31.2
  let x35 : Bool × Bool × Bool × Bool × Bool × Bool := x33.2
  let x36 : Bool × Bool × Bool × Bool × Bool := x34.2
  let x37 : Bool × Bool × Bool × Bool × Bool := x35.2
  let x38 : Bool × Bool × Bool × Bool := x36.2
  let x39 : Bool × Bool × Bool × Bool := x37.2
  let x40 : Bool × Bool × Bool := x38.2
  let x41 : Bool × Bool × Bool := x39.2
  let x42 : Bool × Bool := x40.2
  let x43 : Bool × Bool := x41.2
  let x44 : Int × Int := x30.2
  let x45 : Int × Int := x32.2
  .br (pInternal s)
  (.leaf (some ((c.1, (rgx c.2.1 c.2.1.2.2.2.2.2.2.2.1 (IntKind.u16.wrap ((spOf c) - 2)) (rVector s)), c.2.2))))
  (.br (!x4 || x2)
   (.br (x4)
    (.br (!x13 || x12)
     (.br (x13)
      (.leaf (some ((c.1, (bif x7 then x16.1 else x17.1, bif x7 then x18.1 else x19.1, bif x7 then x20.1 else x21.1, bif x7 then x22.1 else x23.1, bif x7 then x24.1 else x25.1, bif x7 then x26.1 else x27.1, bif x7 then x28.1 else x29.1, (bif x7 then x31.1 else x33.1, bif x7 then x34.1 else x35.1, bif x7 then x36.1 else x37.1, bif x7 then x38.1 else x39.1, bif x7 then x40.1 else x41.1, bif x7 then x42.1 else x43.1, bif x7 then x42.2 else x43.2), IntKind.u16.wrap ((bif x7 then x44.1 else x45.1) + 2), bif x7 then x44.2 else x45.2), c.2.2.1, false, false, c.2.2.2.2.2))))
      (.leaf none))
     (.leaf none))
    (.leaf none))
   (.leaf none))
theorem pFin_31_ev (a : HL pFinTs) : evVal (envX Tryz.prog (pFinL 31) [] 1023 8) Tryz.f116 pFinTs pFinRs a = pFin_31T a.1 a.2.1 a.2.2.1 a.2.2.2 := by kernel_rfl
def pFin_35T (c : TC) (s : Int) (g : List Int) (ln : Bool × Bool × Bool × Bool × Bool × Bool × Bool × Bool × Bool) : RT (Option TC) :=
  let x1 : TC × Bool × List Int × TI × List TY := (c, s == 5, g, (0, 0, 0, 0, 0, 0, 0, 0), [])
  let x2 : Bool := qAtC x1 0
  let x3 : Int × Int × Int × Int × Int × Int × Int × Int := rDecode c.1 (qAt x1 0)
  let x4 : Bool := !x2 || x3.1 == 35
  .br (pInternal s)
  (.leaf (some ((c.1, (rgx c.2.1 c.2.1.2.2.2.2.2.2.2.1 (IntKind.u16.wrap ((spOf c) - 2)) (rVector s)), c.2.2))))
  (.br (!x4 || x2)
   (.br (x4)
    (.leaf (some ((c.1, (rgx c.2.1 c.2.1.2.2.2.2.2.2.2.1 (spOf c) (qBehind (c, s == 5, g, (35, x3.2), []))), true, true, false, c.2.2.2.2.2))))
    (.leaf none))
   (.leaf none))
theorem pFin_35_ev (a : HL pFinTs) : evVal (envX Tryz.prog (pFinL 35) [] 1023 8) Tryz.f116 pFinTs pFinRs a = pFin_35T a.1 a.2.1 a.2.2.1 a.2.2.2 := by kernel_rfl
def pFin_39T (c : TC) (s : Int) (g : List Int) (ln : Bool × Bool × Bool × Bool × Bool × Bool × Bool × Bool × Bool) : RT (Option TC) :=
  let x1 : TC × Bool × List Int × TI × List TY := (c, s == 5, g, (0, 0, 0, 0, 0, 0, 0, 0), [])
  let x2 : Bool := qAtC x1 0
  let x3 : Int × Int × Int × Int × Int × Int × Int × Int := rDecode c.1 (qAt x1 0)
  let x4 : Bool := !x2 || x3.1 == 39
  let x5 : TC := rSim (c.1, (rgx c.2.1 c.2.1.2.2.2.2.2.2.2.1 (spOf c) (qBehind (c, s == 5, g, (39, x3.2), []))), c.2.2.1, 39 == 35, 39 == 37, c.2.2.2.2.2) c.2.1.1
  let x6 : TR × Bool × Bool × Bool × Int × Bool × Bool × Bool × Bool × Bool × Bool × Bool := x5.2
  let x7 : Bool × Bool × Bool × Int × Bool × Bool × Bool × Bool × Bool × Bool × Bool := x6.2
  .br (pInternal s)
  (.leaf (some ((c.1, (rgx c.2.1 c.2.1.2.2.2.2.2.2.2.1 (IntKind.u16.wrap ((spOf c) - 2)) (rVector s)), c.2.2))))
  (.br (!x4 || x2)
   (.br (x4)
    (.leaf (some ((x5.1, x6.1, x7.1, false, false, x7.2.2.2))))
    (.leaf none))
   (.leaf none))
theorem pFin_39_ev (a : HL pFinTs) : evVal (envX Tryz.prog (pFinL 39) [] 1023 8) Tryz.f116 pFinTs pFinRs a = pFin_39T a.1 a.2.1 a.2.2.1 a.2.2.2 := by kernel_rfl
def pFin_43T (c : TC) (s : Int) (g : List Int) (ln : Bool × Bool × Bool × Bool × Bool × Bool × Bool × Bool × Bool) : RT (Option TC) :=
  let x1 : TC × Bool × List Int × TI × List TY := (c, s == 5, g, (0, 0, 0, 0, 0, 0, 0, 0), [])
  let x2 : Bool := qAtC x1 0
  let x3 : Int × Int × Int × Int × Int × Int × Int × Int := rDecode c.1 (qAt x1 0)
  let x4 : Bool := !x2 || x3.1 == 43
  let x5 : TC × Bool × List Int × TI × List TY := (c, s == 5, g, (43, x3.2), [])
  .br (pInternal s)
  (.leaf (some ((c.1, (rgx c.2.1 c.2.1.2.2.2.2.2.2.2.1 (IntKind.u16.wrap ((spOf c) - 2)) (rVector s)), c.2.2))))
  (.br (!x4 || x2)
   (.br (x4)
    (.br (qAtC x5 1)
     (.leaf (some ((c.1, rSetPair (rgx c.2.1 c.2.1.2.2.2.2.2.2.2.1 (spOf c) (qBehind x5)) 1 (IntKind.u16.wrap (qPair x5 2 + IntKind.u16.wrap (qAt x5 1))), c.2.2.1, false, false, c.2.2.2.2.2))))
     (.leaf none))
    (.leaf none))
   (.leaf none))
theorem pFin_43_ev (a : HL pFinTs) : evVal (envX Tryz.prog (pFinL 43) [] 1023 8) Tryz.f116 pFinTs pFinRs a = pFin_43T a.1 a.2.1 a.2.2.1 a.2.2.2 := by kernel_rfl
def pFin_47T (c : TC) (s : Int) (g : List Int) (ln : Bool × Bool × Bool × Bool × Bool × Bool × Bool × Bool × Bool) : RT (Option TC) :=
  let x1 : TC × Bool × List Int × TI × List TY := (c, s == 5, g, (0, 0, 0, 0, 0, 0, 0, 0), [])
  let x2 : Bool := qAtC x1 0
  let x3 : Int × Int × Int × Int × Int × Int × Int × Int := rDecode c.1 (qAt x1 0)
  let x4 : Bool := !x2 || x3.1 == 47
  let x5 : TC × Bool × List Int × TI × List TY := (c, s == 5, g, (47, x3.2), [])
  .br (pInternal s)
  (.leaf (some ((c.1, (rgx c.2.1 c.2.1.2.2.2.2.2.2.2.1 (IntKind.u16.wrap ((spOf c) - 2)) (rVector s)), c.2.2))))
  (.br (!x4 || x2)
   (.br (x4)
    (.br (qJoinC x5 1)
     (.leaf (some ((c.1, rSetPair (rgx c.2.1 c.2.1.2.2.2.2.2.2.2.1 (spOf c) (qBehind x5)) 2 (qJoin x5 1), c.2.2.1, false, false, c.2.2.2.2.2))))
     (.leaf none))
    (.leaf none))
   (.leaf none))
theorem pFin_47_ev (a : HL pFinTs) : evVal (envX Tryz.prog (pFinL 47) [] 1023 8) Tryz.f116 pFinTs pFinRs a = pFin_47T a.1 a.2.1 a.2.2.1 a.2.2.2 := by kernel_rfl
end
end Go.Proofs.YtpkijkmagnhciaaGreat
set_option linter.unusedSimpArgs false
open Go Go.S3 Go.Proofs
set_option linter.unusedVariables false
set_option maxRecDepth 100000
namespace Go.Proofs.YtpkijkmagnhciaaGreat
noncomputable section
def pFin_4T (c : TC) (s : Int) (g : List Int) (ln : Bool × Bool × Bool × Bool × Bool × Bool × Bool × Bool × Bool) : RT (Option TC) :=
  let x1 : TC × Bool × List Int × TI × List TY := (c, s == 5, g, (0, 0, 0, 0, 0, 0, 0, 0), [])
  let x2 : Bool := qAtC x1 0
  let x3 : Int × Int × Int × Int × Int × Int × Int × Int := rDecode c.1 (qAt x1 0)
  let x4 : Bool := !x2 || x3.1 == 4
  let x5 : Int × Int × Int × Int × Int × Int × Int := x3.2
  let x6 : TC × Bool × List Int × TI × List TY := (c, s == 5, g, (4, x5), [])
  .br (pInternal s)
  (.leaf (some ((c.1, (rgx c.2.1 c.2.1.2.2.2.2.2.2.2.1 (IntKind.u16.wrap ((spOf c) - 2)) (rVector s)), c.2.2))))
  (.br (!x4 || x2)
   (.br (x4)
    (.br (qJoinC x6 1)
     (.leaf (some ((c.1, rSetPair (rgx c.2.1 c.2.1.2.2.2.2.2.2.2.1 (spOf c) (qBehind x6)) x5.2.2.2.1 (qJoin x6 1), c.2.2.1, false, false, c.2.2.2.2.2))))
     (.leaf none))
    (.leaf none))
   (.leaf none))
theorem pFin_4_ev (a : HL pFinTs) : evVal (envX Tryz.prog (pFinL 4) [] 1023 8) Tryz.f116 pFinTs pFinRs a = pFin_4T a.1 a.2.1 a.2.2.1 a.2.2.2 := by kernel_rfl
def pFin_8T (c : TC) (s : Int) (g : List Int) (ln : Bool × Bool × Bool × Bool × Bool × Bool × Bool × Bool × Bool) : RT (Option TC) :=
  let x1 : TC × Bool × List Int × TI × List TY := (c, s == 5, g, (0, 0, 0, 0, 0, 0, 0, 0), [])
  let x2 : Bool := qAtC x1 0
  let x3 : Int × Int × Int × Int × Int × Int × Int × Int := rDecode c.1 (qAt x1 0)
  let x4 : Bool := !x2 || x3.1 == 8
  .br (pInternal s)
  (.leaf (some ((c.1, (rgx c.2.1 c.2.1.2.2.2.2.2.2.2.1 (IntKind.u16.wrap ((spOf c) - 2)) (rVector s)), c.2.2))))
  (.br (!x4 || x2)
   (.br (x4)
    (.leaf (some ((c.1, (rgx c.2.1 c.2.1.2.2.2.2.2.2.2.1 (spOf c) (qBehind (c, s == 5, g, (8, x3.2), []))), c.2.2.1, false, false, c.2.2.2.2.2))))
    (.leaf none))
   (.leaf none))
theorem pFin_8_ev (a : HL pFinTs) : evVal (envX Tryz.prog (pFinL 8) [] 1023 8) Tryz.f116 pFinTs pFinRs a = pFin_8T a.1 a.2.1 a.2.2.1 a.2.2.2 := by kernel_rfl
def pFin_12T (c : TC) (s : Int) (g : List Int) (ln : Bool × Bool × Bool × Bool × Bool × Bool × Bool × Bool × Bool) : RT (Option TC) :=
  let x1 : TC × Bool × List Int × TI × List TY := (c, s == 5, g, (0, 0, 0, 0, 0, 0, 0, 0), [])
  let x2 : Bool := qAtC x1 0
  let x3 : Int × Int × Int × Int × Int × Int × Int × Int := rDecode c.1 (qAt x1 0)
  let x4 : Bool := !x2 || x3.1 == 12
  let x5 : Int × Int × Int × Int × Int × Int × Int := x3.2
  let x6 : TC × Bool × List Int × TI × List TY := (c, s == 5, g, (12, x5), [])
  let x7 : Int × Bool × Bool × Bool × Bool × Bool × Bool × Bool := rDo c.1 x5.2.2.2.2.1 c.2.1.1 (qOperand x6) c.2.1.2.2.2.2.2.2.2.1
  .br (pInternal s)
  (.leaf (some ((c.1, (rgx c.2.1 c.2.1.2.2.2.2.2.2.2.1 (IntKind.u16.wrap ((spOf c) - 2)) (rVector s)), c.2.2))))
  (.br (!x4 || x2)
   (.br (x4)
    (.br (qOperandC x6)
     (.leaf (some ((c.1, (x7.1, c.2.1.2.1, c.2.1.2.2.1, c.2.1.2.2.2.1, c.2.1.2.2.2.2.1, c.2.1.2.2.2.2.2.1, c.2.1.2.2.2.2.2.2.1, x7.2, spOf c, qBehind x6), c.2.2.1, false, false, c.2.2.2.2.2))))
     (.leaf none))
    (.leaf none))
   (.leaf none))
theorem pFin_12_ev (a : HL pFinTs) : evVal (envX Tryz.prog (pFinL 12) [] 1023 8) Tryz.f116 pFinTs pFinRs a = pFin_12T a.1 a.2.1 a.2.2.1 a.2.2.2 := by kernel_rfl
def pFin_16T (c : TC) (s : Int) (g : List Int) (ln : Bool × Bool × Bool × Bool × Bool × Bool × Bool × Bool × Bool) : RT (Option TC) :=
  let x1 : TC × Bool × List Int × TI × List TY := (c, s == 5, g, (0, 0, 0, 0, 0, 0, 0, 0), [])
  let x2 : Bool := qAtC x1 0
  let x3 : Int × Int × Int × Int × Int × Int × Int × Int := rDecode c.1 (qAt x1 0)
  let x4 : Bool := !x2 || x3.1 == 16
  let x5 : Int × Int × Int × Int × Int × Int × Int := x3.2
  let x6 : TC × Bool × List Int × TI × List TY := (c, s == 5, g, (16, x5), [])
  let x7 : Int := x5.2.2.2.1
  let x8 : Int × Bool × Bool × Bool × Bool × Bool × Bool × Bool := rInx c.1 (qPair x6 x7) c.2.1.2.2.2.2.2.2.2.1
  .br (pInternal s)
  (.leaf (some ((c.1, (rgx c.2.1 c.2.1.2.2.2.2.2.2.2.1 (IntKind.u16.wrap ((spOf c) - 2)) (rVector s)), c.2.2))))
  (.br (!x4 || x2)
   (.br (x4)
    (.leaf (some ((c.1, rSetPair (rgx c.2.1 x8.2 (spOf c) (qBehind x6)) x7 x8.1, c.2.2.1, false, false, c.2.2.2.2.2))))
    (.leaf none))
   (.leaf none))
theorem pFin_16_ev (a : HL pFinTs) : evVal (envX Tryz.prog (pFinL 16) [] 1023 8) Tryz.f116 pFinTs pFinRs a = pFin_16T a.1 a.2.1 a.2.2.1 a.2.2.2 := by kernel_rfl
def pFin_20T (c : TC) (s : Int) (g : List Int) (ln : Bool × Bool × Bool × Bool × Bool × Bool × Bool × Bool × Bool) : RT (Option TC) :=
  let x1 : TC × Bool × List Int × TI × List TY := (c, s == 5, g, (0, 0, 0, 0, 0, 0, 0, 0), [])
  let x2 : Bool := qAtC x1 0
  let x3 : Int × Int × Int × Int × Int × Int × Int × Int := rDecode c.1 (qAt x1 0)
  let x4 : Bool := !x2 || x3.1 == 20
  .br (pInternal s)
  (.leaf (some ((c.1, (rgx c.2.1 c.2.1.2.2.2.2.2.2.2.1 (IntKind.u16.wrap ((spOf c) - 2)) (rVector s)), c.2.2))))
  (.br (!x4 || x2)
   (.br (x4)
    (.leaf (some ((c.1, (notI IntKind.u8 c.2.1.1, c.2.1.2.1, c.2.1.2.2.1, c.2.1.2.2.2.1, c.2.1.2.2.2.2.1, c.2.1.2.2.2.2.2.1, c.2.1.2.2.2.2.2.2.1, c.2.1.2.2.2.2.2.2.2.1, spOf c, qBehind (c, s == 5, g, (20, x3.2), [])), c.2.2.1, false, false, c.2.2.2.2.2))))
    (.leaf none))
   (.leaf none))
theorem pFin_20_ev (a : HL pFinTs) : evVal (envX Tryz.prog (pFinL 20) [] 1023 8) Tryz.f116 pFinTs pFinRs a = pFin_20T a.1 a.2.1 a.2.2.1 a.2.2.2 := by kernel_rfl
def pFin_24T (c : TC) (s : Int) (g : List Int) (ln : Bool × Bool × Bool × Bool × Bool × Bool × Bool × Bool × Bool) : RT (Option TC) :=
  let x1 : TC × Bool × List Int × TI × List TY := (c, s == 5, g, (0, 0, 0, 0, 0, 0, 0, 0), [])
  let x2 : Bool := qAtC x1 0
  let x3 : Int × Int × Int × Int × Int × Int × Int × Int := rDecode c.1 (qAt x1 0)
  let x4 : Bool := !x2 || x3.1 == 24
  let x5 : TC × Bool × List Int × TI × List TY := (c, s == 5, g, (24, x3.2), [])
  let x6 : Bool := qTaken x5
  .br (pInternal s)
  (.leaf (some ((c.1, (rgx c.2.1 c.2.1.2.2.2.2.2.2.2.1 (IntKind.u16.wrap ((spOf c) - 2)) (rVector s)), c.2.2))))
  (.br (!x4 || x2)
   (.br (x4)
    (.br (!x6 || qJoinC x5 1)
     (.leaf (some ((c.1, (rgx c.2.1 c.2.1.2.2.2.2.2.2.2.1 (spOf c) (bif x6 then qJoin x5 1 else qBehind x5)), c.2.2.1, false, false, c.2.2.2.2.2))))
     (.leaf none))
    (.leaf none))
   (.leaf none))
theorem pFin_24_ev (a : HL pFinTs) : evVal (envX Tryz.prog (pFinL 24) [] 1023 8) Tryz.f116 pFinTs pFinRs a = pFin_24T a.1 a.2.1 a.2.2.1 a.2.2.2 := by kernel_rfl
def pFin_28T (c : TC) (s : Int) (g : List Int) (ln : Bool × Bool × Bool × Bool × Bool × Bool × Bool × Bool × Bool) : RT (Option TC) :=
  let x1 : TC × Bool × List Int × TI × List TY := (c, s == 5, g, (0, 0, 0, 0, 0, 0, 0, 0), [])
  let x2 : Bool := qAtC x1 0
  let x3 : Int × Int × Int × Int × Int × Int × Int × Int := rDecode c.1 (qAt x1 0)
  let x4 : Bool := !x2 || x3.1 == 28
  .br (pInternal s)
  (.leaf (some ((c.1, (rgx c.2.1 c.2.1.2.2.2.2.2.2.2.1 (IntKind.u16.wrap ((spOf c) - 2)) (rVector s)), c.2.2))))
  (.br (!x4 || x2)
   (.br (x4)
    (.leaf (some ((c.1, (rgx c.2.1 c.2.1.2.2.2.2.2.2.2.1 (spOf c) (qPair (c, s == 5, g, (28, x3.2), []) 2)), c.2.2.1, false, false, c.2.2.2.2.2))))
    (.leaf none))
   (.leaf none))
theorem pFin_28_ev (a : HL pFinTs) : evVal (envX Tryz.prog (pFinL 28) [] 1023 8) Tryz.f116 pFinTs pFinRs a = pFin_28T a.1 a.2.1 a.2.2.1 a.2.2.2 := by kernel_rfl
def pFin_32T (c : TC) (s : Int) (g : List Int) (ln : Bool × Bool × Bool × Bool × Bool × Bool × Bool × Bool × Bool) : RT (Option TC) :=
  let x1 : TC × Bool × List Int × TI × List TY := (c, s == 5, g, (0, 0, 0, 0, 0, 0, 0, 0), [])
  let x2 : Bool := qAtC x1 0
  let x3 : Int × Int × Int × Int × Int × Int × Int × Int := rDecode c.1 (qAt x1 0)
  let x4 : Bool := !x2 || x3.1 == 32
  let x5 : TC × Bool × List Int × TI × List TY := (c, s == 5, g, (32, x3.2), [])
  .br (pInternal s)
  (.leaf (some ((c.1, (rgx c.2.1 c.2.1.2.2.2.2.2.2.2.1 (IntKind.u16.wrap ((spOf c) - 2)) (rVector s)), c.2.2))))
  (.br (!x4 || x2)
   (.br (x4)
    (.br (qJoinC x5 1)
     (.leaf (some ((c.1, rSetPair (rgx c.2.1 c.2.1.2.2.2.2.2.2.2.1 (spOf c) (qBehind x5)) 2 (qJoin x5 1), c.2.2.1, false, false, c.2.2.2.2.2))))
     (.leaf none))
    (.leaf none))
   (.leaf none))
theorem pFin_32_ev (a : HL pFinTs) : evVal (envX Tryz.prog (pFinL 32) [] 1023 8) Tryz.f116 pFinTs pFinRs a = pFin_32T a.1 a.2.1 a.2.2.1 a.2.2.2 := by kernel_rfl
def pFin_36T (c : TC) (s : Int) (g : List Int) (ln : Bool × Bool × Bool × Bool × Bool × Bool × Bool × Bool × Bool) : RT (Option TC) :=
  let x1 : TC × Bool × List Int × TI × List TY := (c, s == 5, g, (0, 0, 0, 0, 0, 0, 0, 0), [])
  let x2 : Bool := qAtC x1 0
  let x3 : Int × Int × Int × Int × Int × Int × Int × Int := rDecode c.1 (qAt x1 0)
  let x4 : Bool := !x2 || x3.1 == 36
  .br (pInternal s)
  (.leaf (some ((c.1, (rgx c.2.1 c.2.1.2.2.2.2.2.2.2.1 (IntKind.u16.wrap ((spOf c) - 2)) (rVector s)), c.2.2))))
  (.br (!x4 || x2)
   (.br (x4)
    (.leaf (some ((c.1, (rgx c.2.1 c.2.1.2.2.2.2.2.2.2.1 (spOf c) (qBehind (c, s == 5, g, (36, x3.2), []))), false, false, false, c.2.2.2.2.2))))
    (.leaf none))
   (.leaf none))
theorem pFin_36_ev (a : HL pFinTs) : evVal (envX Tryz.prog (pFinL 36) [] 1023 8) Tryz.f116 pFinTs pFinRs a = pFin_36T a.1 a.2.1 a.2.2.1 a.2.2.2 := by kernel_rfl
def pFin_40T (c : TC) (s : Int) (g : List Int) (ln : Bool × Bool × Bool × Bool × Bool × Bool × Bool × Bool × Bool) : RT (Option TC) :=
  let x1 : TC × Bool × List Int × TI × List TY := (c, s == 5, g, (0, 0, 0, 0, 0, 0, 0, 0), [])
  let x2 : Bool := qAtC x1 0
  let x3 : Int × Int × Int × Int × Int × Int × Int × Int := rDecode c.1 (qAt x1 0)
  let x4 : Bool := !x2 || x3.1 == 40
  let x5 : TC × Bool × List Int × TI × List TY := (c, s == 5, g, (40, x3.2), [])
  let x6 : Int × Bool × Bool × Bool × Bool × Bool × Bool × Bool := rDsub (qPair x5 2) (qPair x5 0)
  .br (pInternal s)
  (.leaf (some ((c.1, (rgx c.2.1 c.2.1.2.2.2.2.2.2.2.1 (IntKind.u16.wrap ((spOf c) - 2)) (rVector s)), c.2.2))))
  (.br (!x4 || x2)
   (.br (x4)
    (.leaf (some ((c.1, rSetPair (rgx c.2.1 x6.2 (spOf c) (qBehind x5)) 2 x6.1, c.2.2.1, false, false, c.2.2.2.2.2))))
    (.leaf none))
   (.leaf none))
theorem pFin_40_ev (a : HL pFinTs) : evVal (envX Tryz.prog (pFinL 40) [] 1023 8) Tryz.f116 pFinTs pFinRs a = pFin_40T a.1 a.2.1 a.2.2.1 a.2.2.2 := by kernel_rfl
def pFin_44T (c : TC) (s : Int) (g : List Int) (ln : Bool × Bool × Bool × Bool × Bool × Bool × Bool × Bool × Bool) : RT (Option TC) :=
  let x1 : TC × Bool × List Int × TI × List TY := (c, s == 5, g, (0, 0, 0, 0, 0, 0, 0, 0), [])
  let x2 : Bool := qAtC x1 0
  let x3 : Int × Int × Int × Int × Int × Int × Int × Int := rDecode c.1 (qAt x1 0)
  let x4 : Bool := !x2 || x3.1 == 44
  let x5 : TC × Bool × List Int × TI × List TY := (c, s == 5, g, (44, x3.2), [])
  .br (pInternal s)
  (.leaf (some ((c.1, (rgx c.2.1 c.2.1.2.2.2.2.2.2.2.1 (IntKind.u16.wrap ((spOf c) - 2)) (rVector s)), c.2.2))))
  (.br (!x4 || x2)
   (.br (x4)
    (.br (qAtC x5 1)
     (.leaf (some ((c.1, rSetPair (rgx c.2.1 c.2.1.2.2.2.2.2.2.2.1 (spOf c) (qBehind x5)) 1 (IntKind.u16.wrap ((spOf c) + IntKind.u16.wrap (qAt x5 1))), c.2.2.1, false, false, c.2.2.2.2.2))))
     (.leaf none))
    (.leaf none))
   (.leaf none))
theorem pFin_44_ev (a : HL pFinTs) : evVal (envX Tryz.prog (pFinL 44) [] 1023 8) Tryz.f116 pFinTs pFinRs a = pFin_44T a.1 a.2.1 a.2.2.1 a.2.2.2 := by kernel_rfl
end
end Go.Proofs.YtpkijkmagnhciaaGreat
open Go Go.S3 Go.Proofs
set_option linter.unusedVariables false
set_option linter.unusedSimpArgs false
set_option maxRecDepth 100000
namespace Go.Proofs.YtpkijkmagnhciaaGreat
noncomputable section
end
end Go.Proofs.YtpkijkmagnhciaaGreat
set_option linter.unusedSimpArgs false
open Go Go.S3 Go.Proofs
set_option linter.unusedVariables false
set_option maxRecDepth 100000
namespace Go.Proofs.YtpkijkmagnhciaaGreat
noncomputable section
end
end Go.Proofs.YtpkijkmagnhciaaGreat
open Go Go.S3 Go.Proofs
set_option linter.unusedVariables false
set_option linter.unusedSimpArgs false
set_option maxRecDepth 100000
namespace Go.Proofs.YtpkijkmagnhciaaGreat
noncomputable section
theorem fp_1 (c) (s : Int) (g : List Int) (l) (n : Int) (hk : (rDecode c.1 (g.getD 0 0)).1 = n) : (n = 1 → (pFin_1T c s g l).val = some (finX c s g l)) ∧ (n = 6 → (pFin_6T c s g l).val = some (finX c s g l)) ∧ (n = 10 → (pFin_10T c s g l).val = some (finX c s g l)) ∧ (n = 17 → (pFin_17T c s g l).val = some (finX c s g l)) ∧ (n = 21 → (pFin_21T c s g l).val = some (finX c s g l)) ∧ (n = 28 → (pFin_28T c s g l).val = some (finX c s g l)) ∧ (n = 33 → (pFin_33T c s g l).val = some (finX c s g l)) ∧ (n = 37 → (pFin_37T c s g l).val = some (finX c s g l)) ∧ (n = 43 → (pFin_43T c s g l).val = some (finX c s g l)) := by
  refine ⟨?_, ?_, ?_, ?_, ?_, ?_, ?_, ?_, ?_⟩
  all_goals intro e; subst e
  all_goals simp only [pFin_1T, pFin_6T, pFin_10T, pFin_17T, pFin_21T, pFin_28T, pFin_33T, pFin_37T, pFin_43T, RT.val, rgx]
  all_goals simp only [qat0, mat0, qat1, mat1, rg0, hk, internal_eq, qPair_eq, qReg_eq, qTaken_eq, mTaken_eq, qBehind_eq, mBehind_eq, qJoin1, mWord1, qJoin3, qOp_eq, rStepped_eq, on_eq, finX, spOf]
  all_goals generalize rInternal s = bi
  all_goals cases bi with
  | true => simp [wPC, wSP]
  | false =>
    generalize (s == 5) = bs
    simp only [finI, hk, finR, wPC, wSP, wA, wF, fCY, fVCY, spOfR, flOf, behindX, pcOf, joinX]
    generalize rDecode c.1 (g.getD 0 0) = i at hk ⊢
    simp (config := { implicitDefEqProofs := false }) [w_i64, qat_ok, mat_ok, hk]
theorem fp_2 (c) (s : Int) (g : List Int) (l) (n : Int) (hk : (rDecode c.1 (g.getD 0 0)).1 = n) : (n = 3 → (pFin_3T c s g l).val = some (finX c s g l)) ∧ (n = 7 → (pFin_7T c s g l).val = some (finX c s g l)) ∧ (n = 11 → (pFin_11T c s g l).val = some (finX c s g l)) ∧ (n = 18 → (pFin_18T c s g l).val = some (finX c s g l)) ∧ (n = 22 → (pFin_22T c s g l).val = some (finX c s g l)) ∧ (n = 29 → (pFin_29T c s g l).val = some (finX c s g l)) ∧ (n = 34 → (pFin_34T c s g l).val = some (finX c s g l)) ∧ (n = 40 → (pFin_40T c s g l).val = some (finX c s g l)) ∧ (n = 44 → (pFin_44T c s g l).val = some (finX c s g l)) := by
  refine ⟨?_, ?_, ?_, ?_, ?_, ?_, ?_, ?_, ?_⟩
  all_goals intro e; subst e
  all_goals simp only [pFin_3T, pFin_7T, pFin_11T, pFin_18T, pFin_22T, pFin_29T, pFin_34T, pFin_40T, pFin_44T, RT.val, rgx]
  all_goals simp only [qat0, mat0, qat1, mat1, rg0, hk, internal_eq, qPair_eq, qReg_eq, qTaken_eq, mTaken_eq, qBehind_eq, mBehind_eq, qJoin1, mWord1, qJoin3, qOp_eq, rStepped_eq, on_eq, finX, spOf]
  all_goals generalize rInternal s = bi
  all_goals cases bi with
  | true => simp [wPC, wSP]
  | false =>
    generalize (s == 5) = bs
    simp only [finI, hk, finR, wPC, wSP, wA, wF, fCY, fVCY, spOfR, flOf, behindX, pcOf, joinX]
    generalize rDecode c.1 (g.getD 0 0) = i at hk ⊢
    simp (config := { implicitDefEqProofs := false }) [w_i64, qat_ok, mat_ok, hk]
theorem fp_3 (c) (s : Int) (g : List Int) (l) (n : Int) (hk : (rDecode c.1 (g.getD 0 0)).1 = n) : (n = 4 → (pFin_4T c s g l).val = some (finX c s g l)) ∧ (n = 8 → (pFin_8T c s g l).val = some (finX c s g l)) ∧ (n = 13 → (pFin_13T c s g l).val = some (finX c s g l)) ∧ (n = 19 → (pFin_19T c s g l).val = some (finX c s g l)) ∧ (n = 23 → (pFin_23T c s g l).val = some (finX c s g l)) ∧ (n = 30 → (pFin_30T c s g l).val = some (finX c s g l)) ∧ (n = 35 → (pFin_35T c s g l).val = some (finX c s g l)) ∧ (n = 41 → (pFin_41T c s g l).val = some (finX c s g l)) ∧ (n = 46 → (pFin_46T c s g l).val = some (finX c s g l)) := by
  refine ⟨?_, ?_, ?_, ?_, ?_, ?_, ?_, ?_, ?_⟩
  all_goals intro e; subst e
  all_goals simp only [pFin_4T, pFin_8T, pFin_13T, pFin_19T, pFin_23T, pFin_30T, pFin_35T, pFin_41T, pFin_46T, RT.val, rgx]
  all_goals simp only [qat0, mat0, qat1, mat1, rg0, hk, internal_eq, qPair_eq, qReg_eq, qTaken_eq, mTaken_eq, qBehind_eq, mBehind_eq, qJoin1, mWord1, qJoin3, qOp_eq, rStepped_eq, on_eq, finX, spOf]
  all_goals generalize rInternal s = bi
  all_goals cases bi with
  | true => simp [wPC, wSP]
  | false =>
    generalize (s == 5) = bs
    simp only [finI, hk, finR, wPC, wSP, wA, wF, fCY, fVCY, spOfR, flOf, behindX, pcOf, joinX]
    generalize rDecode c.1 (g.getD 0 0) = i at hk ⊢
    simp (config := { implicitDefEqProofs := false }) [w_i64, qat_ok, mat_ok, hk]
theorem fp_4 (c) (s : Int) (g : List Int) (l) (n : Int) (hk : (rDecode c.1 (g.getD 0 0)).1 = n) : (n = 5 → (pFin_5T c s g l).val = some (finX c s g l)) ∧ (n = 9 → (pFin_9T c s g l).val = some (finX c s g l)) ∧ (n = 16 → (pFin_16T c s g l).val = some (finX c s g l)) ∧ (n = 20 → (pFin_20T c s g l).val = some (finX c s g l)) ∧ (n = 27 → (pFin_27T c s g l).val = some (finX c s g l)) ∧ (n = 32 → (pFin_32T c s g l).val = some (finX c s g l)) ∧ (n = 36 → (pFin_36T c s g l).val = some (finX c s g l)) ∧ (n = 42 → (pFin_42T c s g l).val = some (finX c s g l)) ∧ (n = 47 → (pFin_47T c s g l).val = some (finX c s g l)) := by
  refine ⟨?_, ?_, ?_, ?_, ?_, ?_, ?_, ?_, ?_⟩
  all_goals intro e; subst e
  all_goals simp only [pFin_5T, pFin_9T, pFin_16T, pFin_20T, pFin_27T, pFin_32T, pFin_36T, pFin_42T, pFin_47T, RT.val, rgx]
  all_goals simp only [qat0, mat0, qat1, mat1, rg0, hk, internal_eq, qPair_eq, qReg_eq, qTaken_eq, mTaken_eq, qBehind_eq, mBehind_eq, qJoin1, mWord1, qJoin3, qOp_eq, rStepped_eq, on_eq, finX, spOf]
  all_goals generalize rInternal s = bi
  all_goals cases bi with
  | true => simp [wPC, wSP]
  | false =>
    generalize (s == 5) = bs
    simp only [finI, hk, finR, wPC, wSP, wA, wF, fCY, fVCY, spOfR, flOf, behindX, pcOf, joinX]
    generalize rDecode c.1 (g.getD 0 0) = i at hk ⊢
    simp (config := { implicitDefEqProofs := false }) [w_i64, qat_ok, mat_ok, hk]
theorem fp_5 (c) (s : Int) (g : List Int) (l) (n : Int) (hk : (rDecode c.1 (g.getD 0 0)).1 = n) : (n = 2 → (pFin_2T c s g l).val = some (finX c s g l)) ∧ (n = 12 → (pFin_12T c s g l).val = some (finX c s g l)) := by
  refine ⟨?_, ?_⟩
  all_goals intro e; subst e
  all_goals simp only [pFin_2T, pFin_12T, RT.val, rgx]
  all_goals simp only [qat0, mat0, qat1, mat1, rg0, hk, internal_eq, qPair_eq, qReg_eq, qTaken_eq, mTaken_eq, qBehind_eq, mBehind_eq, qJoin1, mWord1, qJoin3, qOp_eq, rStepped_eq, on_eq, finX, spOf]
  all_goals generalize rInternal s = bi
  all_goals cases bi with
  | true => simp [wPC, wSP]
  | false =>
    generalize (s == 5) = bs
    simp only [finI, hk, finR, wPC, wSP, wA, wF, fCY, fVCY, spOfR, flOf, behindX, pcOf, joinX]
    generalize rDecode c.1 (g.getD 0 0) = i at hk ⊢
    generalize (i.2.2.2.1 == 6) = b0
    cases b0 <;> simp (config := { implicitDefEqProofs := false }) [w_i64, qat_ok, mat_ok, hk]
theorem fp_6 (c) (s : Int) (g : List Int) (l) (n : Int) (hk : (rDecode c.1 (g.getD 0 0)).1 = n) : (n = 14 → (pFin_14T c s g l).val = some (finX c s g l)) ∧ (n = 15 → (pFin_15T c s g l).val = some (finX c s g l)) := by
  refine ⟨?_, ?_⟩
  all_goals intro e; subst e
  all_goals simp only [pFin_14T, pFin_15T, RT.val, rgx]
  all_goals simp only [qat0, mat0, qat1, mat1, rg0, hk, internal_eq, qPair_eq, qReg_eq, qTaken_eq, mTaken_eq, qBehind_eq, mBehind_eq, qJoin1, mWord1, qJoin3, qOp_eq, rStepped_eq, on_eq, finX, spOf]
  all_goals generalize rInternal s = bi
  all_goals cases bi with
  | true => simp [wPC, wSP]
  | false =>
    generalize (s == 5) = bs
    simp only [finI, hk, finR, wPC, wSP, wA, wF, fCY, fVCY, spOfR, flOf, behindX, pcOf, joinX]
    generalize rDecode c.1 (g.getD 0 0) = i at hk ⊢
    generalize (i.2.2.1 == 6) = b0
    cases b0 <;> simp (config := { implicitDefEqProofs := false }) [w_i64, qat_ok, mat_ok, hk]
theorem fp_7 (c) (s : Int) (g : List Int) (l) (n : Int) (hk : (rDecode c.1 (g.getD 0 0)).1 = n) : (n = 24 → (pFin_24T c s g l).val = some (finX c s g l)) ∧ (n = 25 → (pFin_25T c s g l).val = some (finX c s g l)) ∧ (n = 26 → (pFin_26T c s g l).val = some (finX c s g l)) ∧ (n = 45 → (pFin_45T c s g l).val = some (finX c s g l)) := by
  refine ⟨?_, ?_, ?_, ?_⟩
  all_goals intro e; subst e
  all_goals simp only [pFin_24T, pFin_25T, pFin_26T, pFin_45T, RT.val, rgx]
  all_goals simp only [qat0, mat0, qat1, mat1, rg0, hk, internal_eq, qPair_eq, qReg_eq, qTaken_eq, mTaken_eq, qBehind_eq, mBehind_eq, qJoin1, mWord1, qJoin3, qOp_eq, rStepped_eq, on_eq, finX, spOf]
  all_goals generalize rInternal s = bi
  all_goals cases bi with
  | true => simp [wPC, wSP]
  | false =>
    generalize (s == 5) = bs
    simp only [finI, hk, finR, wPC, wSP, wA, wF, fCY, fVCY, spOfR, flOf, behindX, pcOf, joinX]
    generalize rDecode c.1 (g.getD 0 0) = i at hk ⊢
    generalize rHolds _ _ = b0
    cases b0 <;> simp (config := { implicitDefEqProofs := false }) [w_i64, qat_ok, mat_ok, hk]
theorem fp_8 (c) (s : Int) (g : List Int) (l) (n : Int) (hk : (rDecode c.1 (g.getD 0 0)).1 = n) : (n = 31 → (pFin_31T c s g l).val = some (finX c s g l)) := by
  skip
  all_goals intro e; subst e
  all_goals simp only [pFin_31T, RT.val, rgx]
  all_goals simp only [qat0, mat0, qat1, mat1, rg0, hk, internal_eq, qPair_eq, qReg_eq, qTaken_eq, mTaken_eq, qBehind_eq, mBehind_eq, qJoin1, mWord1, qJoin3, qOp_eq, rStepped_eq, on_eq, finX, spOf]
  all_goals generalize rInternal s = bi
  all_goals cases bi with
  | true => simp [wPC, wSP]
  | false =>
    generalize (s == 5) = bs
    simp only [finI, hk, finR, wPC, wSP, wA, wF, fCY, fVCY, spOfR, flOf, behindX, pcOf, joinX]
    generalize rDecode c.1 (g.getD 0 0) = i at hk ⊢
    generalize (i.2.2.2.2.1 == 3) = b0
    cases b0 <;> simp (config := { implicitDefEqProofs := false }) [w_i64, qat_ok, mat_ok, hk]
theorem fp_9 (c) (s : Int) (g : List Int) (l) (n : Int) (hk : (rDecode c.1 (g.getD 0 0)).1 = n) : (n = 38 → (pFin_38T c s g l).val = some (finX c s g l)) := by
  skip
  all_goals intro e; subst e
  all_goals simp only [pFin_38T, RT.val, rgx]
  all_goals simp only [qat0, mat0, qat1, mat1, rg0, hk, internal_eq, qPair_eq, qReg_eq, qTaken_eq, mTaken_eq, qBehind_eq, mBehind_eq, qJoin1, mWord1, qJoin3, qOp_eq, rStepped_eq, on_eq, finX, spOf]
  all_goals generalize rInternal s = bi
  all_goals cases bi with
  | true => simp [wPC, wSP]
  | false =>
    generalize (s == 5) = bs
    simp only [finI, hk, finR, wPC, wSP, wA, wF, fCY, fVCY, spOfR, flOf, behindX, pcOf, joinX]
    generalize rDecode c.1 (g.getD 0 0) = i at hk ⊢
    simp [w_i64, qat_ok, mat_ok, hk, rim_eq]
theorem fp_10 (c) (s : Int) (g : List Int) (l) (n : Int) (hk : (rDecode c.1 (g.getD 0 0)).1 = n) : (n = 39 → (pFin_39T c s g l).val = some (finX c s g l)) := by
  skip
  all_goals intro e; subst e
  all_goals simp only [pFin_39T, RT.val, rgx]
  all_goals simp only [qat0, mat0, qat1, mat1, rg0, hk, internal_eq, qPair_eq, qReg_eq, qTaken_eq, mTaken_eq, qBehind_eq, mBehind_eq, qJoin1, mWord1, qJoin3, qOp_eq, rStepped_eq, on_eq, finX, spOf]
  all_goals generalize rInternal s = bi
  all_goals cases bi with
  | true => simp [wPC, wSP]
  | false =>
    generalize (s == 5) = bs
    simp only [finI, hk, finR, wPC, wSP, wA, wF, fCY, fVCY, spOfR, flOf, behindX, pcOf, joinX]
    generalize rDecode c.1 (g.getD 0 0) = i at hk ⊢
    simp [w_i64, qat_ok, mat_ok, hk, rSim, rSimT, RT.val]
end
end Go.Proofs.YtpkijkmagnhciaaGreat
set_option linter.unusedSimpArgs false
open Go Go.S3 Go.Proofs
set_option linter.unusedVariables false
set_option maxRecDepth 100000
namespace Go.Proofs.YtpkijkmagnhciaaGreat
noncomputable section
theorem pFin_at (a : HL pFinTs) (h : okHL pFinTs a) : ∃ l, AllOk Tryz.prog l ∧ (evVal (envX Tryz.prog l [] 1023 8) Tryz.f116 pFinTs pFinRs a).val = some (finX a.1 a.2.1 a.2.2.1 a.2.2.2) := by
  have hk := kind_in a.1.1 _ (head_in h.2.2.1)
  refine ⟨pFinL (rDecode a.1.1 (a.2.2.1.getD 0 0)).1, pFinL_ok _, ?_⟩
  rcases kinds47 hk.1 hk.2 with e | e | e | e | e | e | e | e | e | e | e | e | e | e | e | e | e | e | e | e | e | e | e | e | e | e | e | e | e | e | e | e | e | e | e | e | e | e | e | e | e | e | e | e | e | e | e
  · rw [e, pFin_1_ev a, ((fp_1 a.1 a.2.1 a.2.2.1 a.2.2.2 _ e).1 rfl)]
  · rw [e, pFin_2_ev a, ((fp_5 a.1 a.2.1 a.2.2.1 a.2.2.2 _ e).1 rfl)]
  · rw [e, pFin_3_ev a, ((fp_2 a.1 a.2.1 a.2.2.1 a.2.2.2 _ e).1 rfl)]
  · rw [e, pFin_4_ev a, ((fp_3 a.1 a.2.1 a.2.2.1 a.2.2.2 _ e).1 rfl)]
  · rw [e, pFin_5_ev a, ((fp_4 a.1 a.2.1 a.2.2.1 a.2.2.2 _ e).1 rfl)]
  · rw [e, pFin_6_ev a, ((fp_1 a.1 a.2.1 a.2.2.1 a.2.2.2 _ e).2.1 rfl)]
  · rw [e, pFin_7_ev a, ((fp_2 a.1 a.2.1 a.2.2.1 a.2.2.2 _ e).2.1 rfl)]
  · rw [e, pFin_8_ev a, ((fp_3 a.1 a.2.1 a.2.2.1 a.2.2.2 _ e).2.1 rfl)]
  · rw [e, pFin_9_ev a, ((fp_4 a.1 a.2.1 a.2.2.1 a.2.2.2 _ e).2.1 rfl)]
  · rw [e, pFin_10_ev a, ((fp_1 a.1 a.2.1 a.2.2.1 a.2.2.2 _ e).2.2.1 rfl)]
  · rw [e, pFin_11_ev a, ((fp_2 a.1 a.2.1 a.2.2.1 a.2.2.2 _ e).2.2.1 rfl)]
  · rw [e, pFin_12_ev a, ((fp_5 a.1 a.2.1 a.2.2.1 a.2.2.2 _ e).2 rfl)]
  · rw [e, pFin_13_ev a, ((fp_3 a.1 a.2.1 a.2.2.1 a.2.2.2 _ e).2.2.1 rfl)]
  · rw [e, pFin_14_ev a, ((fp_6 a.1 a.2.1 a.2.2.1 a.2.2.2 _ e).1 rfl)]
  · rw [e, pFin_15_ev a, ((fp_6 a.1 a.2.1 a.2.2.1 a.2.2.2 _ e).2 rfl)]
  · rw [e, pFin_16_ev a, ((fp_4 a.1 a.2.1 a.2.2.1 a.2.2.2 _ e).2.2.1 rfl)]
  · rw [e, pFin_17_ev a, ((fp_1 a.1 a.2.1 a.2.2.1 a.2.2.2 _ e).2.2.2.1 rfl)]
  · rw [e, pFin_18_ev a, ((fp_2 a.1 a.2.1 a.2.2.1 a.2.2.2 _ e).2.2.2.1 rfl)]
  · rw [e, pFin_19_ev a, ((fp_3 a.1 a.2.1 a.2.2.1 a.2.2.2 _ e).2.2.2.1 rfl)]
  · rw [e, pFin_20_ev a, ((fp_4 a.1 a.2.1 a.2.2.1 a.2.2.2 _ e).2.2.2.1 rfl)]
  · rw [e, pFin_21_ev a, ((fp_1 a.1 a.2.1 a.2.2.1 a.2.2.2 _ e).2.2.2.2.1 rfl)]
  · rw [e, pFin_22_ev a, ((fp_2 a.1 a.2.1 a.2.2.1 a.2.2.2 _ e).2.2.2.2.1 rfl)]
  · rw [e, pFin_23_ev a, ((fp_3 a.1 a.2.1 a.2.2.1 a.2.2.2 _ e).2.2.2.2.1 rfl)]
  · rw [e, pFin_24_ev a, ((fp_7 a.1 a.2.1 a.2.2.1 a.2.2.2 _ e).1 rfl)]
  · rw [e, pFin_25_ev a, ((fp_7 a.1 a.2.1 a.2.2.1 a.2.2.2 _ e).2.1 rfl)]
  · rw [e, pFin_26_ev a, ((fp_7 a.1 a.2.1 a.2.2.1 a.2.2.2 _ e).2.2.1 rfl)]
  · rw [e, pFin_27_ev a, ((fp_4 a.1 a.2.1 a.2.2.1 a.2.2.2 _ e).2.2.2.2.1 rfl)]
  · rw [e, pFin_28_ev a, ((fp_1 a.1 a.2.1 a.2.2.1 a.2.2.2 _ e).2.2.2.2.2.1 rfl)]
  · rw [e, pFin_29_ev a, ((fp_2 a.1 a.2.1 a.2.2.1 a.2.2.2 _ e).2.2.2.2.2.1 rfl)]
  · rw [e, pFin_30_ev a, ((fp_3 a.1 a.2.1 a.2.2.1 a.2.2.2 _ e).2.2.2.2.2.1 rfl)]
  · rw [e, pFin_31_ev a, ((fp_8 a.1 a.2.1 a.2.2.1 a.2.2.2 _ e) rfl)]
  · rw [e, pFin_32_ev a, ((fp_4 a.1 a.2.1 a.2.2.1 a.2.2.2 _ e).2.2.2.2.2.1 rfl)]
  · rw [e, pFin_33_ev a, ((fp_1 a.1 a.2.1 a.2.2.1 a.2.2.2 _ e).2.2.2.2.2.2.1 rfl)]
  · rw [e, pFin_34_ev a, ((fp_2 a.1 a.2.1 a.2.2.1 a.2.2.2 _ e).2.2.2.2.2.2.1 rfl)]
  · rw [e, pFin_35_ev a, ((fp_3 a.1 a.2.1 a.2.2.1 a.2.2.2 _ e).2.2.2.2.2.2.1 rfl)]
  · rw [e, pFin_36_ev a, ((fp_4 a.1 a.2.1 a.2.2.1 a.2.2.2 _ e).2.2.2.2.2.2.1 rfl)]
  · rw [e, pFin_37_ev a, ((fp_1 a.1 a.2.1 a.2.2.1 a.2.2.2 _ e).2.2.2.2.2.2.2.1 rfl)]
  · rw [e, pFin_38_ev a, ((fp_9 a.1 a.2.1 a.2.2.1 a.2.2.2 _ e) rfl)]
  · rw [e, pFin_39_ev a, ((fp_10 a.1 a.2.1 a.2.2.1 a.2.2.2 _ e) rfl)]
  · rw [e, pFin_40_ev a, ((fp_2 a.1 a.2.1 a.2.2.1 a.2.2.2 _ e).2.2.2.2.2.2.2.1 rfl)]
  · rw [e, pFin_41_ev a, ((fp_3 a.1 a.2.1 a.2.2.1 a.2.2.2 _ e).2.2.2.2.2.2.2.1 rfl)]
  · rw [e, pFin_42_ev a, ((fp_4 a.1 a.2.1 a.2.2.1 a.2.2.2 _ e).2.2.2.2.2.2.2.1 rfl)]
  · rw [e, pFin_43_ev a, ((fp_1 a.1 a.2.1 a.2.2.1 a.2.2.2 _ e).2.2.2.2.2.2.2.2 rfl)]
  · rw [e, pFin_44_ev a, ((fp_2 a.1 a.2.1 a.2.2.1 a.2.2.2 _ e).2.2.2.2.2.2.2.2 rfl)]
  · rw [e, pFin_45_ev a, ((fp_7 a.1 a.2.1 a.2.2.1 a.2.2.2 _ e).2.2.2 rfl)]
  · rw [e, pFin_46_ev a, ((fp_3 a.1 a.2.1 a.2.2.1 a.2.2.2 _ e).2.2.2.2.2.2.2.2 rfl)]
  · rw [e, pFin_47_ev a, ((fp_4 a.1 a.2.1 a.2.2.1 a.2.2.2 _ e).2.2.2.2.2.2.2.2 rfl)]
def pFinE : Entry := pureE pFinTs pFinRs (fun _ => none) (fun a => finX a.1 a.2.1 a.2.2.1 a.2.2.2)
theorem pFin_ok : EntryOk Tryz.prog 116 pFinE := pure_any Tryz.func116 rfl (by kernel_rfl) Tryz.call116 fun a h _ => pFin_at a h
end
end Go.Proofs.YtpkijkmagnhciaaGreat
set_option linter.unusedSimpArgs false
open Go Go.S3 Go.Proofs
set_option linter.unusedVariables false
set_option maxRecDepth 100000
namespace Go.Proofs.YtpkijkmagnhciaaGreat
noncomputable section
theorem rdec_chip' (c op : Int) (h : c ≠ 2) : rDecode c op = rDecode 0 op := by unfold rDecode; rw [rdec_chip c op h]
end
end Go.Proofs.YtpkijkmagnhciaaGreat
set_option linter.unusedSimpArgs false
open Go Go.S3 Go.Proofs
set_option linter.unusedVariables false
set_option maxRecDepth 100000
namespace Go.Proofs.YtpkijkmagnhciaaGreat
noncomputable section
end
end Go.Proofs.YtpkijkmagnhciaaGreat
set_option linter.unusedSimpArgs false
open Go Go.S3 Go.Proofs
set_option linter.unusedVariables false
set_option maxRecDepth 100000
namespace Go.Proofs.YtpkijkmagnhciaaGreat
noncomputable section
end
end Go.Proofs.YtpkijkmagnhciaaGreat
open Go Go.S3 Go.Proofs
set_option linter.unusedVariables false
set_option linter.unusedSimpArgs false
set_option maxRecDepth 100000
namespace Go.Proofs.YtpkijkmagnhciaaGreat
noncomputable section
abbrev LnT := Bool × Bool × Bool × Bool × Bool × Bool × Bool × Bool × Bool
end
end Go.Proofs.YtpkijkmagnhciaaGreat
open Go Go.S3 Go.Proofs
set_option linter.unusedVariables false
set_option linter.unusedSimpArgs false
set_option maxRecDepth 100000
namespace Go.Proofs.YtpkijkmagnhciaaGreat
noncomputable section
end
end Go.Proofs.YtpkijkmagnhciaaGreat
open Go Go.S3 Go.Proofs
set_option linter.unusedVariables false
set_option linter.unusedSimpArgs false
set_option maxRecDepth 100000
namespace Go.Proofs.YtpkijkmagnhciaaGreat
noncomputable section
end
end Go.Proofs.YtpkijkmagnhciaaGreat
set_option linter.unusedSimpArgs false
open Go Go.S3 Go.Proofs
set_option linter.unusedVariables false
set_option maxRecDepth 100000
namespace Go.Proofs.YtpkijkmagnhciaaGreat
noncomputable section
abbrev mPlaceTs : List Sh := [Sh.one (R.int IntKind.i64), Sh.one (R.int IntKind.i64)]
abbrev mPlaceRs : Rs := Rs.one (Sh.one (R.int IntKind.i64))
def mPlaceT (x : Int) (n : Int) : RT (Option (Int)) :=
  .br (IntKind.u64.wrap n != 0)
  (.leaf (some (IntKind.i64.wrap (Int.tmod (IntKind.u64.wrap x) (IntKind.u64.wrap n)))))
  (.leaf none)
def mPlace (x : Int) (n : Int) : Int := getO mPlaceRs.dflt (mPlaceT x n).val
def mPlaceC (x : Int) (n : Int) : Bool := okB (mPlaceT x n).val
def mPlaceE : Entry := pureE mPlaceTs mPlaceRs (fun a => some (mPlaceC a.1 a.2)) (fun a => mPlace a.1 a.2)
theorem mPlace_ok : EntryOk Tryz.prog 15 mPlaceE :=
  pure_part (P := Tryz.prog) (n := 31) (k := 8) (l := []) (ol := []) trivial Tryz.func15 rfl (by kernel_rfl) Tryz.call15 trivial (ts := mPlaceTs) (rs := mPlaceRs) (t := fun a => mPlaceT a.1 a.2) (fun a => by kernel_rfl)
abbrev nNextRb : R := R.pair (R.sl (R.int IntKind.i64)) (R.int IntKind.i64)
abbrev nNextTs : List Sh := [Sh.one (R.int IntKind.i64)]
abbrev nNextRs : Rs := Rs.one (Sh.one (R.int IntKind.i64))
def nNextT (s : List Int × Int) (n : Int) : RT (Option (Int × List Int × Int)) :=
  let x1 : Bool := inRng (IntKind.i64.wrap (IntKind.i64.wrap (s.2 + 1) - 1)) (List.length s.1)
  let x2 : Int := R.get (R.int IntKind.i64) s.1 (IntKind.i64.wrap (IntKind.i64.wrap (s.2 + 1) - 1))
  .br (decide (s.2 ≥ iN (List.length s.1)))
  (.leaf (some ((0, s.1, IntKind.i64.wrap (s.2 + 1)))))
  (.br (!x1 || mPlaceC x2 n)
   (.br (x1)
    (.leaf (some ((mPlace x2 n, s.1, IntKind.i64.wrap (s.2 + 1)))))
    (.leaf none))
   (.leaf none))
def nNext (s : List Int × Int) (n : Int) : Int × List Int × Int := getO (nNextRs.dflt, nNextRb.dflt) (nNextT s n).val
def nNextC (s : List Int × Int) (n : Int) : Bool := okB (nNextT s n).val
def nNextE : Entry := boxE nNextRb nNextTs nNextRs (fun a => some (nNextC a.1 a.2)) (fun a => nNext a.1 a.2)
theorem nNext_ok : EntryOk Tryz.prog 44 nNextE :=
  box_part (P := Tryz.prog) (n := 31) (k := 8) (l := [(15, mPlaceE)]) (ol := []) ⟨mPlace_ok, trivial⟩ Tryz.func44 rfl (by kernel_rfl) Tryz.call44 trivial (rb := nNextRb) (ts := nNextTs) (rs := nNextRs) (t := fun a => nNextT a.1 a.2) (fun a => by kernel_rfl)
abbrev nChipRb : R := R.pair (R.sl (R.int IntKind.i64)) (R.int IntKind.i64)
abbrev nChipTs : List Sh := []
abbrev nChipRs : Rs := Rs.one (Sh.one (R.int IntKind.i64))
def nChipT (s : List Int × Int) : RT (Option (Int × List Int × Int)) :=
  .br (nNextC s 2)
  (.leaf (some ((IntKind.i64.wrap (1 + (nNext s 2).1), (nNext s 2).2))))
  (.leaf none)
def nChip (s : List Int × Int) : Int × List Int × Int := getO (nChipRs.dflt, nChipRb.dflt) (nChipT s).val
def nChipC (s : List Int × Int) : Bool := okB (nChipT s).val
def nChipE : Entry := boxE nChipRb nChipTs nChipRs (fun a => some (nChipC a.1 )) (fun a => nChip a.1 )
theorem nChip_ok : EntryOk Tryz.prog 30 nChipE :=
  box_part (P := Tryz.prog) (n := 7) (k := 8) (l := [(44, nNextE)]) (ol := []) ⟨nNext_ok, trivial⟩ Tryz.func30 rfl (by kernel_rfl) Tryz.call30 trivial (rb := nChipRb) (ts := nChipTs) (rs := nChipRs) (t := fun a => nChipT a.1 ) (fun a => by kernel_rfl)
end
end Go.Proofs.YtpkijkmagnhciaaGreat
open Go Go.S3 Go.Proofs
set_option linter.unusedVariables false
set_option linter.unusedSimpArgs false
set_option maxRecDepth 100000
namespace Go.Proofs.YtpkijkmagnhciaaGreat
noncomputable section
def NB (s : List Int × Int) (k : Int) : Prop := 0 ≤ s.2 ∧ s.2 ≤ k
theorem mPlace_eq (x n : Int) (h0 : 0 < n) (h1 : n ≤ 4611686018427387904) : mPlaceC x n = true ∧ mPlace x n = (x % 18446744073709551616) % n := by
  have e : IntKind.wrap .u64 n = n := wrap_in ⟨by simp [IntKind.min, IntKind.signed]; omega, by simp [IntKind.max, IntKind.signed, IntKind.bits]; omega⟩
  have e2 : IntKind.wrap .u64 x = x % 18446744073709551616 := by simp [IntKind.wrap, IntKind.signed, IntKind.bits]
  have hn : (n != 0) = true := by simp; omega
  have h2 : 0 ≤ x % 18446744073709551616 := Int.emod_nonneg _ (by decide)
  have h3 := Int.emod_nonneg (x % 18446744073709551616) (b := n) (by omega)
  have h4 := Int.emod_lt_of_pos (x % 18446744073709551616) (b := n) h0
  have hv : (mPlaceT x n).val = some ((x % 18446744073709551616) % n) := by
    simp only [mPlaceT, RT.val, e, e2, hn, cond_true, Int.tmod_eq_emod_of_nonneg h2]
    rw [wrap_i64 _ (by omega) (by omega)]
  exact ⟨by simp only [mPlaceC, hv]; rfl, by simp only [mPlace, hv, getO]⟩
theorem nNext_in {s : List Int × Int} {k : Int} (h : NB s k) (hk : k ≤ 1000000) (n : Int) (h0 : 0 < n) (h1 : n ≤ 4611686018427387904) :
    nNextC s n = true ∧ NB (nNext s n).2 (k + 1) ∧ 0 ≤ (nNext s n).1 ∧ (nNext s n).1 < n := by
  obtain ⟨ha, hb⟩ := h
  have e1 : IntKind.wrap .i64 (s.2 + 1) = s.2 + 1 := wrap_i64 _ (by omega) (by omega)
  have e2 : IntKind.wrap .i64 s.2 = s.2 := wrap_i64 _ (by omega) (by omega)
  by_cases hl : (s.1.length : Int) ≤ s.2
  · have hv : (nNextT s n).val = some (0, s.1, s.2 + 1) := by simp [nNextT, RT.val, iN, hl, e1]
    simp only [nNextC, nNext, hv, okB, getO, NB]
    exact ⟨trivial, ⟨by omega, by omega⟩, by omega, h0⟩
  · have hr : inRng s.2 s.1.length = true := inRng_iff.2 ⟨ha, by omega⟩
    obtain ⟨p1, p2⟩ := mPlace_eq (R.get (R.int IntKind.i64) s.1 s.2) n h0 h1
    have h3 := Int.emod_nonneg (R.get (R.int IntKind.i64) s.1 s.2 % 18446744073709551616) (b := n) (by omega)
    have h4 := Int.emod_lt_of_pos (R.get (R.int IntKind.i64) s.1 s.2 % 18446744073709551616) (b := n) h0
    have hv : (nNextT s n).val = some ((R.get (R.int IntKind.i64) s.1 s.2 % 18446744073709551616) % n, s.1, s.2 + 1) := by simp [nNextT, RT.val, iN, hl, e1, e2, hr, p1, p2]
    simp only [nNextC, nNext, hv, okB, getO, NB]
    exact ⟨trivial, ⟨by omega, by omega⟩, h3, h4⟩
theorem nChip_in {s : List Int × Int} {k : Int} (h : NB s k) (hk : k ≤ 1000000) : nChipC s = true ∧ NB (nChip s).2 (k + 1) ∧ ((nChip s).1 = 1 ∨ (nChip s).1 = 2) := by
  obtain ⟨c, b, d0, d1⟩ := nNext_in h hk 2 (by decide) (by decide)
  have hv : (nChipT s).val = some (1 + (nNext s 2).1, (nNext s 2).2) := by simp [nChipT, RT.val, c]; rw [wrap_i64 _ (by omega) (by omega)]
  simp only [nChipC, nChip, hv, okB, getO]
  exact ⟨trivial, b, by omega⟩
theorem from_ok (l : List Int) : NB (l, 0) 0 := ⟨by simp, by simp⟩
end
end Go.Proofs.YtpkijkmagnhciaaGreat
