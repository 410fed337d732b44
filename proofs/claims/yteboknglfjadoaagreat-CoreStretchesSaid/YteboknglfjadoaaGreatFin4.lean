/-
  Contracts of functions; each found by the symbolic executor and checked by the kernel. Conditions: none.
-/
import Derived.Test.YteboknglfjadoaaGreatS3D
import Derived.Test.YteboknglfjadoaaGreatProg
import Derived.Test.YteboknglfjadoaaGreatFin0
set_option linter.unusedSimpArgs false
open Go Go.S3 Go.Proofs
set_option linter.unusedVariables false
set_option maxRecDepth 100000
namespace Go.Proofs.YteboknglfjadoaaGreat
noncomputable section
noncomputable def pFin_4T (c : TC) (s : Int) (g : List Int) (ln : Bool × Bool × Bool × Bool × Bool × Bool × Bool × Bool × Bool) : RT (Option TC) :=
  let x1 : TC × Bool × List Int × TI × List TY := (c, s == 5, g, (0, 0, 0, 0, 0, 0, 0, 0), [])
  let x2 : Bool := qAtC x1 0
  let x3 : Int × Int × Int × Int × Int × Int × Int × Int := rDecode c.1 (qAt x1 0)
  let x4 : Bool := !x2 || x3.1 == 4
  let x5 : Int × Int × Int × Int × Int × Int × Int := x3.2
  let x6 : TC × Bool × List Int × TI × List TY := (c, s == 5, g, (4, x5), [])
  .br (pInternal s)
  (.leaf (some ((c.1, (rgx c.2.1 c.2.1.2.2.2.2.2.2.2.1 (IntKind.u16.wrap ((spOf c) - 2)) (rVector s)), c.2.2))))
  (.br (!x4 || x2)
   (.br (x4)
    (.br (qJoinC x6 1)
     (.leaf (some ((c.1, rSetPair (rgx c.2.1 c.2.1.2.2.2.2.2.2.2.1 (spOf c) (qBehind x6)) x5.2.2.2.1 (qJoin x6 1), c.2.2.1, false, false, c.2.2.2.2.2))))
     (.leaf none))
    (.leaf none))
   (.leaf none))

noncomputable def pFin_4 (c : TC) (s : Int) (g : List Int) (ln : Bool × Bool × Bool × Bool × Bool × Bool × Bool × Bool × Bool) : TC := getO pFinRs.dflt (pFin_4T c s g ln).val

noncomputable def pFin_4C (c : TC) (s : Int) (g : List Int) (ln : Bool × Bool × Bool × Bool × Bool × Bool × Bool × Bool × Bool) : Bool := okB (pFin_4T c s g ln).val

theorem pFin_4_ev (a : HL pFinTs) : evVal (envX Tryz.prog (pFinL 4) [] 1023 8) Tryz.f165 pFinTs pFinRs a = pFin_4T a.1 a.2.1 a.2.2.1 a.2.2.2 := by kernel_rfl

noncomputable def pFin_8T (c : TC) (s : Int) (g : List Int) (ln : Bool × Bool × Bool × Bool × Bool × Bool × Bool × Bool × Bool) : RT (Option TC) :=
  let x1 : TC × Bool × List Int × TI × List TY := (c, s == 5, g, (0, 0, 0, 0, 0, 0, 0, 0), [])
  let x2 : Bool := qAtC x1 0
  let x3 : Int × Int × Int × Int × Int × Int × Int × Int := rDecode c.1 (qAt x1 0)
  let x4 : Bool := !x2 || x3.1 == 8
  .br (pInternal s)
  (.leaf (some ((c.1, (rgx c.2.1 c.2.1.2.2.2.2.2.2.2.1 (IntKind.u16.wrap ((spOf c) - 2)) (rVector s)), c.2.2))))
  (.br (!x4 || x2)
   (.br (x4)
    (.leaf (some ((c.1, (rgx c.2.1 c.2.1.2.2.2.2.2.2.2.1 (spOf c) (qBehind (c, s == 5, g, (8, x3.2), []))), c.2.2.1, false, false, c.2.2.2.2.2))))
    (.leaf none))
   (.leaf none))

noncomputable def pFin_8 (c : TC) (s : Int) (g : List Int) (ln : Bool × Bool × Bool × Bool × Bool × Bool × Bool × Bool × Bool) : TC := getO pFinRs.dflt (pFin_8T c s g ln).val

noncomputable def pFin_8C (c : TC) (s : Int) (g : List Int) (ln : Bool × Bool × Bool × Bool × Bool × Bool × Bool × Bool × Bool) : Bool := okB (pFin_8T c s g ln).val

theorem pFin_8_ev (a : HL pFinTs) : evVal (envX Tryz.prog (pFinL 8) [] 1023 8) Tryz.f165 pFinTs pFinRs a = pFin_8T a.1 a.2.1 a.2.2.1 a.2.2.2 := by kernel_rfl

noncomputable def pFin_12T (c : TC) (s : Int) (g : List Int) (ln : Bool × Bool × Bool × Bool × Bool × Bool × Bool × Bool × Bool) : RT (Option TC) :=
  let x1 : TC × Bool × List Int × TI × List TY := (c, s == 5, g, (0, 0, 0, 0, 0, 0, 0, 0), [])
  let x2 : Bool := qAtC x1 0
  let x3 : Int × Int × Int × Int × Int × Int × Int × Int := rDecode c.1 (qAt x1 0)
  let x4 : Bool := !x2 || x3.1 == 12
  let x5 : Int × Int × Int × Int × Int × Int × Int := x3.2
  let x6 : TC × Bool × List Int × TI × List TY := (c, s == 5, g, (12, x5), [])
  let x7 : Int × Bool × Bool × Bool × Bool × Bool × Bool × Bool := rDo c.1 x5.2.2.2.2.1 c.2.1.1 (qOperand x6) c.2.1.2.2.2.2.2.2.2.1
  .br (pInternal s)
  (.leaf (some ((c.1, (rgx c.2.1 c.2.1.2.2.2.2.2.2.2.1 (IntKind.u16.wrap ((spOf c) - 2)) (rVector s)), c.2.2))))
  (.br (!x4 || x2)
   (.br (x4)
    (.br (qOperandC x6)
     (.leaf (some ((c.1, (x7.1, c.2.1.2.1, c.2.1.2.2.1, c.2.1.2.2.2.1, c.2.1.2.2.2.2.1, c.2.1.2.2.2.2.2.1, c.2.1.2.2.2.2.2.2.1, x7.2, spOf c, qBehind x6), c.2.2.1, false, false, c.2.2.2.2.2))))
     (.leaf none))
    (.leaf none))
   (.leaf none))

noncomputable def pFin_12 (c : TC) (s : Int) (g : List Int) (ln : Bool × Bool × Bool × Bool × Bool × Bool × Bool × Bool × Bool) : TC := getO pFinRs.dflt (pFin_12T c s g ln).val

noncomputable def pFin_12C (c : TC) (s : Int) (g : List Int) (ln : Bool × Bool × Bool × Bool × Bool × Bool × Bool × Bool × Bool) : Bool := okB (pFin_12T c s g ln).val

theorem pFin_12_ev (a : HL pFinTs) : evVal (envX Tryz.prog (pFinL 12) [] 1023 8) Tryz.f165 pFinTs pFinRs a = pFin_12T a.1 a.2.1 a.2.2.1 a.2.2.2 := by kernel_rfl

noncomputable def pFin_16T (c : TC) (s : Int) (g : List Int) (ln : Bool × Bool × Bool × Bool × Bool × Bool × Bool × Bool × Bool) : RT (Option TC) :=
  let x1 : TC × Bool × List Int × TI × List TY := (c, s == 5, g, (0, 0, 0, 0, 0, 0, 0, 0), [])
  let x2 : Bool := qAtC x1 0
  let x3 : Int × Int × Int × Int × Int × Int × Int × Int := rDecode c.1 (qAt x1 0)
  let x4 : Bool := !x2 || x3.1 == 16
  let x5 : Int × Int × Int × Int × Int × Int × Int := x3.2
  let x6 : TC × Bool × List Int × TI × List TY := (c, s == 5, g, (16, x5), [])
  let x7 : Int := x5.2.2.2.1
  let x8 : Int × Bool × Bool × Bool × Bool × Bool × Bool × Bool := rInx c.1 (qPair x6 x7) c.2.1.2.2.2.2.2.2.2.1
  .br (pInternal s)
  (.leaf (some ((c.1, (rgx c.2.1 c.2.1.2.2.2.2.2.2.2.1 (IntKind.u16.wrap ((spOf c) - 2)) (rVector s)), c.2.2))))
  (.br (!x4 || x2)
   (.br (x4)
    (.leaf (some ((c.1, rSetPair (rgx c.2.1 x8.2 (spOf c) (qBehind x6)) x7 x8.1, c.2.2.1, false, false, c.2.2.2.2.2))))
    (.leaf none))
   (.leaf none))

noncomputable def pFin_16 (c : TC) (s : Int) (g : List Int) (ln : Bool × Bool × Bool × Bool × Bool × Bool × Bool × Bool × Bool) : TC := getO pFinRs.dflt (pFin_16T c s g ln).val

noncomputable def pFin_16C (c : TC) (s : Int) (g : List Int) (ln : Bool × Bool × Bool × Bool × Bool × Bool × Bool × Bool × Bool) : Bool := okB (pFin_16T c s g ln).val

theorem pFin_16_ev (a : HL pFinTs) : evVal (envX Tryz.prog (pFinL 16) [] 1023 8) Tryz.f165 pFinTs pFinRs a = pFin_16T a.1 a.2.1 a.2.2.1 a.2.2.2 := by kernel_rfl

noncomputable def pFin_20T (c : TC) (s : Int) (g : List Int) (ln : Bool × Bool × Bool × Bool × Bool × Bool × Bool × Bool × Bool) : RT (Option TC) :=
  let x1 : TC × Bool × List Int × TI × List TY := (c, s == 5, g, (0, 0, 0, 0, 0, 0, 0, 0), [])
  let x2 : Bool := qAtC x1 0
  let x3 : Int × Int × Int × Int × Int × Int × Int × Int := rDecode c.1 (qAt x1 0)
  let x4 : Bool := !x2 || x3.1 == 20
  .br (pInternal s)
  (.leaf (some ((c.1, (rgx c.2.1 c.2.1.2.2.2.2.2.2.2.1 (IntKind.u16.wrap ((spOf c) - 2)) (rVector s)), c.2.2))))
  (.br (!x4 || x2)
   (.br (x4)
    (.leaf (some ((c.1, (notI IntKind.u8 c.2.1.1, c.2.1.2.1, c.2.1.2.2.1, c.2.1.2.2.2.1, c.2.1.2.2.2.2.1, c.2.1.2.2.2.2.2.1, c.2.1.2.2.2.2.2.2.1, c.2.1.2.2.2.2.2.2.2.1, spOf c, qBehind (c, s == 5, g, (20, x3.2), [])), c.2.2.1, false, false, c.2.2.2.2.2))))
    (.leaf none))
   (.leaf none))

noncomputable def pFin_20 (c : TC) (s : Int) (g : List Int) (ln : Bool × Bool × Bool × Bool × Bool × Bool × Bool × Bool × Bool) : TC := getO pFinRs.dflt (pFin_20T c s g ln).val

noncomputable def pFin_20C (c : TC) (s : Int) (g : List Int) (ln : Bool × Bool × Bool × Bool × Bool × Bool × Bool × Bool × Bool) : Bool := okB (pFin_20T c s g ln).val

theorem pFin_20_ev (a : HL pFinTs) : evVal (envX Tryz.prog (pFinL 20) [] 1023 8) Tryz.f165 pFinTs pFinRs a = pFin_20T a.1 a.2.1 a.2.2.1 a.2.2.2 := by kernel_rfl

noncomputable def pFin_24T (c : TC) (s : Int) (g : List Int) (ln : Bool × Bool × Bool × Bool × Bool × Bool × Bool × Bool × Bool) : RT (Option TC) :=
  let x1 : TC × Bool × List Int × TI × List TY := (c, s == 5, g, (0, 0, 0, 0, 0, 0, 0, 0), [])
  let x2 : Bool := qAtC x1 0
  let x3 : Int × Int × Int × Int × Int × Int × Int × Int := rDecode c.1 (qAt x1 0)
  let x4 : Bool := !x2 || x3.1 == 24
  let x5 : TC × Bool × List Int × TI × List TY := (c, s == 5, g, (24, x3.2), [])
  let x6 : Bool := qTaken x5
  .br (pInternal s)
  (.leaf (some ((c.1, (rgx c.2.1 c.2.1.2.2.2.2.2.2.2.1 (IntKind.u16.wrap ((spOf c) - 2)) (rVector s)), c.2.2))))
  (.br (!x4 || x2)
   (.br (x4)
    (.br (!x6 || qJoinC x5 1)
     (.leaf (some ((c.1, (rgx c.2.1 c.2.1.2.2.2.2.2.2.2.1 (spOf c) (bif x6 then qJoin x5 1 else qBehind x5)), c.2.2.1, false, false, c.2.2.2.2.2))))
     (.leaf none))
    (.leaf none))
   (.leaf none))

noncomputable def pFin_24 (c : TC) (s : Int) (g : List Int) (ln : Bool × Bool × Bool × Bool × Bool × Bool × Bool × Bool × Bool) : TC := getO pFinRs.dflt (pFin_24T c s g ln).val

noncomputable def pFin_24C (c : TC) (s : Int) (g : List Int) (ln : Bool × Bool × Bool × Bool × Bool × Bool × Bool × Bool × Bool) : Bool := okB (pFin_24T c s g ln).val

theorem pFin_24_ev (a : HL pFinTs) : evVal (envX Tryz.prog (pFinL 24) [] 1023 8) Tryz.f165 pFinTs pFinRs a = pFin_24T a.1 a.2.1 a.2.2.1 a.2.2.2 := by kernel_rfl

noncomputable def pFin_28T (c : TC) (s : Int) (g : List Int) (ln : Bool × Bool × Bool × Bool × Bool × Bool × Bool × Bool × Bool) : RT (Option TC) :=
  let x1 : TC × Bool × List Int × TI × List TY := (c, s == 5, g, (0, 0, 0, 0, 0, 0, 0, 0), [])
  let x2 : Bool := qAtC x1 0
  let x3 : Int × Int × Int × Int × Int × Int × Int × Int := rDecode c.1 (qAt x1 0)
  let x4 : Bool := !x2 || x3.1 == 28
  .br (pInternal s)
  (.leaf (some ((c.1, (rgx c.2.1 c.2.1.2.2.2.2.2.2.2.1 (IntKind.u16.wrap ((spOf c) - 2)) (rVector s)), c.2.2))))
  (.br (!x4 || x2)
   (.br (x4)
    (.leaf (some ((c.1, (rgx c.2.1 c.2.1.2.2.2.2.2.2.2.1 (spOf c) (qPair (c, s == 5, g, (28, x3.2), []) 2)), c.2.2.1, false, false, c.2.2.2.2.2))))
    (.leaf none))
   (.leaf none))

noncomputable def pFin_28 (c : TC) (s : Int) (g : List Int) (ln : Bool × Bool × Bool × Bool × Bool × Bool × Bool × Bool × Bool) : TC := getO pFinRs.dflt (pFin_28T c s g ln).val

noncomputable def pFin_28C (c : TC) (s : Int) (g : List Int) (ln : Bool × Bool × Bool × Bool × Bool × Bool × Bool × Bool × Bool) : Bool := okB (pFin_28T c s g ln).val

theorem pFin_28_ev (a : HL pFinTs) : evVal (envX Tryz.prog (pFinL 28) [] 1023 8) Tryz.f165 pFinTs pFinRs a = pFin_28T a.1 a.2.1 a.2.2.1 a.2.2.2 := by kernel_rfl

noncomputable def pFin_32T (c : TC) (s : Int) (g : List Int) (ln : Bool × Bool × Bool × Bool × Bool × Bool × Bool × Bool × Bool) : RT (Option TC) :=
  let x1 : TC × Bool × List Int × TI × List TY := (c, s == 5, g, (0, 0, 0, 0, 0, 0, 0, 0), [])
  let x2 : Bool := qAtC x1 0
  let x3 : Int × Int × Int × Int × Int × Int × Int × Int := rDecode c.1 (qAt x1 0)
  let x4 : Bool := !x2 || x3.1 == 32
  let x5 : TC × Bool × List Int × TI × List TY := (c, s == 5, g, (32, x3.2), [])
  .br (pInternal s)
  (.leaf (some ((c.1, (rgx c.2.1 c.2.1.2.2.2.2.2.2.2.1 (IntKind.u16.wrap ((spOf c) - 2)) (rVector s)), c.2.2))))
  (.br (!x4 || x2)
   (.br (x4)
    (.br (qJoinC x5 1)
     (.leaf (some ((c.1, rSetPair (rgx c.2.1 c.2.1.2.2.2.2.2.2.2.1 (spOf c) (qBehind x5)) 2 (qJoin x5 1), c.2.2.1, false, false, c.2.2.2.2.2))))
     (.leaf none))
    (.leaf none))
   (.leaf none))

noncomputable def pFin_32 (c : TC) (s : Int) (g : List Int) (ln : Bool × Bool × Bool × Bool × Bool × Bool × Bool × Bool × Bool) : TC := getO pFinRs.dflt (pFin_32T c s g ln).val

noncomputable def pFin_32C (c : TC) (s : Int) (g : List Int) (ln : Bool × Bool × Bool × Bool × Bool × Bool × Bool × Bool × Bool) : Bool := okB (pFin_32T c s g ln).val

theorem pFin_32_ev (a : HL pFinTs) : evVal (envX Tryz.prog (pFinL 32) [] 1023 8) Tryz.f165 pFinTs pFinRs a = pFin_32T a.1 a.2.1 a.2.2.1 a.2.2.2 := by kernel_rfl

noncomputable def pFin_36T (c : TC) (s : Int) (g : List Int) (ln : Bool × Bool × Bool × Bool × Bool × Bool × Bool × Bool × Bool) : RT (Option TC) :=
  let x1 : TC × Bool × List Int × TI × List TY := (c, s == 5, g, (0, 0, 0, 0, 0, 0, 0, 0), [])
  let x2 : Bool := qAtC x1 0
  let x3 : Int × Int × Int × Int × Int × Int × Int × Int := rDecode c.1 (qAt x1 0)
  let x4 : Bool := !x2 || x3.1 == 36
  .br (pInternal s)
  (.leaf (some ((c.1, (rgx c.2.1 c.2.1.2.2.2.2.2.2.2.1 (IntKind.u16.wrap ((spOf c) - 2)) (rVector s)), c.2.2))))
  (.br (!x4 || x2)
   (.br (x4)
    (.leaf (some ((c.1, (rgx c.2.1 c.2.1.2.2.2.2.2.2.2.1 (spOf c) (qBehind (c, s == 5, g, (36, x3.2), []))), false, false, false, c.2.2.2.2.2))))
    (.leaf none))
   (.leaf none))

noncomputable def pFin_36 (c : TC) (s : Int) (g : List Int) (ln : Bool × Bool × Bool × Bool × Bool × Bool × Bool × Bool × Bool) : TC := getO pFinRs.dflt (pFin_36T c s g ln).val

noncomputable def pFin_36C (c : TC) (s : Int) (g : List Int) (ln : Bool × Bool × Bool × Bool × Bool × Bool × Bool × Bool × Bool) : Bool := okB (pFin_36T c s g ln).val

theorem pFin_36_ev (a : HL pFinTs) : evVal (envX Tryz.prog (pFinL 36) [] 1023 8) Tryz.f165 pFinTs pFinRs a = pFin_36T a.1 a.2.1 a.2.2.1 a.2.2.2 := by kernel_rfl

noncomputable def pFin_40T (c : TC) (s : Int) (g : List Int) (ln : Bool × Bool × Bool × Bool × Bool × Bool × Bool × Bool × Bool) : RT (Option TC) :=
  let x1 : TC × Bool × List Int × TI × List TY := (c, s == 5, g, (0, 0, 0, 0, 0, 0, 0, 0), [])
  let x2 : Bool := qAtC x1 0
  let x3 : Int × Int × Int × Int × Int × Int × Int × Int := rDecode c.1 (qAt x1 0)
  let x4 : Bool := !x2 || x3.1 == 40
  let x5 : TC × Bool × List Int × TI × List TY := (c, s == 5, g, (40, x3.2), [])
  let x6 : Int × Bool × Bool × Bool × Bool × Bool × Bool × Bool := rDsub (qPair x5 2) (qPair x5 0)
  .br (pInternal s)
  (.leaf (some ((c.1, (rgx c.2.1 c.2.1.2.2.2.2.2.2.2.1 (IntKind.u16.wrap ((spOf c) - 2)) (rVector s)), c.2.2))))
  (.br (!x4 || x2)
   (.br (x4)
    (.leaf (some ((c.1, rSetPair (rgx c.2.1 x6.2 (spOf c) (qBehind x5)) 2 x6.1, c.2.2.1, false, false, c.2.2.2.2.2))))
    (.leaf none))
   (.leaf none))

noncomputable def pFin_40 (c : TC) (s : Int) (g : List Int) (ln : Bool × Bool × Bool × Bool × Bool × Bool × Bool × Bool × Bool) : TC := getO pFinRs.dflt (pFin_40T c s g ln).val

noncomputable def pFin_40C (c : TC) (s : Int) (g : List Int) (ln : Bool × Bool × Bool × Bool × Bool × Bool × Bool × Bool × Bool) : Bool := okB (pFin_40T c s g ln).val

theorem pFin_40_ev (a : HL pFinTs) : evVal (envX Tryz.prog (pFinL 40) [] 1023 8) Tryz.f165 pFinTs pFinRs a = pFin_40T a.1 a.2.1 a.2.2.1 a.2.2.2 := by kernel_rfl

noncomputable def pFin_44T (c : TC) (s : Int) (g : List Int) (ln : Bool × Bool × Bool × Bool × Bool × Bool × Bool × Bool × Bool) : RT (Option TC) :=
  let x1 : TC × Bool × List Int × TI × List TY := (c, s == 5, g, (0, 0, 0, 0, 0, 0, 0, 0), [])
  let x2 : Bool := qAtC x1 0
  let x3 : Int × Int × Int × Int × Int × Int × Int × Int := rDecode c.1 (qAt x1 0)
  let x4 : Bool := !x2 || x3.1 == 44
  let x5 : TC × Bool × List Int × TI × List TY := (c, s == 5, g, (44, x3.2), [])
  .br (pInternal s)
  (.leaf (some ((c.1, (rgx c.2.1 c.2.1.2.2.2.2.2.2.2.1 (IntKind.u16.wrap ((spOf c) - 2)) (rVector s)), c.2.2))))
  (.br (!x4 || x2)
   (.br (x4)
    (.br (qAtC x5 1)
     (.leaf (some ((c.1, rSetPair (rgx c.2.1 c.2.1.2.2.2.2.2.2.2.1 (spOf c) (qBehind x5)) 1 (IntKind.u16.wrap ((spOf c) + IntKind.u16.wrap (qAt x5 1))), c.2.2.1, false, false, c.2.2.2.2.2))))
     (.leaf none))
    (.leaf none))
   (.leaf none))

noncomputable def pFin_44 (c : TC) (s : Int) (g : List Int) (ln : Bool × Bool × Bool × Bool × Bool × Bool × Bool × Bool × Bool) : TC := getO pFinRs.dflt (pFin_44T c s g ln).val

noncomputable def pFin_44C (c : TC) (s : Int) (g : List Int) (ln : Bool × Bool × Bool × Bool × Bool × Bool × Bool × Bool × Bool) : Bool := okB (pFin_44T c s g ln).val

theorem pFin_44_ev (a : HL pFinTs) : evVal (envX Tryz.prog (pFinL 44) [] 1023 8) Tryz.f165 pFinTs pFinRs a = pFin_44T a.1 a.2.1 a.2.2.1 a.2.2.2 := by kernel_rfl

noncomputable def rFin_1T (c : TC) (s : Int) (g : List Int) (ln : Bool × Bool × Bool × Bool × Bool × Bool × Bool × Bool × Bool) : RT (Option TC) :=
  let x1 : Int × Int × Int × Int × Int × Int × Int × Int := rDecode c.1 (mAt (c, s == 5, g, []) 0)
  .br (rInternal s)
  (.leaf (some ((c.1, (rgx c.2.1 c.2.1.2.2.2.2.2.2.2.1 (IntKind.u16.wrap ((spOf c) - 2)) (rVector s)), c.2.2))))
  (.br (!mAtC (c, s == 5, g, []) 0 || x1.1 == 1)
   (.br (mAtC (c, s == 5, g, []) 0)
    (.leaf (some ((c.1, (rgx c.2.1 c.2.1.2.2.2.2.2.2.2.1 (spOf c) (mBehind (c, s == 5, g, []) x1.2.1)), c.2.2.1, false, false, c.2.2.2.2.2))))
    (.leaf none))
   (.leaf none))

noncomputable def rFin_1 (c : TC) (s : Int) (g : List Int) (ln : Bool × Bool × Bool × Bool × Bool × Bool × Bool × Bool × Bool) : TC := getO rFinRs.dflt (rFin_1T c s g ln).val

noncomputable def rFin_1C (c : TC) (s : Int) (g : List Int) (ln : Bool × Bool × Bool × Bool × Bool × Bool × Bool × Bool × Bool) : Bool := okB (rFin_1T c s g ln).val

theorem rFin_1_ev (a : HL rFinTs) : evVal (envX Tryz.prog (rFinL 1) [] 79250227772808467515411824639 8) Tryz.f26 rFinTs rFinRs a = rFin_1T a.1 a.2.1 a.2.2.1 a.2.2.2 := by kernel_rfl

noncomputable def rFin_5T (c : TC) (s : Int) (g : List Int) (ln : Bool × Bool × Bool × Bool × Bool × Bool × Bool × Bool × Bool) : RT (Option TC) :=
  let x1 : Int × Int × Int × Int × Int × Int × Int × Int := rDecode c.1 (mAt (c, s == 5, g, []) 0)
  .br (rInternal s)
  (.leaf (some ((c.1, (rgx c.2.1 c.2.1.2.2.2.2.2.2.2.1 (IntKind.u16.wrap ((spOf c) - 2)) (rVector s)), c.2.2))))
  (.br (!mAtC (c, s == 5, g, []) 0 || x1.1 == 5)
   (.br (mAtC (c, s == 5, g, []) 0)
    (.br (mAtC (c, s == 5, g, []) 3)
     (.leaf (some ((c.1, (mAt (c, s == 5, g, []) 3, c.2.1.2.1, c.2.1.2.2.1, c.2.1.2.2.2.1, c.2.1.2.2.2.2.1, c.2.1.2.2.2.2.2.1, c.2.1.2.2.2.2.2.2.1, c.2.1.2.2.2.2.2.2.2.1, spOf c, mBehind (c, s == 5, g, []) x1.2.1), c.2.2.1, false, false, c.2.2.2.2.2))))
     (.leaf none))
    (.leaf none))
   (.leaf none))

noncomputable def rFin_5 (c : TC) (s : Int) (g : List Int) (ln : Bool × Bool × Bool × Bool × Bool × Bool × Bool × Bool × Bool) : TC := getO rFinRs.dflt (rFin_5T c s g ln).val

noncomputable def rFin_5C (c : TC) (s : Int) (g : List Int) (ln : Bool × Bool × Bool × Bool × Bool × Bool × Bool × Bool × Bool) : Bool := okB (rFin_5T c s g ln).val

theorem rFin_5_ev (a : HL rFinTs) : evVal (envX Tryz.prog (rFinL 5) [] 79250227772808467515411824639 8) Tryz.f26 rFinTs rFinRs a = rFin_5T a.1 a.2.1 a.2.2.1 a.2.2.2 := by kernel_rfl

noncomputable def rFin_9T (c : TC) (s : Int) (g : List Int) (ln : Bool × Bool × Bool × Bool × Bool × Bool × Bool × Bool × Bool) : RT (Option TC) :=
  let x1 : Int × Int × Int × Int × Int × Int × Int × Int := rDecode c.1 (mAt (c, s == 5, g, []) 0)
  .br (rInternal s)
  (.leaf (some ((c.1, (rgx c.2.1 c.2.1.2.2.2.2.2.2.2.1 (IntKind.u16.wrap ((spOf c) - 2)) (rVector s)), c.2.2))))
  (.br (!mAtC (c, s == 5, g, []) 0 || x1.1 == 9)
   (.br (mAtC (c, s == 5, g, []) 0)
    (.br (mAtC (c, s == 5, g, []) 1)
     (.leaf (some ((c.1, (mAt (c, s == 5, g, []) 1, c.2.1.2.1, c.2.1.2.2.1, c.2.1.2.2.2.1, c.2.1.2.2.2.2.1, c.2.1.2.2.2.2.2.1, c.2.1.2.2.2.2.2.2.1, c.2.1.2.2.2.2.2.2.2.1, spOf c, mBehind (c, s == 5, g, []) x1.2.1), c.2.2.1, false, false, c.2.2.2.2.2))))
     (.leaf none))
    (.leaf none))
   (.leaf none))

noncomputable def rFin_9 (c : TC) (s : Int) (g : List Int) (ln : Bool × Bool × Bool × Bool × Bool × Bool × Bool × Bool × Bool) : TC := getO rFinRs.dflt (rFin_9T c s g ln).val

noncomputable def rFin_9C (c : TC) (s : Int) (g : List Int) (ln : Bool × Bool × Bool × Bool × Bool × Bool × Bool × Bool × Bool) : Bool := okB (rFin_9T c s g ln).val

theorem rFin_9_ev (a : HL rFinTs) : evVal (envX Tryz.prog (rFinL 9) [] 79250227772808467515411824639 8) Tryz.f26 rFinTs rFinRs a = rFin_9T a.1 a.2.1 a.2.2.1 a.2.2.2 := by kernel_rfl

noncomputable def rFin_13T (c : TC) (s : Int) (g : List Int) (ln : Bool × Bool × Bool × Bool × Bool × Bool × Bool × Bool × Bool) : RT (Option TC) :=
  let x1 : Int × Int × Int × Int × Int × Int × Int × Int := rDecode c.1 (mAt (c, s == 5, g, []) 0)
  let x2 : Int × Int × Int × Int × Int × Int × Int := x1.2
  let x3 : Int × Bool × Bool × Bool × Bool × Bool × Bool × Bool := rDo c.1 x2.2.2.2.2.1 c.2.1.1 (mAt (c, s == 5, g, []) 1) c.2.1.2.2.2.2.2.2.2.1
  .br (rInternal s)
  (.leaf (some ((c.1, (rgx c.2.1 c.2.1.2.2.2.2.2.2.2.1 (IntKind.u16.wrap ((spOf c) - 2)) (rVector s)), c.2.2))))
  (.br (!mAtC (c, s == 5, g, []) 0 || x1.1 == 13)
   (.br (mAtC (c, s == 5, g, []) 0)
    (.br (mAtC (c, s == 5, g, []) 1)
     (.leaf (some ((c.1, (x3.1, c.2.1.2.1, c.2.1.2.2.1, c.2.1.2.2.2.1, c.2.1.2.2.2.2.1, c.2.1.2.2.2.2.2.1, c.2.1.2.2.2.2.2.2.1, x3.2, spOf c, mBehind (c, s == 5, g, []) x2.1), c.2.2.1, false, false, c.2.2.2.2.2))))
     (.leaf none))
    (.leaf none))
   (.leaf none))

noncomputable def rFin_13 (c : TC) (s : Int) (g : List Int) (ln : Bool × Bool × Bool × Bool × Bool × Bool × Bool × Bool × Bool) : TC := getO rFinRs.dflt (rFin_13T c s g ln).val

noncomputable def rFin_13C (c : TC) (s : Int) (g : List Int) (ln : Bool × Bool × Bool × Bool × Bool × Bool × Bool × Bool × Bool) : Bool := okB (rFin_13T c s g ln).val

theorem rFin_13_ev (a : HL rFinTs) : evVal (envX Tryz.prog (rFinL 13) [] 79250227772808467515411824639 8) Tryz.f26 rFinTs rFinRs a = rFin_13T a.1 a.2.1 a.2.2.1 a.2.2.2 := by kernel_rfl

noncomputable def rFin_17T (c : TC) (s : Int) (g : List Int) (ln : Bool × Bool × Bool × Bool × Bool × Bool × Bool × Bool × Bool) : RT (Option TC) :=
  let x1 : Int × Int × Int × Int × Int × Int × Int × Int := rDecode c.1 (mAt (c, s == 5, g, []) 0)
  let x2 : Int × Int × Int × Int × Int × Int × Int := x1.2
  let x3 : Int := x2.2.2.2.1
  let x4 : Int × Bool × Bool × Bool × Bool × Bool × Bool × Bool := rDcx c.1 (rPair c.2.1 x3) c.2.1.2.2.2.2.2.2.2.1
  let x5 : TR := rSetPair c.2.1 x3 x4.1
  let x6 : Int × Int × Int × Int × Int × Int × TF × Int × Int := x5.2
  let x7 : Int × Int × Int × Int × Int × TF × Int × Int := x6.2
  let x8 : Int × Int × Int × Int × TF × Int × Int := x7.2
  let x9 : Int × Int × Int × TF × Int × Int := x8.2
  let x10 : Int × Int × TF × Int × Int := x9.2
  let x11 : Int × TF × Int × Int := x10.2
  .br (rInternal s)
  (.leaf (some ((c.1, (rgx c.2.1 c.2.1.2.2.2.2.2.2.2.1 (IntKind.u16.wrap ((spOf c) - 2)) (rVector s)), c.2.2))))
  (.br (!mAtC (c, s == 5, g, []) 0 || x1.1 == 17)
   (.br (mAtC (c, s == 5, g, []) 0)
    (.leaf (some ((c.1, (x5.1, x6.1, x7.1, x8.1, x9.1, x10.1, x11.1, x4.2, x11.2.2.1, mBehind (c, s == 5, g, []) x2.1), c.2.2.1, false, false, c.2.2.2.2.2))))
    (.leaf none))
   (.leaf none))

noncomputable def rFin_17 (c : TC) (s : Int) (g : List Int) (ln : Bool × Bool × Bool × Bool × Bool × Bool × Bool × Bool × Bool) : TC := getO rFinRs.dflt (rFin_17T c s g ln).val

noncomputable def rFin_17C (c : TC) (s : Int) (g : List Int) (ln : Bool × Bool × Bool × Bool × Bool × Bool × Bool × Bool × Bool) : Bool := okB (rFin_17T c s g ln).val

theorem rFin_17_ev (a : HL rFinTs) : evVal (envX Tryz.prog (rFinL 17) [] 79250227772808467515411824639 8) Tryz.f26 rFinTs rFinRs a = rFin_17T a.1 a.2.1 a.2.2.1 a.2.2.2 := by kernel_rfl

noncomputable def rFin_21T (c : TC) (s : Int) (g : List Int) (ln : Bool × Bool × Bool × Bool × Bool × Bool × Bool × Bool × Bool) : RT (Option TC) :=
  let x1 : Int × Int × Int × Int × Int × Int × Int × Int := rDecode c.1 (mAt (c, s == 5, g, []) 0)
  let x2 : Bool × Bool × Bool × Bool := c.2.1.2.2.2.2.2.2.2.1.2.2.2
  let x3 : Bool × Bool × Bool := x2.2
  .br (rInternal s)
  (.leaf (some ((c.1, (rgx c.2.1 c.2.1.2.2.2.2.2.2.2.1 (IntKind.u16.wrap ((spOf c) - 2)) (rVector s)), c.2.2))))
  (.br (!mAtC (c, s == 5, g, []) 0 || x1.1 == 21)
   (.br (mAtC (c, s == 5, g, []) 0)
    (.leaf (some ((c.1, (rgx c.2.1 ((c.2.1.2.2.2.2.2.2.2.1.1, c.2.1.2.2.2.2.2.2.2.1.2.1, c.2.1.2.2.2.2.2.2.2.1.2.2.1, x2.1, x3.1, x3.2.1, true)) (spOf c) (mBehind (c, s == 5, g, []) x1.2.1)), c.2.2.1, false, false, c.2.2.2.2.2))))
    (.leaf none))
   (.leaf none))

noncomputable def rFin_21 (c : TC) (s : Int) (g : List Int) (ln : Bool × Bool × Bool × Bool × Bool × Bool × Bool × Bool × Bool) : TC := getO rFinRs.dflt (rFin_21T c s g ln).val

noncomputable def rFin_21C (c : TC) (s : Int) (g : List Int) (ln : Bool × Bool × Bool × Bool × Bool × Bool × Bool × Bool × Bool) : Bool := okB (rFin_21T c s g ln).val

theorem rFin_21_ev (a : HL rFinTs) : evVal (envX Tryz.prog (rFinL 21) [] 79250227772808467515411824639 8) Tryz.f26 rFinTs rFinRs a = rFin_21T a.1 a.2.1 a.2.2.1 a.2.2.2 := by kernel_rfl

noncomputable def rFin_25T (c : TC) (s : Int) (g : List Int) (ln : Bool × Bool × Bool × Bool × Bool × Bool × Bool × Bool × Bool) : RT (Option TC) :=
  let x1 : Int := IntKind.u16.wrap ((spOf c) - 2)
  let x2 : Int × Int × Int × Int × Int × Int × Int × Int := rDecode c.1 (mAt (c, s == 5, g, []) 0)
  let x3 : Int × Int × Int × Int × Int × Int × Int := x2.2
  let x4 : Bool := !mTaken (c, s == 5, g, []) (25, x3)
  let x5 : Bool := c.2.1.2.2.2.2.2.2.2.1.2.2.1
  let x6 : Bool × Bool × Bool × Bool := c.2.1.2.2.2.2.2.2.2.1.2.2.2
  let x7 : Bool := x6.1
  let x8 : Bool × Bool × Bool := x6.2
  let x9 : Bool := x8.1
  let x10 : Bool × Bool := x8.2
  let x11 : Bool := x10.1
  let x12 : Bool := x10.2
  .br (rInternal s)
  (.leaf (some ((c.1, (rgx c.2.1 c.2.1.2.2.2.2.2.2.2.1 x1 (rVector s)), c.2.2))))
  (.br (!mAtC (c, s == 5, g, []) 0 || x2.1 == 25)
   (.br (mAtC (c, s == 5, g, []) 0)
    (.br (x4 || mWordC (c, s == 5, g, []) 1)
     (.leaf (some ((bif x4 then c.1 else c.1, (bif x4 then c.2.1.1 else c.2.1.1, bif x4 then c.2.1.2.1 else c.2.1.2.1, bif x4 then c.2.1.2.2.1 else c.2.1.2.2.1, bif x4 then c.2.1.2.2.2.1 else c.2.1.2.2.2.1, bif x4 then c.2.1.2.2.2.2.1 else c.2.1.2.2.2.2.1, bif x4 then c.2.1.2.2.2.2.2.1 else c.2.1.2.2.2.2.2.1, bif x4 then c.2.1.2.2.2.2.2.2.1 else c.2.1.2.2.2.2.2.2.1, (bif x4 then c.2.1.2.2.2.2.2.2.2.1.1 else c.2.1.2.2.2.2.2.2.2.1.1, bif x4 then c.2.1.2.2.2.2.2.2.2.1.2.1 else c.2.1.2.2.2.2.2.2.2.1.2.1, bif x4 then x5 else x5, bif x4 then x7 else x7, bif x4 then x9 else x9, bif x4 then x11 else x11, bif x4 then x12 else x12), bif x4 then (spOf c) else x1, bif x4 then mBehind (c, s == 5, g, []) x3.1 else mWord (c, s == 5, g, []) 1), bif x4 then c.2.2.1 else c.2.2.1, false, false, bif x4 then c.2.2.2.2.2.1 else c.2.2.2.2.2.1, bif x4 then c.2.2.2.2.2.2.1 else c.2.2.2.2.2.2.1, bif x4 then c.2.2.2.2.2.2.2.1 else c.2.2.2.2.2.2.2.1, bif x4 then c.2.2.2.2.2.2.2.2.1 else c.2.2.2.2.2.2.2.2.1, bif x4 then c.2.2.2.2.2.2.2.2.2.1 else c.2.2.2.2.2.2.2.2.2.1, bif x4 then c.2.2.2.2.2.2.2.2.2.2.1 else c.2.2.2.2.2.2.2.2.2.2.1, bif x4 then c.2.2.2.2.2.2.2.2.2.2.2.1 else c.2.2.2.2.2.2.2.2.2.2.2.1, bif x4 then c.2.2.2.2.2.2.2.2.2.2.2.2 else c.2.2.2.2.2.2.2.2.2.2.2.2))))
     (.leaf none))
    (.leaf none))
   (.leaf none))

noncomputable def rFin_25 (c : TC) (s : Int) (g : List Int) (ln : Bool × Bool × Bool × Bool × Bool × Bool × Bool × Bool × Bool) : TC := getO rFinRs.dflt (rFin_25T c s g ln).val

noncomputable def rFin_25C (c : TC) (s : Int) (g : List Int) (ln : Bool × Bool × Bool × Bool × Bool × Bool × Bool × Bool × Bool) : Bool := okB (rFin_25T c s g ln).val

theorem rFin_25_ev (a : HL rFinTs) : evVal (envX Tryz.prog (rFinL 25) [] 79250227772808467515411824639 8) Tryz.f26 rFinTs rFinRs a = rFin_25T a.1 a.2.1 a.2.2.1 a.2.2.2 := by kernel_rfl

noncomputable def rFin_29T (c : TC) (s : Int) (g : List Int) (ln : Bool × Bool × Bool × Bool × Bool × Bool × Bool × Bool × Bool) : RT (Option TC) :=
  let x1 : Int × Int × Int × Int × Int × Int × Int × Int := rDecode c.1 (mAt (c, s == 5, g, []) 0)
  .br (rInternal s)
  (.leaf (some ((c.1, (rgx c.2.1 c.2.1.2.2.2.2.2.2.2.1 (IntKind.u16.wrap ((spOf c) - 2)) (rVector s)), c.2.2))))
  (.br (!mAtC (c, s == 5, g, []) 0 || x1.1 == 29)
   (.br (mAtC (c, s == 5, g, []) 0)
    (.leaf (some ((c.1, (rgx c.2.1 c.2.1.2.2.2.2.2.2.2.1 (rPair c.2.1 2) (mBehind (c, s == 5, g, []) x1.2.1)), c.2.2.1, false, false, c.2.2.2.2.2))))
    (.leaf none))
   (.leaf none))

noncomputable def rFin_29 (c : TC) (s : Int) (g : List Int) (ln : Bool × Bool × Bool × Bool × Bool × Bool × Bool × Bool × Bool) : TC := getO rFinRs.dflt (rFin_29T c s g ln).val

noncomputable def rFin_29C (c : TC) (s : Int) (g : List Int) (ln : Bool × Bool × Bool × Bool × Bool × Bool × Bool × Bool × Bool) : Bool := okB (rFin_29T c s g ln).val

theorem rFin_29_ev (a : HL rFinTs) : evVal (envX Tryz.prog (rFinL 29) [] 79250227772808467515411824639 8) Tryz.f26 rFinTs rFinRs a = rFin_29T a.1 a.2.1 a.2.2.1 a.2.2.2 := by kernel_rfl

noncomputable def rFin_33T (c : TC) (s : Int) (g : List Int) (ln : Bool × Bool × Bool × Bool × Bool × Bool × Bool × Bool × Bool) : RT (Option TC) :=
  let x1 : Int × Int × Int × Int × Int × Int × Int × Int := rDecode c.1 (mAt (c, s == 5, g, []) 0)
  .br (rInternal s)
  (.leaf (some ((c.1, (rgx c.2.1 c.2.1.2.2.2.2.2.2.2.1 (IntKind.u16.wrap ((spOf c) - 2)) (rVector s)), c.2.2))))
  (.br (!mAtC (c, s == 5, g, []) 0 || x1.1 == 33)
   (.br (mAtC (c, s == 5, g, []) 0)
    (.br (mAtC (c, s == 5, g, []) 2)
     (.leaf (some ((c.1, (mAt (c, s == 5, g, []) 2, c.2.1.2.1, c.2.1.2.2.1, c.2.1.2.2.2.1, c.2.1.2.2.2.2.1, c.2.1.2.2.2.2.2.1, c.2.1.2.2.2.2.2.2.1, c.2.1.2.2.2.2.2.2.2.1, spOf c, mBehind (c, s == 5, g, []) x1.2.1), c.2.2.1, false, false, c.2.2.2.2.2))))
     (.leaf none))
    (.leaf none))
   (.leaf none))

noncomputable def rFin_33 (c : TC) (s : Int) (g : List Int) (ln : Bool × Bool × Bool × Bool × Bool × Bool × Bool × Bool × Bool) : TC := getO rFinRs.dflt (rFin_33T c s g ln).val

noncomputable def rFin_33C (c : TC) (s : Int) (g : List Int) (ln : Bool × Bool × Bool × Bool × Bool × Bool × Bool × Bool × Bool) : Bool := okB (rFin_33T c s g ln).val

theorem rFin_33_ev (a : HL rFinTs) : evVal (envX Tryz.prog (rFinL 33) [] 79250227772808467515411824639 8) Tryz.f26 rFinTs rFinRs a = rFin_33T a.1 a.2.1 a.2.2.1 a.2.2.2 := by kernel_rfl

noncomputable def rFin_37T (c : TC) (s : Int) (g : List Int) (ln : Bool × Bool × Bool × Bool × Bool × Bool × Bool × Bool × Bool) : RT (Option TC) :=
  let x1 : Int × Int × Int × Int × Int × Int × Int × Int := rDecode c.1 (mAt (c, s == 5, g, []) 0)
  .br (rInternal s)
  (.leaf (some ((c.1, (rgx c.2.1 c.2.1.2.2.2.2.2.2.2.1 (IntKind.u16.wrap ((spOf c) - 2)) (rVector s)), c.2.2))))
  (.br (!mAtC (c, s == 5, g, []) 0 || x1.1 == 37)
   (.br (mAtC (c, s == 5, g, []) 0)
    (.leaf (some ((c.1, (rgx c.2.1 c.2.1.2.2.2.2.2.2.2.1 (spOf c) (mBehind (c, s == 5, g, []) x1.2.1)), c.2.2.1, false, true, c.2.2.2.2.2))))
    (.leaf none))
   (.leaf none))

noncomputable def rFin_37 (c : TC) (s : Int) (g : List Int) (ln : Bool × Bool × Bool × Bool × Bool × Bool × Bool × Bool × Bool) : TC := getO rFinRs.dflt (rFin_37T c s g ln).val

noncomputable def rFin_37C (c : TC) (s : Int) (g : List Int) (ln : Bool × Bool × Bool × Bool × Bool × Bool × Bool × Bool × Bool) : Bool := okB (rFin_37T c s g ln).val

theorem rFin_37_ev (a : HL rFinTs) : evVal (envX Tryz.prog (rFinL 37) [] 79250227772808467515411824639 8) Tryz.f26 rFinTs rFinRs a = rFin_37T a.1 a.2.1 a.2.2.1 a.2.2.2 := by kernel_rfl

noncomputable def rFin_41T (c : TC) (s : Int) (g : List Int) (ln : Bool × Bool × Bool × Bool × Bool × Bool × Bool × Bool × Bool) : RT (Option TC) :=
  let x1 : Int × Int × Int × Int × Int × Int × Int × Int := rDecode c.1 (mAt (c, s == 5, g, []) 0)
  let x2 : Int × Int × Int × Int × Int × TF × Int × Int := (rSetPair c.2.1 2 (rArhl (rPair c.2.1 2)).1).2.2
  let x3 : Int × Int × Int × Int × TF × Int × Int := x2.2
  let x4 : Int × Int × Int × TF × Int × Int := x3.2
  let x5 : Int × Int × TF × Int × Int := x4.2
  let x6 : Int × TF × Int × Int := x5.2
  let x7 : TF × Int × Int := x6.2
  let x8 : TF := x7.1
  let x9 : Bool × Bool × Bool × Bool × Bool × Bool := x8.2
  let x10 : Bool × Bool × Bool × Bool × Bool := x9.2
  let x11 : Bool × Bool × Bool × Bool := x10.2
  let x12 : Bool × Bool × Bool := x11.2
  .br (rInternal s)
  (.leaf (some ((c.1, (rgx c.2.1 c.2.1.2.2.2.2.2.2.2.1 (IntKind.u16.wrap ((spOf c) - 2)) (rVector s)), c.2.2))))
  (.br (!mAtC (c, s == 5, g, []) 0 || x1.1 == 41)
   (.br (mAtC (c, s == 5, g, []) 0)
    (.leaf (some ((c.1, ((rSetPair c.2.1 2 (rArhl (rPair c.2.1 2)).1).1, (rSetPair c.2.1 2 (rArhl (rPair c.2.1 2)).1).2.1, x2.1, x3.1, x4.1, x5.1, x6.1, (x8.1, x9.1, x10.1, x11.1, x12.1, x12.2.1, (rArhl (rPair c.2.1 2)).2), x7.2.1, mBehind (c, s == 5, g, []) x1.2.1), c.2.2.1, false, false, c.2.2.2.2.2))))
    (.leaf none))
   (.leaf none))

noncomputable def rFin_41 (c : TC) (s : Int) (g : List Int) (ln : Bool × Bool × Bool × Bool × Bool × Bool × Bool × Bool × Bool) : TC := getO rFinRs.dflt (rFin_41T c s g ln).val

noncomputable def rFin_41C (c : TC) (s : Int) (g : List Int) (ln : Bool × Bool × Bool × Bool × Bool × Bool × Bool × Bool × Bool) : Bool := okB (rFin_41T c s g ln).val

theorem rFin_41_ev (a : HL rFinTs) : evVal (envX Tryz.prog (rFinL 41) [] 79250227772808467515411824639 8) Tryz.f26 rFinTs rFinRs a = rFin_41T a.1 a.2.1 a.2.2.1 a.2.2.2 := by kernel_rfl

noncomputable def rFin_45T (c : TC) (s : Int) (g : List Int) (ln : Bool × Bool × Bool × Bool × Bool × Bool × Bool × Bool × Bool) : RT (Option TC) :=
  let x1 : Int := IntKind.u16.wrap ((spOf c) - 2)
  let x2 : Int × Int × Int × Int × Int × Int × Int × Int := rDecode c.1 (mAt (c, s == 5, g, []) 0)
  let x3 : Int × Int × Int × Int × Int × Int × Int := x2.2
  let x4 : Bool := !mTaken (c, s == 5, g, []) (45, x3)
  let x5 : Bool := c.2.1.2.2.2.2.2.2.2.1.2.2.1
  let x6 : Bool × Bool × Bool × Bool := c.2.1.2.2.2.2.2.2.2.1.2.2.2
  let x7 : Bool := x6.1
  let x8 : Bool × Bool × Bool := x6.2
  let x9 : Bool := x8.1
  let x10 : Bool × Bool := x8.2
  let x11 : Bool := x10.1
  let x12 : Bool := x10.2
  .br (rInternal s)
  (.leaf (some ((c.1, (rgx c.2.1 c.2.1.2.2.2.2.2.2.2.1 x1 (rVector s)), c.2.2))))
  (.br (!mAtC (c, s == 5, g, []) 0 || x2.1 == 45)
   (.br (mAtC (c, s == 5, g, []) 0)
    (.leaf (some ((bif x4 then c.1 else c.1, (bif x4 then c.2.1.1 else c.2.1.1, bif x4 then c.2.1.2.1 else c.2.1.2.1, bif x4 then c.2.1.2.2.1 else c.2.1.2.2.1, bif x4 then c.2.1.2.2.2.1 else c.2.1.2.2.2.1, bif x4 then c.2.1.2.2.2.2.1 else c.2.1.2.2.2.2.1, bif x4 then c.2.1.2.2.2.2.2.1 else c.2.1.2.2.2.2.2.1, bif x4 then c.2.1.2.2.2.2.2.2.1 else c.2.1.2.2.2.2.2.2.1, (bif x4 then c.2.1.2.2.2.2.2.2.2.1.1 else c.2.1.2.2.2.2.2.2.2.1.1, bif x4 then c.2.1.2.2.2.2.2.2.2.1.2.1 else c.2.1.2.2.2.2.2.2.2.1.2.1, bif x4 then x5 else x5, bif x4 then x7 else x7, bif x4 then x9 else x9, bif x4 then x11 else x11, bif x4 then x12 else x12), bif x4 then (spOf c) else x1, bif x4 then mBehind (c, s == 5, g, []) x3.1 else 64), bif x4 then c.2.2.1 else c.2.2.1, false, false, bif x4 then c.2.2.2.2.2.1 else c.2.2.2.2.2.1, bif x4 then c.2.2.2.2.2.2.1 else c.2.2.2.2.2.2.1, bif x4 then c.2.2.2.2.2.2.2.1 else c.2.2.2.2.2.2.2.1, bif x4 then c.2.2.2.2.2.2.2.2.1 else c.2.2.2.2.2.2.2.2.1, bif x4 then c.2.2.2.2.2.2.2.2.2.1 else c.2.2.2.2.2.2.2.2.2.1, bif x4 then c.2.2.2.2.2.2.2.2.2.2.1 else c.2.2.2.2.2.2.2.2.2.2.1, bif x4 then c.2.2.2.2.2.2.2.2.2.2.2.1 else c.2.2.2.2.2.2.2.2.2.2.2.1, bif x4 then c.2.2.2.2.2.2.2.2.2.2.2.2 else c.2.2.2.2.2.2.2.2.2.2.2.2))))
    (.leaf none))
   (.leaf none))

noncomputable def rFin_45 (c : TC) (s : Int) (g : List Int) (ln : Bool × Bool × Bool × Bool × Bool × Bool × Bool × Bool × Bool) : TC := getO rFinRs.dflt (rFin_45T c s g ln).val

noncomputable def rFin_45C (c : TC) (s : Int) (g : List Int) (ln : Bool × Bool × Bool × Bool × Bool × Bool × Bool × Bool × Bool) : Bool := okB (rFin_45T c s g ln).val

theorem rFin_45_ev (a : HL rFinTs) : evVal (envX Tryz.prog (rFinL 45) [] 79250227772808467515411824639 8) Tryz.f26 rFinTs rFinRs a = rFin_45T a.1 a.2.1 a.2.2.1 a.2.2.2 := by kernel_rfl
end
end Go.Proofs.YteboknglfjadoaaGreat
