/-
  Contracts of functions; each found by the symbolic executor and checked by the kernel. Conditions: none.
-/
import Derived.Test.YtiflfdlglncjlaaS3D
import Derived.Test.YtiflfdlglncjlaaProg
import Derived.Test.YtiflfdlglncjlaaFin0
set_option linter.unusedSimpArgs false
open Go Go.S3 Go.Proofs
set_option linter.unusedVariables false
set_option maxRecDepth 100000
namespace Go.Proofs.Ytiflfdlglncjlaa
noncomputable section
noncomputable def pFin_4T (c : TC) (s : Int) (g : List Int) (ln : Bool × Bool × Bool × Bool × Bool × Bool × Bool × Bool × Bool) : RT (Option TC) :=
  let x1 : TC × Bool × List Int × TI × List TY := (c, s == 5, g, (0, 0, 0, 0, 0, 0, 0, 0), [])
  let x2 : Bool := qAtC x1 0
  let x3 : Int × Int × Int × Int × Int × Int × Int × Int := rDecode c.1 (qAt x1 0)
  let x4 : Bool := !x2 || x3.1 == 4
  let x5 : Int × Int × Int × Int × Int × Int × Int := x3.2
  let x6 : TC × Bool × List Int × TI × List TY := (c, s == 5, g, (4, x5), [])
  .br (pInternal s)
  (.leaf (some ((c.1, (c.2.1.1, c.2.1.2.1, c.2.1.2.2.1, c.2.1.2.2.2.1, c.2.1.2.2.2.2.1, c.2.1.2.2.2.2.2.1, c.2.1.2.2.2.2.2.2.1, c.2.1.2.2.2.2.2.2.2.1, IntKind.u16.wrap (c.2.1.2.2.2.2.2.2.2.2.1 - 2), rVector s), c.2.2))))
  (.br (!x4 || x2)
   (.br (x4)
    (.br (qJoinC x6 1)
     (.leaf (some ((c.1, rSetPair (c.2.1.1, c.2.1.2.1, c.2.1.2.2.1, c.2.1.2.2.2.1, c.2.1.2.2.2.2.1, c.2.1.2.2.2.2.2.1, c.2.1.2.2.2.2.2.2.1, c.2.1.2.2.2.2.2.2.2.1, c.2.1.2.2.2.2.2.2.2.2.1, qBehind x6) x5.2.2.2.1 (qJoin x6 1), c.2.2.1, false, false, c.2.2.2.2.2))))
     (.leaf none))
    (.leaf none))
   (.leaf none))

noncomputable def pFin_4 (c : TC) (s : Int) (g : List Int) (ln : Bool × Bool × Bool × Bool × Bool × Bool × Bool × Bool × Bool) : TC := getO pFinRs.dflt (pFin_4T c s g ln).val

noncomputable def pFin_4C (c : TC) (s : Int) (g : List Int) (ln : Bool × Bool × Bool × Bool × Bool × Bool × Bool × Bool × Bool) : Bool := okB (pFin_4T c s g ln).val

theorem pFin_4_ev (a : HL pFinTs) : evVal (envX Try.prog (pFinL 4) [] 1023 8) Try.f32 pFinTs pFinRs a = pFin_4T a.1 a.2.1 a.2.2.1 a.2.2.2 := by kernel_rfl

noncomputable def pFin_8T (c : TC) (s : Int) (g : List Int) (ln : Bool × Bool × Bool × Bool × Bool × Bool × Bool × Bool × Bool) : RT (Option TC) :=
  let x1 : TC × Bool × List Int × TI × List TY := (c, s == 5, g, (0, 0, 0, 0, 0, 0, 0, 0), [])
  let x2 : Bool := qAtC x1 0
  let x3 : Int × Int × Int × Int × Int × Int × Int × Int := rDecode c.1 (qAt x1 0)
  let x4 : Bool := !x2 || x3.1 == 8
  .br (pInternal s)
  (.leaf (some ((c.1, (c.2.1.1, c.2.1.2.1, c.2.1.2.2.1, c.2.1.2.2.2.1, c.2.1.2.2.2.2.1, c.2.1.2.2.2.2.2.1, c.2.1.2.2.2.2.2.2.1, c.2.1.2.2.2.2.2.2.2.1, IntKind.u16.wrap (c.2.1.2.2.2.2.2.2.2.2.1 - 2), rVector s), c.2.2))))
  (.br (!x4 || x2)
   (.br (x4)
    (.leaf (some ((c.1, (c.2.1.1, c.2.1.2.1, c.2.1.2.2.1, c.2.1.2.2.2.1, c.2.1.2.2.2.2.1, c.2.1.2.2.2.2.2.1, c.2.1.2.2.2.2.2.2.1, c.2.1.2.2.2.2.2.2.2.1, c.2.1.2.2.2.2.2.2.2.2.1, qBehind (c, s == 5, g, (8, x3.2), [])), c.2.2.1, false, false, c.2.2.2.2.2))))
    (.leaf none))
   (.leaf none))

noncomputable def pFin_8 (c : TC) (s : Int) (g : List Int) (ln : Bool × Bool × Bool × Bool × Bool × Bool × Bool × Bool × Bool) : TC := getO pFinRs.dflt (pFin_8T c s g ln).val

noncomputable def pFin_8C (c : TC) (s : Int) (g : List Int) (ln : Bool × Bool × Bool × Bool × Bool × Bool × Bool × Bool × Bool) : Bool := okB (pFin_8T c s g ln).val

theorem pFin_8_ev (a : HL pFinTs) : evVal (envX Try.prog (pFinL 8) [] 1023 8) Try.f32 pFinTs pFinRs a = pFin_8T a.1 a.2.1 a.2.2.1 a.2.2.2 := by kernel_rfl

noncomputable def pFin_12T (c : TC) (s : Int) (g : List Int) (ln : Bool × Bool × Bool × Bool × Bool × Bool × Bool × Bool × Bool) : RT (Option TC) :=
  let x1 : TC × Bool × List Int × TI × List TY := (c, s == 5, g, (0, 0, 0, 0, 0, 0, 0, 0), [])
  let x2 : Bool := qAtC x1 0
  let x3 : Int × Int × Int × Int × Int × Int × Int × Int := rDecode c.1 (qAt x1 0)
  let x4 : Bool := !x2 || x3.1 == 12
  let x5 : Int × Int × Int × Int × Int × Int × Int := x3.2
  let x6 : TC × Bool × List Int × TI × List TY := (c, s == 5, g, (12, x5), [])
  let x7 : Int × Bool × Bool × Bool × Bool × Bool × Bool × Bool := rDo c.1 x5.2.2.2.2.1 c.2.1.1 (qOperand x6) c.2.1.2.2.2.2.2.2.2.1
  .br (pInternal s)
  (.leaf (some ((c.1, (c.2.1.1, c.2.1.2.1, c.2.1.2.2.1, c.2.1.2.2.2.1, c.2.1.2.2.2.2.1, c.2.1.2.2.2.2.2.1, c.2.1.2.2.2.2.2.2.1, c.2.1.2.2.2.2.2.2.2.1, IntKind.u16.wrap (c.2.1.2.2.2.2.2.2.2.2.1 - 2), rVector s), c.2.2))))
  (.br (!x4 || x2)
   (.br (x4)
    (.br (qOperandC x6)
     (.leaf (some ((c.1, (x7.1, c.2.1.2.1, c.2.1.2.2.1, c.2.1.2.2.2.1, c.2.1.2.2.2.2.1, c.2.1.2.2.2.2.2.1, c.2.1.2.2.2.2.2.2.1, x7.2, c.2.1.2.2.2.2.2.2.2.2.1, qBehind x6), c.2.2.1, false, false, c.2.2.2.2.2))))
     (.leaf none))
    (.leaf none))
   (.leaf none))

noncomputable def pFin_12 (c : TC) (s : Int) (g : List Int) (ln : Bool × Bool × Bool × Bool × Bool × Bool × Bool × Bool × Bool) : TC := getO pFinRs.dflt (pFin_12T c s g ln).val

noncomputable def pFin_12C (c : TC) (s : Int) (g : List Int) (ln : Bool × Bool × Bool × Bool × Bool × Bool × Bool × Bool × Bool) : Bool := okB (pFin_12T c s g ln).val

theorem pFin_12_ev (a : HL pFinTs) : evVal (envX Try.prog (pFinL 12) [] 1023 8) Try.f32 pFinTs pFinRs a = pFin_12T a.1 a.2.1 a.2.2.1 a.2.2.2 := by kernel_rfl

noncomputable def pFin_16T (c : TC) (s : Int) (g : List Int) (ln : Bool × Bool × Bool × Bool × Bool × Bool × Bool × Bool × Bool) : RT (Option TC) :=
  let x1 : TC × Bool × List Int × TI × List TY := (c, s == 5, g, (0, 0, 0, 0, 0, 0, 0, 0), [])
  let x2 : Bool := qAtC x1 0
  let x3 : Int × Int × Int × Int × Int × Int × Int × Int := rDecode c.1 (qAt x1 0)
  let x4 : Bool := !x2 || x3.1 == 16
  let x5 : Int × Int × Int × Int × Int × Int × Int := x3.2
  let x6 : TC × Bool × List Int × TI × List TY := (c, s == 5, g, (16, x5), [])
  let x7 : Int := x5.2.2.2.1
  let x8 : Int × Bool × Bool × Bool × Bool × Bool × Bool × Bool := rInx c.1 (qPair x6 x7) c.2.1.2.2.2.2.2.2.2.1
  .br (pInternal s)
  (.leaf (some ((c.1, (c.2.1.1, c.2.1.2.1, c.2.1.2.2.1, c.2.1.2.2.2.1, c.2.1.2.2.2.2.1, c.2.1.2.2.2.2.2.1, c.2.1.2.2.2.2.2.2.1, c.2.1.2.2.2.2.2.2.2.1, IntKind.u16.wrap (c.2.1.2.2.2.2.2.2.2.2.1 - 2), rVector s), c.2.2))))
  (.br (!x4 || x2)
   (.br (x4)
    (.leaf (some ((c.1, rSetPair (c.2.1.1, c.2.1.2.1, c.2.1.2.2.1, c.2.1.2.2.2.1, c.2.1.2.2.2.2.1, c.2.1.2.2.2.2.2.1, c.2.1.2.2.2.2.2.2.1, x8.2, c.2.1.2.2.2.2.2.2.2.2.1, qBehind x6) x7 x8.1, c.2.2.1, false, false, c.2.2.2.2.2))))
    (.leaf none))
   (.leaf none))

noncomputable def pFin_16 (c : TC) (s : Int) (g : List Int) (ln : Bool × Bool × Bool × Bool × Bool × Bool × Bool × Bool × Bool) : TC := getO pFinRs.dflt (pFin_16T c s g ln).val

noncomputable def pFin_16C (c : TC) (s : Int) (g : List Int) (ln : Bool × Bool × Bool × Bool × Bool × Bool × Bool × Bool × Bool) : Bool := okB (pFin_16T c s g ln).val

theorem pFin_16_ev (a : HL pFinTs) : evVal (envX Try.prog (pFinL 16) [] 1023 8) Try.f32 pFinTs pFinRs a = pFin_16T a.1 a.2.1 a.2.2.1 a.2.2.2 := by kernel_rfl

noncomputable def pFin_20T (c : TC) (s : Int) (g : List Int) (ln : Bool × Bool × Bool × Bool × Bool × Bool × Bool × Bool × Bool) : RT (Option TC) :=
  let x1 : TC × Bool × List Int × TI × List TY := (c, s == 5, g, (0, 0, 0, 0, 0, 0, 0, 0), [])
  let x2 : Bool := qAtC x1 0
  let x3 : Int × Int × Int × Int × Int × Int × Int × Int := rDecode c.1 (qAt x1 0)
  let x4 : Bool := !x2 || x3.1 == 20
  .br (pInternal s)
  (.leaf (some ((c.1, (c.2.1.1, c.2.1.2.1, c.2.1.2.2.1, c.2.1.2.2.2.1, c.2.1.2.2.2.2.1, c.2.1.2.2.2.2.2.1, c.2.1.2.2.2.2.2.2.1, c.2.1.2.2.2.2.2.2.2.1, IntKind.u16.wrap (c.2.1.2.2.2.2.2.2.2.2.1 - 2), rVector s), c.2.2))))
  (.br (!x4 || x2)
   (.br (x4)
    (.leaf (some ((c.1, (notI IntKind.u8 c.2.1.1, c.2.1.2.1, c.2.1.2.2.1, c.2.1.2.2.2.1, c.2.1.2.2.2.2.1, c.2.1.2.2.2.2.2.1, c.2.1.2.2.2.2.2.2.1, c.2.1.2.2.2.2.2.2.2.1, c.2.1.2.2.2.2.2.2.2.2.1, qBehind (c, s == 5, g, (20, x3.2), [])), c.2.2.1, false, false, c.2.2.2.2.2))))
    (.leaf none))
   (.leaf none))

noncomputable def pFin_20 (c : TC) (s : Int) (g : List Int) (ln : Bool × Bool × Bool × Bool × Bool × Bool × Bool × Bool × Bool) : TC := getO pFinRs.dflt (pFin_20T c s g ln).val

noncomputable def pFin_20C (c : TC) (s : Int) (g : List Int) (ln : Bool × Bool × Bool × Bool × Bool × Bool × Bool × Bool × Bool) : Bool := okB (pFin_20T c s g ln).val

theorem pFin_20_ev (a : HL pFinTs) : evVal (envX Try.prog (pFinL 20) [] 1023 8) Try.f32 pFinTs pFinRs a = pFin_20T a.1 a.2.1 a.2.2.1 a.2.2.2 := by kernel_rfl

noncomputable def pFin_24T (c : TC) (s : Int) (g : List Int) (ln : Bool × Bool × Bool × Bool × Bool × Bool × Bool × Bool × Bool) : RT (Option TC) :=
  let x1 : TC × Bool × List Int × TI × List TY := (c, s == 5, g, (0, 0, 0, 0, 0, 0, 0, 0), [])
  let x2 : Bool := qAtC x1 0
  let x3 : Int × Int × Int × Int × Int × Int × Int × Int := rDecode c.1 (qAt x1 0)
  let x4 : Bool := !x2 || x3.1 == 24
  let x5 : TC × Bool × List Int × TI × List TY := (c, s == 5, g, (24, x3.2), [])
  let x6 : Bool := qTaken x5
  .br (pInternal s)
  (.leaf (some ((c.1, (c.2.1.1, c.2.1.2.1, c.2.1.2.2.1, c.2.1.2.2.2.1, c.2.1.2.2.2.2.1, c.2.1.2.2.2.2.2.1, c.2.1.2.2.2.2.2.2.1, c.2.1.2.2.2.2.2.2.2.1, IntKind.u16.wrap (c.2.1.2.2.2.2.2.2.2.2.1 - 2), rVector s), c.2.2))))
  (.br (!x4 || x2)
   (.br (x4)
    (.br (!x6 || qJoinC x5 1)
     (.leaf (some ((c.1, (c.2.1.1, c.2.1.2.1, c.2.1.2.2.1, c.2.1.2.2.2.1, c.2.1.2.2.2.2.1, c.2.1.2.2.2.2.2.1, c.2.1.2.2.2.2.2.2.1, c.2.1.2.2.2.2.2.2.2.1, c.2.1.2.2.2.2.2.2.2.2.1, bif x6 then qJoin x5 1 else qBehind x5), c.2.2.1, false, false, c.2.2.2.2.2))))
     (.leaf none))
    (.leaf none))
   (.leaf none))

noncomputable def pFin_24 (c : TC) (s : Int) (g : List Int) (ln : Bool × Bool × Bool × Bool × Bool × Bool × Bool × Bool × Bool) : TC := getO pFinRs.dflt (pFin_24T c s g ln).val

noncomputable def pFin_24C (c : TC) (s : Int) (g : List Int) (ln : Bool × Bool × Bool × Bool × Bool × Bool × Bool × Bool × Bool) : Bool := okB (pFin_24T c s g ln).val

theorem pFin_24_ev (a : HL pFinTs) : evVal (envX Try.prog (pFinL 24) [] 1023 8) Try.f32 pFinTs pFinRs a = pFin_24T a.1 a.2.1 a.2.2.1 a.2.2.2 := by kernel_rfl

noncomputable def pFin_28T (c : TC) (s : Int) (g : List Int) (ln : Bool × Bool × Bool × Bool × Bool × Bool × Bool × Bool × Bool) : RT (Option TC) :=
  let x1 : TC × Bool × List Int × TI × List TY := (c, s == 5, g, (0, 0, 0, 0, 0, 0, 0, 0), [])
  let x2 : Bool := qAtC x1 0
  let x3 : Int × Int × Int × Int × Int × Int × Int × Int := rDecode c.1 (qAt x1 0)
  let x4 : Bool := !x2 || x3.1 == 28
  .br (pInternal s)
  (.leaf (some ((c.1, (c.2.1.1, c.2.1.2.1, c.2.1.2.2.1, c.2.1.2.2.2.1, c.2.1.2.2.2.2.1, c.2.1.2.2.2.2.2.1, c.2.1.2.2.2.2.2.2.1, c.2.1.2.2.2.2.2.2.2.1, IntKind.u16.wrap (c.2.1.2.2.2.2.2.2.2.2.1 - 2), rVector s), c.2.2))))
  (.br (!x4 || x2)
   (.br (x4)
    (.leaf (some ((c.1, (c.2.1.1, c.2.1.2.1, c.2.1.2.2.1, c.2.1.2.2.2.1, c.2.1.2.2.2.2.1, c.2.1.2.2.2.2.2.1, c.2.1.2.2.2.2.2.2.1, c.2.1.2.2.2.2.2.2.2.1, c.2.1.2.2.2.2.2.2.2.2.1, qPair (c, s == 5, g, (28, x3.2), []) 2), c.2.2.1, false, false, c.2.2.2.2.2))))
    (.leaf none))
   (.leaf none))

noncomputable def pFin_28 (c : TC) (s : Int) (g : List Int) (ln : Bool × Bool × Bool × Bool × Bool × Bool × Bool × Bool × Bool) : TC := getO pFinRs.dflt (pFin_28T c s g ln).val

noncomputable def pFin_28C (c : TC) (s : Int) (g : List Int) (ln : Bool × Bool × Bool × Bool × Bool × Bool × Bool × Bool × Bool) : Bool := okB (pFin_28T c s g ln).val

theorem pFin_28_ev (a : HL pFinTs) : evVal (envX Try.prog (pFinL 28) [] 1023 8) Try.f32 pFinTs pFinRs a = pFin_28T a.1 a.2.1 a.2.2.1 a.2.2.2 := by kernel_rfl

noncomputable def pFin_32T (c : TC) (s : Int) (g : List Int) (ln : Bool × Bool × Bool × Bool × Bool × Bool × Bool × Bool × Bool) : RT (Option TC) :=
  let x1 : TC × Bool × List Int × TI × List TY := (c, s == 5, g, (0, 0, 0, 0, 0, 0, 0, 0), [])
  let x2 : Bool := qAtC x1 0
  let x3 : Int × Int × Int × Int × Int × Int × Int × Int := rDecode c.1 (qAt x1 0)
  let x4 : Bool := !x2 || x3.1 == 32
  let x5 : TC × Bool × List Int × TI × List TY := (c, s == 5, g, (32, x3.2), [])
  .br (pInternal s)
  (.leaf (some ((c.1, (c.2.1.1, c.2.1.2.1, c.2.1.2.2.1, c.2.1.2.2.2.1, c.2.1.2.2.2.2.1, c.2.1.2.2.2.2.2.1, c.2.1.2.2.2.2.2.2.1, c.2.1.2.2.2.2.2.2.2.1, IntKind.u16.wrap (c.2.1.2.2.2.2.2.2.2.2.1 - 2), rVector s), c.2.2))))
  (.br (!x4 || x2)
   (.br (x4)
    (.br (qJoinC x5 1)
     (.leaf (some ((c.1, rSetPair (c.2.1.1, c.2.1.2.1, c.2.1.2.2.1, c.2.1.2.2.2.1, c.2.1.2.2.2.2.1, c.2.1.2.2.2.2.2.1, c.2.1.2.2.2.2.2.2.1, c.2.1.2.2.2.2.2.2.2.1, c.2.1.2.2.2.2.2.2.2.2.1, qBehind x5) 2 (qJoin x5 1), c.2.2.1, false, false, c.2.2.2.2.2))))
     (.leaf none))
    (.leaf none))
   (.leaf none))

noncomputable def pFin_32 (c : TC) (s : Int) (g : List Int) (ln : Bool × Bool × Bool × Bool × Bool × Bool × Bool × Bool × Bool) : TC := getO pFinRs.dflt (pFin_32T c s g ln).val

noncomputable def pFin_32C (c : TC) (s : Int) (g : List Int) (ln : Bool × Bool × Bool × Bool × Bool × Bool × Bool × Bool × Bool) : Bool := okB (pFin_32T c s g ln).val

theorem pFin_32_ev (a : HL pFinTs) : evVal (envX Try.prog (pFinL 32) [] 1023 8) Try.f32 pFinTs pFinRs a = pFin_32T a.1 a.2.1 a.2.2.1 a.2.2.2 := by kernel_rfl

noncomputable def pFin_36T (c : TC) (s : Int) (g : List Int) (ln : Bool × Bool × Bool × Bool × Bool × Bool × Bool × Bool × Bool) : RT (Option TC) :=
  let x1 : TC × Bool × List Int × TI × List TY := (c, s == 5, g, (0, 0, 0, 0, 0, 0, 0, 0), [])
  let x2 : Bool := qAtC x1 0
  let x3 : Int × Int × Int × Int × Int × Int × Int × Int := rDecode c.1 (qAt x1 0)
  let x4 : Bool := !x2 || x3.1 == 36
  .br (pInternal s)
  (.leaf (some ((c.1, (c.2.1.1, c.2.1.2.1, c.2.1.2.2.1, c.2.1.2.2.2.1, c.2.1.2.2.2.2.1, c.2.1.2.2.2.2.2.1, c.2.1.2.2.2.2.2.2.1, c.2.1.2.2.2.2.2.2.2.1, IntKind.u16.wrap (c.2.1.2.2.2.2.2.2.2.2.1 - 2), rVector s), c.2.2))))
  (.br (!x4 || x2)
   (.br (x4)
    (.leaf (some ((c.1, (c.2.1.1, c.2.1.2.1, c.2.1.2.2.1, c.2.1.2.2.2.1, c.2.1.2.2.2.2.1, c.2.1.2.2.2.2.2.1, c.2.1.2.2.2.2.2.2.1, c.2.1.2.2.2.2.2.2.2.1, c.2.1.2.2.2.2.2.2.2.2.1, qBehind (c, s == 5, g, (36, x3.2), [])), false, false, false, c.2.2.2.2.2))))
    (.leaf none))
   (.leaf none))

noncomputable def pFin_36 (c : TC) (s : Int) (g : List Int) (ln : Bool × Bool × Bool × Bool × Bool × Bool × Bool × Bool × Bool) : TC := getO pFinRs.dflt (pFin_36T c s g ln).val

noncomputable def pFin_36C (c : TC) (s : Int) (g : List Int) (ln : Bool × Bool × Bool × Bool × Bool × Bool × Bool × Bool × Bool) : Bool := okB (pFin_36T c s g ln).val

theorem pFin_36_ev (a : HL pFinTs) : evVal (envX Try.prog (pFinL 36) [] 1023 8) Try.f32 pFinTs pFinRs a = pFin_36T a.1 a.2.1 a.2.2.1 a.2.2.2 := by kernel_rfl

noncomputable def pFin_40T (c : TC) (s : Int) (g : List Int) (ln : Bool × Bool × Bool × Bool × Bool × Bool × Bool × Bool × Bool) : RT (Option TC) :=
  let x1 : TC × Bool × List Int × TI × List TY := (c, s == 5, g, (0, 0, 0, 0, 0, 0, 0, 0), [])
  let x2 : Bool := qAtC x1 0
  let x3 : Int × Int × Int × Int × Int × Int × Int × Int := rDecode c.1 (qAt x1 0)
  let x4 : Bool := !x2 || x3.1 == 40
  let x5 : TC × Bool × List Int × TI × List TY := (c, s == 5, g, (40, x3.2), [])
  let x6 : Int × Bool × Bool × Bool × Bool × Bool × Bool × Bool := rDsub (qPair x5 2) (qPair x5 0)
  .br (pInternal s)
  (.leaf (some ((c.1, (c.2.1.1, c.2.1.2.1, c.2.1.2.2.1, c.2.1.2.2.2.1, c.2.1.2.2.2.2.1, c.2.1.2.2.2.2.2.1, c.2.1.2.2.2.2.2.2.1, c.2.1.2.2.2.2.2.2.2.1, IntKind.u16.wrap (c.2.1.2.2.2.2.2.2.2.2.1 - 2), rVector s), c.2.2))))
  (.br (!x4 || x2)
   (.br (x4)
    (.leaf (some ((c.1, rSetPair (c.2.1.1, c.2.1.2.1, c.2.1.2.2.1, c.2.1.2.2.2.1, c.2.1.2.2.2.2.1, c.2.1.2.2.2.2.2.1, c.2.1.2.2.2.2.2.2.1, x6.2, c.2.1.2.2.2.2.2.2.2.2.1, qBehind x5) 2 x6.1, c.2.2.1, false, false, c.2.2.2.2.2))))
    (.leaf none))
   (.leaf none))

noncomputable def pFin_40 (c : TC) (s : Int) (g : List Int) (ln : Bool × Bool × Bool × Bool × Bool × Bool × Bool × Bool × Bool) : TC := getO pFinRs.dflt (pFin_40T c s g ln).val

noncomputable def pFin_40C (c : TC) (s : Int) (g : List Int) (ln : Bool × Bool × Bool × Bool × Bool × Bool × Bool × Bool × Bool) : Bool := okB (pFin_40T c s g ln).val

theorem pFin_40_ev (a : HL pFinTs) : evVal (envX Try.prog (pFinL 40) [] 1023 8) Try.f32 pFinTs pFinRs a = pFin_40T a.1 a.2.1 a.2.2.1 a.2.2.2 := by kernel_rfl

noncomputable def pFin_44T (c : TC) (s : Int) (g : List Int) (ln : Bool × Bool × Bool × Bool × Bool × Bool × Bool × Bool × Bool) : RT (Option TC) :=
  let x1 : TC × Bool × List Int × TI × List TY := (c, s == 5, g, (0, 0, 0, 0, 0, 0, 0, 0), [])
  let x2 : Bool := qAtC x1 0
  let x3 : Int × Int × Int × Int × Int × Int × Int × Int := rDecode c.1 (qAt x1 0)
  let x4 : Bool := !x2 || x3.1 == 44
  let x5 : TC × Bool × List Int × TI × List TY := (c, s == 5, g, (44, x3.2), [])
  .br (pInternal s)
  (.leaf (some ((c.1, (c.2.1.1, c.2.1.2.1, c.2.1.2.2.1, c.2.1.2.2.2.1, c.2.1.2.2.2.2.1, c.2.1.2.2.2.2.2.1, c.2.1.2.2.2.2.2.2.1, c.2.1.2.2.2.2.2.2.2.1, IntKind.u16.wrap (c.2.1.2.2.2.2.2.2.2.2.1 - 2), rVector s), c.2.2))))
  (.br (!x4 || x2)
   (.br (x4)
    (.br (qAtC x5 1)
     (.leaf (some ((c.1, rSetPair (c.2.1.1, c.2.1.2.1, c.2.1.2.2.1, c.2.1.2.2.2.1, c.2.1.2.2.2.2.1, c.2.1.2.2.2.2.2.1, c.2.1.2.2.2.2.2.2.1, c.2.1.2.2.2.2.2.2.2.1, c.2.1.2.2.2.2.2.2.2.2.1, qBehind x5) 1 (IntKind.u16.wrap (c.2.1.2.2.2.2.2.2.2.2.1 + IntKind.u16.wrap (qAt x5 1))), c.2.2.1, false, false, c.2.2.2.2.2))))
     (.leaf none))
    (.leaf none))
   (.leaf none))

noncomputable def pFin_44 (c : TC) (s : Int) (g : List Int) (ln : Bool × Bool × Bool × Bool × Bool × Bool × Bool × Bool × Bool) : TC := getO pFinRs.dflt (pFin_44T c s g ln).val

noncomputable def pFin_44C (c : TC) (s : Int) (g : List Int) (ln : Bool × Bool × Bool × Bool × Bool × Bool × Bool × Bool × Bool) : Bool := okB (pFin_44T c s g ln).val

theorem pFin_44_ev (a : HL pFinTs) : evVal (envX Try.prog (pFinL 44) [] 1023 8) Try.f32 pFinTs pFinRs a = pFin_44T a.1 a.2.1 a.2.2.1 a.2.2.2 := by kernel_rfl
end
end Go.Proofs.Ytiflfdlglncjlaa
