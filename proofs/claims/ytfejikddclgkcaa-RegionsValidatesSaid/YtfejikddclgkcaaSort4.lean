/-
  Contracts of functions; each found by the symbolic executor and checked by the kernel. Conditions: none.
-/
import Derived.Test.YtfejikddclgkcaaS3D
import Derived.Test.YtfejikddclgkcaaProg
import Derived.Test.YtfejikddclgkcaaSortE
set_option linter.unusedSimpArgs false
open Go Go.S3 Go.Proofs
set_option linter.unusedVariables false
set_option maxRecDepth 100000
namespace Go.Proofs.Ytfejikddclgkcaa
noncomputable section
abbrev uStabRb : R := R.pair (R.int IntKind.u16) (R.int IntKind.u8)


abbrev uStabEl : Nat := 42

abbrev uStabTs : List Sh := [Sh.one (R.int IntKind.i64)]


def uStabL0c : LS := { n := 63, slots := [(0, .tip 0), (1, .code (Sh.one (R.int IntKind.i64))), (2, .fix (A.clo 48 [])), (6, .code (Sh.one (R.int IntKind.i64))), (7, .code (Sh.one (R.int IntKind.i64))), (8, .code (Sh.one (R.int IntKind.i64)))], boxes := [], stgs := [⟨R.pair (R.int IntKind.u16) (R.int IntKind.u8), 42, false⟩], keep := [0] }


noncomputable def uStabL0T (a : Int × Int × Int × Int × List (Int × Int) × PUnit) : RT (Option (Go1 (Int × Int × Int × Int × List (Int × Int) × PUnit))) :=
  .br (decide (a.2.2.2.1 ≤ a.1))
  (.br (rangeOk a.2.2.2.2.1 a.2.2.1 a.2.2.2.1)
   (.leaf (some (Go1.cont (a.1, a.2.1, a.2.2.2.1, IntKind.i64.wrap (a.2.2.2.1 + a.2.1), sortX a.2.2.2.2.1 (Int.toNat a.2.2.1) (Int.toNat a.2.2.2.1), PUnit.unit))))
   (.leaf none))
  (.leaf (some (Go1.brk (a.1, a.2.1, a.2.2.1, a.2.2.2.1, a.2.2.2.2.1, PUnit.unit))))

noncomputable def uStabL0O : Ora := loopE false uStabL0c uStabL0T (fun a => (a.1 - a.2.2.2.1).toNat + 2)

theorem uStabL0_ok : OraOk (envX Try.prog [(60, uIns1E), (61, uSym1E), (48, uLessE)] [] 1023 8) (.block 0 (.loop (bodyIn Try.f56.body 0))) uStabL0O :=
  loop_part (envX_ok (l := [(60, uIns1E), (61, uSym1E), (48, uLessE)]) ⟨uIns1_ok, uSym1_ok, uLess_ok, trivial⟩ [] 1023 8) (loopsOk_bare (by kernel_rfl)) (fun a => by kernel_rfl)

def uStabL1c : LS := { n := 63, slots := [(0, .tip 0), (1, .code (Sh.one (R.int IntKind.i64))), (2, .fix (A.clo 48 [])), (6, .code (Sh.one (R.int IntKind.i64))), (7, .code (Sh.one (R.int IntKind.i64))), (8, .code (Sh.one (R.int IntKind.i64)))], boxes := [], stgs := [⟨R.pair (R.int IntKind.u16) (R.int IntKind.u8), 42, false⟩], keep := [0] }


noncomputable def uStabL1T (a : Int × Int × Int × Int × List (Int × Int) × PUnit) : RT (Option (Go1 (Int × Int × Int × Int × List (Int × Int) × PUnit))) :=
  .br (decide (a.2.2.2.1 ≤ a.1))
  (.br (uSym1Ok a.2.2.2.2.1 a.2.2.1 (IntKind.i64.wrap (a.2.2.1 + a.2.1)) a.2.2.2.1)
   (.leaf (some (Go1.cont (a.1, a.2.1, a.2.2.2.1, IntKind.i64.wrap (a.2.2.2.1 + IntKind.i64.wrap (2 * a.2.1)), sortX a.2.2.2.2.1 (Int.toNat a.2.2.1) (Int.toNat a.2.2.2.1), PUnit.unit))))
   (.leaf none))
  (.leaf (some (Go1.brk (a.1, a.2.1, a.2.2.1, a.2.2.2.1, a.2.2.2.2.1, PUnit.unit))))

noncomputable def uStabL1O : Ora := loopE false uStabL1c uStabL1T (fun a => (a.1 - a.2.2.2.1).toNat + 2)

theorem uStabL1_ok : OraOk (envX Try.prog [(60, uIns1E), (61, uSym1E), (48, uLessE)] [] 1023 8) (.block 4 (.loop (bodyIn Try.f56.body 4))) uStabL1O :=
  loop_part (envX_ok (l := [(60, uIns1E), (61, uSym1E), (48, uLessE)]) ⟨uIns1_ok, uSym1_ok, uLess_ok, trivial⟩ [] 1023 8) (loopsOk_bare (by kernel_rfl)) (fun a => by kernel_rfl)

def uStabL2c : LS := { n := 63, slots := [(0, .tip 0), (1, .code (Sh.one (R.int IntKind.i64))), (2, .fix (A.clo 48 [])), (6, .code (Sh.one (R.int IntKind.i64)))], boxes := [], stgs := [⟨R.pair (R.int IntKind.u16) (R.int IntKind.u8), 42, false⟩], keep := [0] }


noncomputable def uStabL2T (a : Int × Int × List (Int × Int) × PUnit) : RT (Option (Go1 (Int × Int × List (Int × Int) × PUnit))) :=
  let x1 : Int × Int × Int × Int × List (Int × Int) × PUnit := (a.1, a.2.1, 0, IntKind.i64.wrap (2 * a.2.1), a.2.2.1, ())
  let x2 : Option (Bool × Int × Int × Int × Int × List (Int × Int) × PUnit) := runF false uStabL1T (fun a_1 => Int.toNat (a_1.1 - a_1.2.2.2.1) + 2) x1
  let x3 : Bool := okB x2
  let x4 : Int × Int × Int × Int × List (Int × Int) × PUnit := (getO (false, x1) x2).2
  let x5 : Int × Int × Int × List (Int × Int) × PUnit := x4.2
  let x6 : Int × Int × List (Int × Int) × PUnit := x5.2
  let x7 : Int := x6.1
  let x8 : Int := x5.1
  let x9 : Int := IntKind.i64.wrap (x7 + x8)
  let x10 : Int := x4.1
  let x11 : Bool := decide (x9 < x10)
  let x12 : List (Int × Int) := x6.2.2.1
  .br (decide (a.2.1 < a.1))
  (.br (!x3 || (!x11 || uSym1Ok x12 x7 x9 x10))
   (.br (x3)
    (.leaf (some (Go1.cont (x10, IntKind.i64.wrap (x8 * 2), bif x11 then sortX x12 (Int.toNat x7) (Int.toNat x10) else x12, PUnit.unit))))
    (.leaf none))
   (.leaf none))
  (.leaf (some (Go1.brk (a.1, a.2.1, a.2.2.1, PUnit.unit))))

noncomputable def uStabL2O : Ora := loopE false uStabL2c uStabL2T (fun a => (a.1 - a.2.1).toNat + 1)

theorem uStabL2_ok : OraOk (envX Try.prog [(60, uIns1E), (61, uSym1E), (48, uLessE)] [(4, uStabL1O)] 1023 8) (.block 2 (.loop (bodyIn Try.f56.body 2))) uStabL2O :=
  loop_part (envX_ok (l := [(60, uIns1E), (61, uSym1E), (48, uLessE)]) ⟨uIns1_ok, uSym1_ok, uLess_ok, trivial⟩ [(4, uStabL1O)] 1023 8) (loopsOk_sub (by kernel_rfl) (by kernel_rfl) ⟨uStabL1_ok, trivial⟩) (fun a => by kernel_rfl)

noncomputable def uStabT (s : List (Int × Int)) (n : Int) : RT (Option (List (Int × Int))) :=
  let x1 : Int × Int × Int × Int × List (Int × Int) × PUnit := (n, 20, 0, 20, Stg.l (ownSt uStabRb uStabEl s), ())
  let x2 : Option (Bool × Int × Int × Int × Int × List (Int × Int) × PUnit) := runF false uStabL0T (fun a => Int.toNat (a.1 - a.2.2.2.1) + 2) x1
  let x3 : Int × Int × Int × Int × List (Int × Int) × PUnit := (getO (false, x1) x2).2
  let x4 : Int × Int × Int × List (Int × Int) × PUnit := x3.2
  let x5 : Int × Int × List (Int × Int) × PUnit := x4.2
  let x6 : List (Int × Int) := x5.2.2.1
  let x7 : Int := x5.1
  let x8 : Int := x3.1
  let x9 : Int × Int × List (Int × Int) × PUnit := (x8, x4.1, sortX x6 (Int.toNat x7) (Int.toNat x8), ())
  let x10 : Option (Bool × Int × Int × List (Int × Int) × PUnit) := runF false uStabL2T (fun a => Int.toNat (a.1 - a.2.1) + 1) x9
  .br (okB x2)
  (.br (rangeOk x6 x7 x8)
   (.br (okB x10)
    (.leaf (some (getO (false, x9) x10).2.2.2.1))
    (.leaf none))
   (.leaf none))
  (.leaf none)

noncomputable def uStab (s : List (Int × Int)) (n : Int) : List (Int × Int) := getO [] (uStabT s n).val

noncomputable def uStabC (s : List (Int × Int)) (n : Int) : Bool := okB (uStabT s n).val

noncomputable def uStabE : Entry := stE uStabRb uStabEl 48 uStabTs (fun a => some (uStabC a.1 a.2)) (fun a => uStab a.1 a.2)

theorem uStab_ok : EntryOk Try.prog 56 uStabE :=
  st_part (P := Try.prog) (n := 1023) (k := 8) (l := [(60, uIns1E), (61, uSym1E), (48, uLessE)]) (ol := [(0, uStabL0O), (4, uStabL1O), (2, uStabL2O)]) ⟨uIns1_ok, uSym1_ok, uLess_ok, trivial⟩ Try.func56 rfl (by kernel_rfl) Try.call56 ⟨uStabL0_ok, uStabL1_ok, uStabL2_ok, trivial⟩ (r := uStabRb) (T := uStabEl) (g0 := 48) (ts := uStabTs) (t := fun a => uStabT a.1 a.2) (fun a => by kernel_rfl)

end
end Go.Proofs.Ytfejikddclgkcaa
