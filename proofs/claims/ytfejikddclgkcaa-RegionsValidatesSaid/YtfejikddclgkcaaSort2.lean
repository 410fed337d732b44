/-
  Contracts of functions; each found by the symbolic executor and checked by the kernel. Conditions: none.
-/
import Derived.Test.YtfejikddclgkcaaS3D
import Derived.Test.YtfejikddclgkcaaProg
import Derived.Test.YtfejikddclgkcaaSortA
set_option linter.unusedSimpArgs false
open Go Go.S3 Go.Proofs
set_option linter.unusedVariables false
set_option maxRecDepth 100000
namespace Go.Proofs.Ytfejikddclgkcaa
noncomputable section
abbrev uRotRb : R := R.pair (R.int IntKind.u16) (R.int IntKind.u8)


abbrev uRotEl : Nat := 42

abbrev uRotTs : List Sh := [Sh.one (R.int IntKind.i64), Sh.one (R.int IntKind.i64), Sh.one (R.int IntKind.i64)]


def uRotL0c : LS := { n := 58, slots := [(0, .tip 0), (2, .code (Sh.one (R.int IntKind.i64))), (4, .fix (A.clo 48 [])), (10, .code (Sh.one (R.int IntKind.i64))), (11, .code (Sh.one (R.int IntKind.i64)))], boxes := [], stgs := [⟨R.pair (R.int IntKind.u16) (R.int IntKind.u8), 42, false⟩], keep := [0] }


noncomputable def uRotL0T (a : Int × Int × Int × List (Int × Int) × PUnit) : RT (Option (Go1 (Int × Int × Int × List (Int × Int) × PUnit))) :=
  let x1 : Bool := !decide (a.2.1 > a.2.2.1) || swapOk a.2.2.2.1 (IntKind.i64.wrap (a.1 - a.2.1)) a.1 a.2.2.1
  let x2 : Int := IntKind.i64.wrap (IntKind.i64.wrap (a.1 + a.2.2.1) - a.2.1)
  .br (a.2.1 != a.2.2.1)
  (.br (!x1 || (decide (a.2.1 > a.2.2.1) || swapOk a.2.2.2.1 (IntKind.i64.wrap (a.1 - a.2.1)) x2 a.2.1))
   (.br (x1)
    (.leaf (some (Go1.cont (a.1, bif decide (a.2.1 > a.2.2.1) then IntKind.i64.wrap (a.2.1 - a.2.2.1) else a.2.1, bif decide (a.2.1 > a.2.2.1) then a.2.2.1 else IntKind.i64.wrap (a.2.2.1 - a.2.1), bif decide (a.2.1 > a.2.2.1) then swapX a.2.2.2.1 (Int.toNat (IntKind.i64.wrap (a.1 - a.2.1))) (Int.toNat a.1) (Int.toNat a.2.2.1) else swapX a.2.2.2.1 (Int.toNat (IntKind.i64.wrap (a.1 - a.2.1))) (Int.toNat x2) (Int.toNat a.2.1), PUnit.unit))))
    (.leaf none))
   (.leaf none))
  (.leaf (some (Go1.brk (a.1, a.2.1, a.2.2.1, a.2.2.2.1, PUnit.unit))))

noncomputable def uRotL0O : Ora := loopE false uRotL0c uRotL0T (fun a => (a.2.1 + a.2.2.1).toNat + 1)

theorem uRotL0_ok : OraOk (envX Try.prog [(65, uSwap1E), (48, uLessE)] [] 4095 8) (.block 0 (.loop (bodyIn Try.f63.body 0))) uRotL0O :=
  loop_part (envX_ok (l := [(65, uSwap1E), (48, uLessE)]) ⟨uSwap1_ok, uLess_ok, trivial⟩ [] 4095 8) (loopsOk_bare (by kernel_rfl)) (fun a => by kernel_rfl)

noncomputable def uRotT (s : List (Int × Int)) (a : Int) (m : Int) (b : Int) : RT (Option (List (Int × Int))) :=
  let x1 : Int × Int × Int × List (Int × Int) × PUnit := (m, IntKind.i64.wrap (m - a), IntKind.i64.wrap (b - m), Stg.l (ownSt uRotRb uRotEl s), ())
  let x2 : Option (Bool × Int × Int × Int × List (Int × Int) × PUnit) := runF false uRotL0T (fun a_1 => Int.toNat (a_1.2.1 + a_1.2.2.1) + 1) x1
  let x3 : Int × Int × Int × List (Int × Int) × PUnit := (getO (false, x1) x2).2
  let x4 : Int × Int × List (Int × Int) × PUnit := x3.2
  let x5 : List (Int × Int) := x4.2.2.1
  let x6 : Int := x3.1
  let x7 : Int := x4.1
  let x8 : Int := IntKind.i64.wrap (x6 - x7)
  .br (okB x2)
  (.br (swapOk x5 x8 x6 x7)
   (.leaf (some (swapX x5 (Int.toNat x8) (Int.toNat x6) (Int.toNat x7))))
   (.leaf none))
  (.leaf none)

noncomputable def uRot (s : List (Int × Int)) (a : Int) (m : Int) (b : Int) : List (Int × Int) := getO [] (uRotT s a m b).val

noncomputable def uRotC (s : List (Int × Int)) (a : Int) (m : Int) (b : Int) : Bool := okB (uRotT s a m b).val

noncomputable def uRotE : Entry := stE uRotRb uRotEl 48 uRotTs (fun a => some (uRotC a.1 a.2.1 a.2.2.1 a.2.2.2)) (fun a => uRot a.1 a.2.1 a.2.2.1 a.2.2.2)

theorem uRot_ok : EntryOk Try.prog 63 uRotE :=
  st_part (P := Try.prog) (n := 4095) (k := 8) (l := [(65, uSwap1E), (48, uLessE)]) (ol := [(0, uRotL0O)]) ⟨uSwap1_ok, uLess_ok, trivial⟩ Try.func63 rfl (by kernel_rfl) Try.call63 ⟨uRotL0_ok, trivial⟩ (r := uRotRb) (T := uRotEl) (g0 := 48) (ts := uRotTs) (t := fun a => uRotT a.1 a.2.1 a.2.2.1 a.2.2.2) (fun a => by kernel_rfl)

end
end Go.Proofs.Ytfejikddclgkcaa
