/-
  Contracts of functions; each found by the symbolic executor and checked by the kernel. Conditions: none.
-/
import Derived.Test.YtfejikddclgkcaaS3D
import Derived.Test.YtfejikddclgkcaaProg
import Derived.Test.YtfejikddclgkcaaCloneC
set_option linter.unusedSimpArgs false
open Go Go.S3 Go.Proofs
set_option linter.unusedVariables false
set_option maxRecDepth 100000
namespace Go.Proofs.Ytfejikddclgkcaa
noncomputable section
abbrev uSortRb : R := R.pair (R.int IntKind.u16) (R.int IntKind.u8)


abbrev uSortEl : Nat := 42

abbrev uSortTs : List Sh := []


noncomputable def uSortT (s : List (Int × Int)) : RT (Option (List (Int × Int))) :=
  .br (stabOk (Stg.l (ownSt uSortRb uSortEl s)) (iN (List.length (Stg.l (ownSt uSortRb uSortEl s)))))
  (.leaf (some (Cells.isort (Stg.l (ownSt uSortRb uSortEl s)))))
  (.leaf none)


noncomputable def uSort (s : List (Int × Int)) : List (Int × Int) := getO [] (uSortT s).val


noncomputable def uSortC (s : List (Int × Int)) : Bool := okB (uSortT s).val


noncomputable def uSortE : Entry := stE uSortRb uSortEl 48 uSortTs (fun a => some (uSortC a.1 )) (fun a => uSort a.1 )


theorem uSort_ok : EntryOk Try.prog 47 uSortE :=
  st_part (P := Try.prog) (n := 15) (k := 8) (l := [(56, uStab1E), (48, uLessE)]) (ol := []) ⟨uStab1_ok, uLess_ok, trivial⟩ Try.func47 rfl (by kernel_rfl) Try.call47 trivial (r := uSortRb) (T := uSortEl) (g0 := 48) (ts := uSortTs) (t := fun a => uSortT a.1 ) (fun a => by kernel_rfl)


abbrev mNormTs : List Sh := [Sh.one (R.sl (R.pair (R.int IntKind.u16) (R.int IntKind.u8)))]


abbrev mNormRs : Rs := Rs.one (Sh.one (R.sl (R.pair (R.int IntKind.u16) (R.int IntKind.u8))))


def mNormL0c : LS := { n := 45, slots := [(3, .tip 0), (4, .tip 1), (11, .tip 0), (12, .code (Sh.one (R.int IntKind.i64))), (13, .code (Sh.one (R.int IntKind.i64)))], boxes := [], stgs := [⟨R.pair (R.int IntKind.u16) (R.int IntKind.u8), 42, true⟩, ⟨(R.pair (R.int IntKind.u16) (R.int IntKind.u8)), 42, true⟩] }


noncomputable def mNormL0T (a : Int × Int × List (Int × Int) × List (Int × Int) × PUnit) : RT (Option (Go1 (Int × Int × List (Int × Int) × List (Int × Int) × PUnit))) :=
  let x1 : Bool := (R.get (R.pair (R.int IntKind.u16) (R.int IntKind.u8)) a.2.2.1 a.2.1).2 != 0
  let x2 : Bool := IntKind.i64.wrap (a.2.1 + 1) == iN (List.length a.2.2.1)
  let x3 : Bool := !x1 || (x2 || inRng (IntKind.i64.wrap (a.2.1 + 1)) (List.length a.2.2.1))
  let x4 : Bool := x1 && (x2 || (R.get (R.pair (R.int IntKind.u16) (R.int IntKind.u8)) a.2.2.1 (IntKind.i64.wrap (a.2.1 + 1))).1 != (R.get (R.pair (R.int IntKind.u16) (R.int IntKind.u8)) a.2.2.1 a.2.1).1)
  let x5 : List (Int × Int) := a.2.2.2.1 ++ [R.get (R.pair (R.int IntKind.u16) (R.int IntKind.u8)) a.2.2.1 a.2.1]
  .br (decide (a.2.1 < a.1))
  (.br (!inRng a.2.1 (List.length a.2.2.1) || (!x3 || (!x4 || Nat.ble (List.length x5) most)))
   (.br (!inRng a.2.1 (List.length a.2.2.1) || x3)
    (.br (inRng a.2.1 (List.length a.2.2.1))
     (.leaf (some (Go1.cont (a.1, IntKind.i64.wrap (a.2.1 + 1), a.2.2.1, bif x4 then x5 else a.2.2.2.1, PUnit.unit))))
     (.leaf none))
    (.leaf none))
   (.leaf none))
  (.leaf (some (Go1.brk (a.1, a.2.1, a.2.2.1, a.2.2.2.1, PUnit.unit))))

noncomputable def mNormL0O : Ora := loopE false mNormL0c mNormL0T (fun a => (a.1 - a.2.1).toNat + 1)

theorem mNormL0_ok : OraOk (envX Try.prog [(46, cloneCE), (47, uSortE), (48, uLessE)] [] 127 8) (.block 0 (.loop (bodyIn Try.f22.body 0))) mNormL0O :=
  loop_part (envX_ok (l := [(46, cloneCE), (47, uSortE), (48, uLessE)]) ⟨cloneC_ok, uSort_ok, uLess_ok, trivial⟩ [] 127 8) (loopsOk_bare (by kernel_rfl)) (fun a => by kernel_rfl)

noncomputable def mNormT (l : List (Int × Int)) : RT (Option (List (Int × Int))) :=
  let x1 : Option (Bool × Int × Int × List (Int × Int) × List (Int × Int) × PUnit) := runF false mNormL0T (fun a => Int.toNat (a.1 - a.2.1) + 1) (iN (List.length (uSort l)), 0, uSort l, [], ())
  .br (Nat.ble (List.length l) most)
  (.br (uSortC l)
   (.br (okB x1)
    (.leaf (some (getO (false, iN (List.length (uSort l)), 0, uSort l, [], ()) x1).2.2.2.2.1))
    (.leaf none))
   (.leaf none))
  (.leaf none)

noncomputable def mNorm (l : List (Int × Int)) : List (Int × Int) := getO mNormRs.dflt (mNormT l).val

noncomputable def mNormC (l : List (Int × Int)) : Bool := okB (mNormT l).val

noncomputable def mNormE : Entry := pureE mNormTs mNormRs (fun a => some (mNormC a)) (fun a => mNorm a)

theorem mNorm_ok : EntryOk Try.prog 22 mNormE :=
  pure_part (P := Try.prog) (n := 127) (k := 8) (l := [(46, cloneCE), (47, uSortE), (48, uLessE)]) (ol := [(0, mNormL0O)]) ⟨cloneC_ok, uSort_ok, uLess_ok, trivial⟩ Try.func22 rfl (by kernel_rfl) Try.call22 ⟨mNormL0_ok, trivial⟩ (ts := mNormTs) (rs := mNormRs) (t := fun a => mNormT a) (fun a => by kernel_rfl)

abbrev mValidTs : List Sh := [Sh.one (R.sl (R.pair (R.int IntKind.u16) (R.int IntKind.u8)))]


abbrev mValidRs : Rs := Rs.one (Sh.one R.bool)


def mValidL0c : LS := { n := 31, slots := [(0, .code (Sh.one (R.sl (R.pair (R.int IntKind.u16) (R.int IntKind.u8))))), (2, .code (Sh.one R.bool)), (5, .code (Sh.one (R.sl (R.pair (R.int IntKind.u16) (R.int IntKind.u8))))), (6, .code (Sh.one (R.int IntKind.i64))), (7, .code (Sh.one (R.int IntKind.i64)))], boxes := [], stgs := [] }


noncomputable def mValidL0T (a : List (Int × Int) × Bool × List (Int × Int) × Int × Int × PUnit) : RT (Option (Go1 (List (Int × Int) × Bool × List (Int × Int) × Int × Int × PUnit))) :=
  let x1 : Int × Int := R.get (R.pair (R.int IntKind.u16) (R.int IntKind.u8)) a.2.2.1 a.2.2.2.2.1
  let x2 : Bool := x1.2 == 0
  let x3 : List (Int × Int) × Int × Int × PUnit := (a.2.2.1, a.2.2.2.1, a.2.2.2.2.1, PUnit.unit)
  .br (decide (a.2.2.2.2.1 < a.2.2.2.1))
  (.br (!inRng a.2.2.2.2.1 (List.length a.2.2.1) || (x2 || (!decide (a.2.2.2.2.1 > 0) || inRng (IntKind.i64.wrap (a.2.2.2.2.1 - 1)) (List.length a.1))))
   (.br (inRng a.2.2.2.2.1 (List.length a.2.2.1))
    (.br (x2 || decide (a.2.2.2.2.1 > 0) && decide (x1.1 ≤ (R.get (R.pair (R.int IntKind.u16) (R.int IntKind.u8)) a.1 (IntKind.i64.wrap (a.2.2.2.2.1 - 1))).1))
     (.leaf (some (Go1.ret (a.1, false, x3))))
     (.leaf (some (Go1.cont (a.1, a.2.1, a.2.2.1, a.2.2.2.1, IntKind.i64.wrap (a.2.2.2.2.1 + 1), PUnit.unit)))))
    (.leaf none))
   (.leaf none))
  (.leaf (some (Go1.brk (a.1, a.2.1, x3))))


noncomputable def mValidL0O : Ora := loopE true mValidL0c mValidL0T (fun a => 1000000000000)


theorem mValidL0_ok : OraOk (envX Try.prog [] [] 31 8) (.block 0 (.loop (bodyIn Try.f17.body 0))) mValidL0O :=
  loop_part (envX_ok (l := []) trivial [] 31 8) (loopsOk_bare (by kernel_rfl)) (fun a => by kernel_rfl)


noncomputable def mValidT (m : List (Int × Int)) : RT (Option (Bool)) :=
  let x1 : Option (Bool × List (Int × Int) × Bool × List (Int × Int) × Int × Int × PUnit) := runF true mValidL0T (fun a => 1000000000000) (m, false, m, iN (List.length m), 0, ())
  let x2 : Bool × List (Int × Int) × Bool × List (Int × Int) × Int × Int × PUnit := getO (false, m, false, m, iN (List.length m), 0, ()) x1
  .br (okB x1)
  (.br x2.1
   (.leaf (some x2.2.2.1))
   (.leaf (some (true))))
  (.leaf none)


noncomputable def mValid (m : List (Int × Int)) : Bool := getO mValidRs.dflt (mValidT m).val


noncomputable def mValidC (m : List (Int × Int)) : Bool := okB (mValidT m).val


noncomputable def mValidE : Entry := pureE mValidTs mValidRs (fun a => some (mValidC a)) (fun a => mValid a)


theorem mValid_ok : EntryOk Try.prog 17 mValidE :=
  pure_part (P := Try.prog) (n := 31) (k := 8) (l := []) (ol := [(0, mValidL0O)]) trivial Try.func17 rfl (by kernel_rfl) Try.call17 ⟨mValidL0_ok, trivial⟩ (ts := mValidTs) (rs := mValidRs) (t := fun a => mValidT a) (fun a => by kernel_rfl)


end
end Go.Proofs.Ytfejikddclgkcaa
