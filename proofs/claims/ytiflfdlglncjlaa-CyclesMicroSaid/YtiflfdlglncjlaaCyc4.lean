/-
  Contracts of functions; each found by the symbolic executor and checked by the kernel. Conditions: none.
-/
import Derived.Test.YtiflfdlglncjlaaS3D
import Derived.Test.YtiflfdlglncjlaaProg
import Derived.Test.YtiflfdlglncjlaaCyc3
set_option linter.unusedSimpArgs false
open Go Go.S3 Go.Proofs
set_option linter.unusedVariables false
set_option maxRecDepth 100000
namespace Go.Proofs.Ytiflfdlglncjlaa
noncomputable section
abbrev lKindsTs : List Sh := [Sh.one (R.int IntKind.i64), Sh.one (R.int IntKind.u8), Sh.one R.bool]

abbrev lKindsRs : Rs := Rs.one (Sh.one R.bool)

def lKindsL0c : LS := { n := 47, slots := [(1, .code (Sh.one (R.int IntKind.u8))), (2, .code (Sh.one R.bool)), (6, .code (Sh.one R.bool)), (9, .code (Sh.one (R.sl (RY)))), (10, .code (Sh.one (R.sl (RY)))), (13, .code (Sh.agg (R.pair (R.int IntKind.i64) (R.pair (R.int IntKind.i64) (R.int IntKind.i64))))), (14, .code (Sh.one (R.int IntKind.i64))), (31, .code (Sh.one (R.int IntKind.i64))), (32, .code (Sh.one (R.int IntKind.i64)))], boxes := [], stgs := [] }

noncomputable def lKindsL0T (a : Int × Bool × Bool × List TY × List TY × (Int × Int × Int) × Int × Int × Int × PUnit) : RT (Option (Go1 (Int × Bool × Bool × List TY × List TY × (Int × Int × Int) × Int × Int × Int × PUnit))) :=
  let x1 : Bool := inRng a.2.2.2.2.2.2.2.2.1 (List.length a.2.2.2.1)
  let x2 : Bool := !x1 || inRng a.2.2.2.2.2.2.2.2.1 (List.length a.2.2.2.2.1)
  let x3 : Int × Int × Int × Int := R.get (RY) a.2.2.2.1 a.2.2.2.2.2.2.2.2.1
  let x4 : Int × Int × Int × Int := R.get (RY) a.2.2.2.2.1 a.2.2.2.2.2.2.2.2.1
  let x5 : Int × Int × Int := x3.2
  let x6 : Int × Int × Int := x4.2
  let x7 : Int × Int := x5.2
  let x8 : Int × Int := x6.2
  let x9 : List TY × List TY × (Int × Int × Int) × Int × Int × Int × PUnit := (a.2.2.2.1, a.2.2.2.2.1, a.2.2.2.2.2.1, a.2.2.2.2.2.2.1, a.2.2.2.2.2.2.2.1, a.2.2.2.2.2.2.2.2.1, PUnit.unit)
  .br (decide (a.2.2.2.2.2.2.2.2.1 < a.2.2.2.2.2.2.2.1))
  (.br (!x2 || x1)
   (.br (x2)
    (.br (!(x3.1 == x4.1 && (x5.1 == x6.1 && (x7.1 == x8.1 && (x7.2 == x8.2 && true)))))
     (.leaf (some (Go1.ret (a.1, a.2.1, false, x9))))
     (.leaf (some (Go1.cont (a.1, a.2.1, a.2.2.1, a.2.2.2.1, a.2.2.2.2.1, a.2.2.2.2.2.1, a.2.2.2.2.2.2.1, a.2.2.2.2.2.2.2.1, IntKind.i64.wrap (a.2.2.2.2.2.2.2.2.1 + 1), PUnit.unit)))))
    (.leaf none))
   (.leaf none))
  (.leaf (some (Go1.brk (a.1, a.2.1, a.2.2.1, x9))))

noncomputable def lKindsL0O : Ora := loopE true lKindsL0c lKindsL0T (fun a => (a.2.2.2.2.2.2.2.1 - a.2.2.2.2.2.2.2.2.1).toNat + 1)

theorem lKindsL0_ok : OraOk (envX Try.prog [(13, cKinds1E), (14, rKinds1E), (15, lKnownE)] [] 4095 8) (.block 2 (.loop (bodyIn Try.f3.body 2))) lKindsL0O :=
  loop_part (envX_ok (l := [(13, cKinds1E), (14, rKinds1E), (15, lKnownE)]) ⟨cKinds1_ok, rKinds1_ok, lKnown_ok, trivial⟩ [] 4095 8) (loopsOk_bare (by kernel_rfl)) (fun a => by kernel_rfl)

def lKindsL1c : LS := { n := 47, slots := [(1, .code (Sh.one (R.int IntKind.u8))), (2, .code (Sh.one R.bool)), (6, .code (Sh.one R.bool)), (13, .code (Sh.agg (R.pair (R.int IntKind.i64) (R.pair (R.int IntKind.i64) (R.int IntKind.i64))))), (14, .code (Sh.one (R.int IntKind.i64)))], boxes := [], stgs := [] }

noncomputable def lKindsL1T (a : Int × Bool × Bool × (Int × Int × Int) × Int × PUnit) : RT (Option (Go1 (Int × Bool × Bool × (Int × Int × Int) × Int × PUnit))) :=
  let x1 : Bool := decide (0 ≤ a.2.2.2.2.1 ∧ a.2.2.2.2.1 < 3)
  let x2 : List TY := rKinds (bif a.2.2.2.2.1 == 0 then a.2.2.2.1.1 else bif a.2.2.2.2.1 == iN (0 + 1) then a.2.2.2.1.2.1 else a.2.2.2.1.2.2) a.1 a.2.1
  let x3 : Int := iN (List.length x2)
  let x4 : Bool := x3 != x3
  let x5 : Int × Bool × Bool × List TY × List TY × (Int × Int × Int) × Int × Int × Int × PUnit := (a.1, a.2.1, a.2.2.1, x2, x2, a.2.2.2.1, a.2.2.2.2.1, x3, 0, ())
  let x6 : Option (Bool × Int × Bool × Bool × List TY × List TY × (Int × Int × Int) × Int × Int × Int × PUnit) := runF true lKindsL0T (fun a_1 => Int.toNat (a_1.2.2.2.2.2.2.2.1 - a_1.2.2.2.2.2.2.2.2.1) + 1) x5
  let x7 : (Int × Int × Int) × Int × PUnit := (a.2.2.2.1, a.2.2.2.2.1, PUnit.unit)
  let x8 : Bool × Int × Bool × Bool × List TY × List TY × (Int × Int × Int) × Int × Int × Int × PUnit := getO (false, x5) x6
  let x9 : Int × Bool × Bool × List TY × List TY × (Int × Int × Int) × Int × Int × Int × PUnit := x8.2
  let x10 : Int := x9.1
  let x11 : Bool × Bool × List TY × List TY × (Int × Int × Int) × Int × Int × Int × PUnit := x9.2
  let x12 : Bool := x11.1
  let x13 : Bool × List TY × List TY × (Int × Int × Int) × Int × Int × Int × PUnit := x11.2
  let x14 : Bool := x13.1
  let x15 : (Int × Int × Int) × Int × Int × Int × PUnit := x13.2.2.2
  let x16 : Int × Int × Int := x15.1
  let x17 : Int := x15.2.1
  .br (decide (a.2.2.2.2.1 < 3))
  (.br (!x1 || (x4 || okB x6))
   (.br (x1)
    (.br (x4)
     (.leaf (some (Go1.ret (a.1, a.2.1, false, x7))))
     (.br x8.1
      (.leaf (some (Go1.ret (x10, x12, x14, x16, x17, PUnit.unit))))
      (.leaf (some (Go1.cont (x10, x12, x14, x16, IntKind.i64.wrap (x17 + 1), PUnit.unit))))))
    (.leaf none))
   (.leaf none))
  (.leaf (some (Go1.brk (a.1, a.2.1, a.2.2.1, x7))))

noncomputable def lKindsL1O : Ora := loopE true lKindsL1c lKindsL1T (fun a => (3 - a.2.2.2.2.1).toNat + 1)

theorem lKindsL1_ok : OraOk (envX Try.prog [(13, cKinds1E), (14, rKinds1E), (15, lKnownE)] [(2, lKindsL0O)] 4095 8) (.block 0 (.loop (bodyIn Try.f3.body 0))) lKindsL1O :=
  loop_part (envX_ok (l := [(13, cKinds1E), (14, rKinds1E), (15, lKnownE)]) ⟨cKinds1_ok, rKinds1_ok, lKnown_ok, trivial⟩ [(2, lKindsL0O)] 4095 8) (loopsOk_sub (by kernel_rfl) (by kernel_rfl) ⟨lKindsL0_ok, trivial⟩) (fun a => by kernel_rfl)

noncomputable def lKindsT (chip : Int) (op : Int) (tk : Bool) : RT (Option (Bool)) :=
  let x1 : Int × Bool × Bool × (Int × Int × Int) × Int × PUnit := (op, tk, false, (chip, 1, 2), 0, ())
  let x2 : Option (Bool × Int × Bool × Bool × (Int × Int × Int) × Int × PUnit) := runF true lKindsL1T (fun a => Int.toNat (3 - a.2.2.2.2.1) + 1) x1
  let x3 : Bool × Int × Bool × Bool × (Int × Int × Int) × Int × PUnit := getO (false, x1) x2
  .br (okB x2)
  (.br x3.1
   (.leaf (some x3.2.2.2.1))
   (.leaf (some (true))))
  (.leaf none)

noncomputable def lKinds (chip : Int) (op : Int) (tk : Bool) : Bool := getO lKindsRs.dflt (lKindsT chip op tk).val

noncomputable def lKindsC (chip : Int) (op : Int) (tk : Bool) : Bool := okB (lKindsT chip op tk).val

noncomputable def lKindsE : Entry := pureE lKindsTs lKindsRs (fun a => some (lKindsC a.1 a.2.1 a.2.2)) (fun a => lKinds a.1 a.2.1 a.2.2)

theorem lKinds_ok : EntryOk Try.prog 3 lKindsE :=
  pure_part (P := Try.prog) (n := 4095) (k := 8) (l := [(13, cKinds1E), (14, rKinds1E), (15, lKnownE)]) (ol := [(2, lKindsL0O), (0, lKindsL1O)]) ⟨cKinds1_ok, rKinds1_ok, lKnown_ok, trivial⟩ Try.func3 rfl (by kernel_rfl) Try.call3 ⟨lKindsL0_ok, lKindsL1_ok, trivial⟩ (ts := lKindsTs) (rs := lKindsRs) (t := fun a => lKindsT a.1 a.2.1 a.2.2) (fun a => by kernel_rfl)
end
end Go.Proofs.Ytiflfdlglncjlaa
