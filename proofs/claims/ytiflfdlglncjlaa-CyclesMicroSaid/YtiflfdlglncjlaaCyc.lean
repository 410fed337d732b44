/-
  Contracts of functions; each found by the symbolic executor and checked by the kernel. Conditions: none.
-/
import Derived.Test.YtiflfdlglncjlaaS3D
import Derived.Test.YtiflfdlglncjlaaProg
import Derived.Test.YtiflfdlglncjlaaNextChip
set_option linter.unusedSimpArgs false
open Go Go.S3 Go.Proofs
set_option linter.unusedVariables false
set_option maxRecDepth 100000
namespace Go.Proofs.Ytiflfdlglncjlaa
noncomputable section
abbrev cRestartTs : List Sh := []

abbrev cRestartRs : Rs := Rs.one (Sh.one (R.int IntKind.i64))

noncomputable def cRestartT : RT (Int) :=
  .leaf (12)

noncomputable def cRestart : Int := (cRestartT ).val

noncomputable def cRestartE : Entry := pureE cRestartTs cRestartRs (fun _ => none) (fun a => cRestart )

theorem cRestart_ok : EntryOk Try.prog 18 cRestartE :=
  pure_tot (P := Try.prog) (n := 1) (k := 8) (l := []) (ol := []) trivial Try.func18 rfl (by kernel_rfl) Try.call18 trivial (ts := cRestartTs) (rs := cRestartRs) (t := fun a => cRestartT ) (fun a => by kernel_rfl)

abbrev cKindsTs : List Sh := [Sh.one (R.int IntKind.i64), Sh.one (R.int IntKind.u8), Sh.one R.bool]

abbrev cKindsRs : Rs := Rs.one (Sh.one (R.sl (RY)))

noncomputable def cKindsT (chip : Int) (op : Int) (tk : Bool) : RT (Option (List TY)) :=
  let x1 : Bool := rHolds (rDecode chip op).2.2.2.2.2.2.1 (true, true, true, true, true, true, true) == tk
  let x2 : TC := (chip, (0, 0, 0, 0, 0, 0, 0, (x1, x1, x1, x1, x1, x1, x1), 0, 0), false, false, false, 0, false, false, false, false, false, false, false)
  let x3 : TY × Bool := nextX x2 0 [op]
  let x4 : Bool := !x3.2
  let x5 : TY × Bool := nextX x2 0 ([op] ++ [0])
  let x6 : Bool := !x5.2
  let x7 : TY × Bool := nextX x2 0 ([op] ++ [0] ++ [0])
  let x8 : Bool := !x7.2
  let x9 : List Int := [op] ++ [0] ++ [0] ++ [0]
  let x10 : TY × Bool := nextX x2 0 x9
  let x11 : Bool := !x10.2
  let x12 : List Int := x9 ++ [0]
  let x13 : TY × Bool := nextX x2 0 x12
  let x14 : Bool := !x13.2
  let x15 : List Int := x12 ++ [0]
  let x16 : TY × Bool := nextX x2 0 x15
  let x17 : Bool := !x16.2
  let x18 : List Int := x15 ++ [0]
  let x19 : TY × Bool := nextX x2 0 x18
  let x20 : Bool := !x19.2
  let x21 : Int × Int × Int × Int := x3.1
  let x22 : Int × Int × Int × Int := (x21.1, 0, 0, x21.2.2.2)
  let x23 : Int × Int × Int × Int := x5.1
  let x24 : Int × Int × Int × Int := (x23.1, 0, 0, x23.2.2.2)
  let x25 : Int × Int × Int × Int := x7.1
  let x26 : Int × Int × Int × Int := (x25.1, 0, 0, x25.2.2.2)
  let x27 : Int × Int × Int × Int := x10.1
  let x28 : Int × Int × Int × Int := (x27.1, 0, 0, x27.2.2.2)
  let x29 : Int × Int × Int × Int := x13.1
  let x30 : Int × Int × Int × Int := (x29.1, 0, 0, x29.2.2.2)
  let x31 : Int × Int × Int × Int := x16.1
  let x32 : Int × Int × Int × Int := (x31.1, 0, 0, x31.2.2.2)
  let x33 : Int × Int × Int × Int := x19.1
  .br (x4 || (x6 || (x8 || (x11 || (x14 || (x17 || (x20 || !(nextX x2 0 (x18 ++ [0])).2)))))))
  (.br (x4)
   (.leaf (some ([(1, 0, 0, rFirst chip op)])))
   (.br (x6)
    (.leaf (some ([(1, 0, 0, rFirst chip op), x22])))
    (.br (x8)
     (.leaf (some ([(1, 0, 0, rFirst chip op), x22, x24])))
     (.br (x11)
      (.leaf (some ([(1, 0, 0, rFirst chip op), x22, x24, x26])))
      (.br (x14)
       (.leaf (some ([(1, 0, 0, rFirst chip op), x22, x24, x26, x28])))
       (.br (x17)
        (.leaf (some ([(1, 0, 0, rFirst chip op), x22, x24, x26, x28, x30])))
        (.br (x20)
         (.leaf (some ([(1, 0, 0, rFirst chip op), x22, x24, x26, x28, x30, x32])))
         (.leaf (some ([(1, 0, 0, rFirst chip op), x22, x24, x26, x28, x30, x32, (x33.1, 0, 0, x33.2.2.2)]))))))))))
  (.leaf none)

noncomputable def cKinds (chip : Int) (op : Int) (tk : Bool) : List TY := getO cKindsRs.dflt (cKindsT chip op tk).val

noncomputable def cKindsC (chip : Int) (op : Int) (tk : Bool) : Bool := okB (cKindsT chip op tk).val

noncomputable def cKindsE : Entry := pureE cKindsTs cKindsRs (fun a => some (cKindsC a.1 a.2.1 a.2.2)) (fun a => cKinds a.1 a.2.1 a.2.2)

theorem cKinds_ok : EntryOk Try.prog 13 cKindsE :=
  pure_part (P := Try.prog) (n := 8191) (k := 8) (l := [(24, pFirst1E), (25, pNextE), (34, pHolds1E), (35, pDecode1E)]) (ol := []) ⟨pFirst1_ok, pNext_ok, pHolds1_ok, pDecode1_ok, trivial⟩ Try.func13 rfl (by kernel_rfl) Try.call13 trivial (ts := cKindsTs) (rs := cKindsRs) (t := fun a => cKindsT a.1 a.2.1 a.2.2) (fun a => by kernel_rfl)

abbrev rKindsTs : List Sh := [Sh.one (R.int IntKind.i64), Sh.one (R.int IntKind.u8), Sh.one R.bool]

abbrev rKindsRs : Rs := Rs.one (Sh.one (R.sl (RY)))

noncomputable def rKindsT (chip : Int) (op : Int) (tk : Bool) : RT (Option (List TY)) :=
  let x1 : List TF := [(false, false, false, false, false, false, false), (true, true, true, true, true, true, true)]
  let x2 : TF := R.get (R.pair R.bool (R.pair R.bool (R.pair R.bool (R.pair R.bool (R.pair R.bool (R.pair R.bool R.bool)))))) x1 (IntKind.i64.wrap (0 + 1))
  let x3 : Bool := rHolds (rDecode chip op).2.2.2.2.2.2.1 x2 == tk
  let x4 : TF := R.get (R.pair R.bool (R.pair R.bool (R.pair R.bool (R.pair R.bool (R.pair R.bool (R.pair R.bool R.bool)))))) x1 0
  let x5 : Bool := rHolds (rDecode chip op).2.2.2.2.2.2.1 x4 == tk
  let x6 : Bool × Bool × Bool × Bool × Bool × Bool := x2.2
  let x7 : Bool × Bool × Bool × Bool × Bool × Bool := x4.2
  let x8 : Bool × Bool × Bool × Bool × Bool := x6.2
  let x9 : Bool × Bool × Bool × Bool × Bool := x7.2
  let x10 : Bool × Bool × Bool × Bool := x8.2
  let x11 : Bool × Bool × Bool × Bool := x9.2
  let x12 : Bool × Bool × Bool := x10.2
  let x13 : Bool × Bool × Bool := x11.2
  let x14 : Bool × Bool := x12.2
  let x15 : Bool × Bool := x13.2
  let x16 : TC := (chip, (0, 0, 0, 0, 0, 0, 0, (bif x3 then x2.1 else x5 && x4.1, bif x3 then x6.1 else x5 && x7.1, bif x3 then x8.1 else x5 && x9.1, bif x3 then x10.1 else x5 && x11.1, bif x3 then x12.1 else x5 && x13.1, bif x3 then x14.1 else x5 && x15.1, bif x3 then x14.2 else x5 && x15.2), 0, 0), false, false, false, 0, false, false, false, false, false, false, false)
  let x17 : TY × Bool := nextX x16 0 [op]
  let x18 : Bool := !x17.2
  let x19 : TY × Bool := nextX x16 0 ([op] ++ [0])
  let x20 : Bool := !x19.2
  let x21 : TY × Bool := nextX x16 0 ([op] ++ [0] ++ [0])
  let x22 : Bool := !x21.2
  let x23 : List Int := [op] ++ [0] ++ [0] ++ [0]
  let x24 : TY × Bool := nextX x16 0 x23
  let x25 : Bool := !x24.2
  let x26 : List Int := x23 ++ [0]
  let x27 : TY × Bool := nextX x16 0 x26
  let x28 : Bool := !x27.2
  let x29 : List Int := x26 ++ [0]
  let x30 : TY × Bool := nextX x16 0 x29
  let x31 : Bool := !x30.2
  let x32 : List Int := x29 ++ [0]
  let x33 : TY × Bool := nextX x16 0 x32
  let x34 : Bool := !x33.2
  let x35 : Int × Int × Int × Int := x17.1
  let x36 : Int × Int × Int × Int := (x35.1, 0, 0, x35.2.2.2)
  let x37 : Int × Int × Int × Int := x19.1
  let x38 : Int × Int × Int × Int := (x37.1, 0, 0, x37.2.2.2)
  let x39 : Int × Int × Int × Int := x21.1
  let x40 : Int × Int × Int × Int := (x39.1, 0, 0, x39.2.2.2)
  let x41 : Int × Int × Int × Int := x24.1
  let x42 : Int × Int × Int × Int := (x41.1, 0, 0, x41.2.2.2)
  let x43 : Int × Int × Int × Int := x27.1
  let x44 : Int × Int × Int × Int := (x43.1, 0, 0, x43.2.2.2)
  let x45 : Int × Int × Int × Int := x30.1
  let x46 : Int × Int × Int × Int := (x45.1, 0, 0, x45.2.2.2)
  let x47 : Int × Int × Int × Int := x33.1
  .br (x18 || (x20 || (x22 || (x25 || (x28 || (x31 || (x34 || !(nextX x16 0 (x32 ++ [0])).2)))))))
  (.br (x18)
   (.leaf (some ([(1, 0, 0, rFirst chip op)])))
   (.br (x20)
    (.leaf (some ([(1, 0, 0, rFirst chip op), x36])))
    (.br (x22)
     (.leaf (some ([(1, 0, 0, rFirst chip op), x36, x38])))
     (.br (x25)
      (.leaf (some ([(1, 0, 0, rFirst chip op), x36, x38, x40])))
      (.br (x28)
       (.leaf (some ([(1, 0, 0, rFirst chip op), x36, x38, x40, x42])))
       (.br (x31)
        (.leaf (some ([(1, 0, 0, rFirst chip op), x36, x38, x40, x42, x44])))
        (.br (x34)
         (.leaf (some ([(1, 0, 0, rFirst chip op), x36, x38, x40, x42, x44, x46])))
         (.leaf (some ([(1, 0, 0, rFirst chip op), x36, x38, x40, x42, x44, x46, (x47.1, 0, 0, x47.2.2.2)]))))))))))
  (.leaf none)

noncomputable def rKinds (chip : Int) (op : Int) (tk : Bool) : List TY := getO rKindsRs.dflt (rKindsT chip op tk).val

noncomputable def rKindsC (chip : Int) (op : Int) (tk : Bool) : Bool := okB (rKindsT chip op tk).val

noncomputable def rKindsE : Entry := pureE rKindsTs rKindsRs (fun a => some (rKindsC a.1 a.2.1 a.2.2)) (fun a => rKinds a.1 a.2.1 a.2.2)

theorem rKinds_ok : EntryOk Try.prog 14 rKindsE :=
  pure_part (P := Try.prog) (n := 32767) (k := 8) (l := [(22, rHoldsE), (23, rDecode1E), (27, rFirstE), (36, rNextE)]) (ol := []) ⟨rHolds_ok, rDecode1_ok, rFirst_ok, rNext_ok, trivial⟩ Try.func14 rfl (by kernel_rfl) Try.call14 trivial (ts := rKindsTs) (rs := rKindsRs) (t := fun a => rKindsT a.1 a.2.1 a.2.2) (fun a => by kernel_rfl)
end
end Go.Proofs.Ytiflfdlglncjlaa
