/-
  Contracts of functions; each found by the symbolic executor and checked by the kernel. Conditions: none.
-/
import Derived.Test.YtiflfdlglncjlaaS3D
import Derived.Test.YtiflfdlglncjlaaProg
import Derived.Test.YtiflfdlglncjlaaCycTot
set_option linter.unusedSimpArgs false
open Go Go.S3 Go.Proofs
set_option linter.unusedVariables false
set_option maxRecDepth 100000
namespace Go.Proofs.Ytiflfdlglncjlaa
noncomputable section
abbrev lKnownTs : List Sh := []

abbrev lKnownRs : Rs := Rs.one (Sh.one R.bool)

noncomputable def lKnownT : RT (Bool) :=
  .leaf (true)

noncomputable def lKnown : Bool := (lKnownT ).val

noncomputable def lKnownE : Entry := pureE lKnownTs lKnownRs (fun _ => none) (fun a => lKnown )

theorem lKnown_ok : EntryOk Try.prog 15 lKnownE :=
  pure_tot (P := Try.prog) (n := 1) (k := 8) (l := [(13, cKinds1E), (16, cTotal1E), (18, cRestartE)]) (ol := []) ⟨cKinds1_ok, cTotal1_ok, cRestart_ok, trivial⟩ Try.func15 rfl (by kernel_rfl) Try.call15 trivial (ts := lKnownTs) (rs := lKnownRs) (t := fun a => lKnownT ) (fun a => by kernel_rfl)

abbrev lTotalsTs : List Sh := [Sh.one (R.int IntKind.i64), Sh.one (R.int IntKind.u8), Sh.one R.bool]

abbrev lTotalsRs : Rs := Rs.one (Sh.one R.bool)

noncomputable def lTotalsT (chip : Int) (op : Int) (tk : Bool) : RT (Bool) :=
  .br (rTotal chip op tk != rTotal chip op tk)
  (.leaf (false))
  (.br (rTotal 1 op tk != rTotal 1 op tk)
   (.leaf (false))
   (.br (rTotal 2 op tk != rTotal 2 op tk)
    (.leaf (false))
    (.leaf (true))))

noncomputable def lTotals (chip : Int) (op : Int) (tk : Bool) : Bool := (lTotalsT chip op tk).val

noncomputable def lTotalsE : Entry := pureE lTotalsTs lTotalsRs (fun _ => none) (fun a => lTotals a.1 a.2.1 a.2.2)

theorem lTotals_ok : EntryOk Try.prog 4 lTotalsE :=
  pure_tot (P := Try.prog) (n := 511) (k := 8) (l := [(15, lKnownE), (16, cTotal1E), (17, rTotalE), (18, cRestartE)]) (ol := []) ⟨lKnown_ok, cTotal1_ok, rTotal_ok, cRestart_ok, trivial⟩ Try.func4 rfl (by kernel_rfl) Try.call4 trivial (ts := lTotalsTs) (rs := lTotalsRs) (t := fun a => lTotalsT a.1 a.2.1 a.2.2) (fun a => by kernel_rfl)

abbrev lTakenTs : List Sh := [Sh.one (R.int IntKind.i64), Sh.one (R.int IntKind.u8)]

abbrev lTakenRs : Rs := Rs.one (Sh.one R.bool)

noncomputable def lTakenT (chip : Int) (op : Int) : RT (Option (Bool)) :=
  let x1 : Bool := (rDecode (IntKind.i64.wrap (1 + mPlace chip 2)) op).2.2.2.2.2.2.1 != 11
  .br (mPlaceC chip 2)
  (.leaf (some (decide (rTotal (IntKind.i64.wrap (1 + mPlace chip 2)) op true ≥ rTotal (IntKind.i64.wrap (1 + mPlace chip 2)) op false) && bif bif (rDecode (IntKind.i64.wrap (1 + mPlace chip 2)) op).1 == 24 then x1 else bif (rDecode (IntKind.i64.wrap (1 + mPlace chip 2)) op).1 == 25 then x1 else bif (rDecode (IntKind.i64.wrap (1 + mPlace chip 2)) op).1 == 26 then x1 else (rDecode (IntKind.i64.wrap (1 + mPlace chip 2)) op).1 == 45 && x1 then lKnown else rTotal (IntKind.i64.wrap (1 + mPlace chip 2)) op true == rTotal (IntKind.i64.wrap (1 + mPlace chip 2)) op false && lKnown)))
  (.leaf none)

noncomputable def lTaken (chip : Int) (op : Int) : Bool := getO lTakenRs.dflt (lTakenT chip op).val

noncomputable def lTakenC (chip : Int) (op : Int) : Bool := okB (lTakenT chip op).val

noncomputable def lTakenE : Entry := pureE lTakenTs lTakenRs (fun a => some (lTakenC a.1 a.2)) (fun a => lTaken a.1 a.2)

theorem lTaken_ok : EntryOk Try.prog 7 lTakenE :=
  pure_part (P := Try.prog) (n := 1023) (k := 8) (l := [(15, lKnownE), (16, cTotal1E), (19, mPlaceE), (23, rDecode1E)]) (ol := []) ⟨lKnown_ok, cTotal1_ok, mPlace_ok, rDecode1_ok, trivial⟩ Try.func7 rfl (by kernel_rfl) Try.call7 trivial (ts := lTakenTs) (rs := lTakenRs) (t := fun a => lTakenT a.1 a.2) (fun a => by kernel_rfl)

abbrev lSumsTs : List Sh := [Sh.one (R.int IntKind.i64), Sh.one (R.int IntKind.u8), Sh.one R.bool]

abbrev lSumsRs : Rs := Rs.one (Sh.one R.bool)

noncomputable def lSumsT (chip : Int) (op : Int) (tk : Bool) : RT (Option (Bool)) :=
  let x1 : Bool := decide (0 < iN (List.length (rKinds (IntKind.i64.wrap (1 + mPlace chip 2)) op tk)))
  let x2 : Bool := !x1
  let x3 : Bool := !inRng 0 (List.length (rKinds (IntKind.i64.wrap (1 + mPlace chip 2)) op tk))
  let x4 : Bool := decide (IntKind.i64.wrap (0 + 1) < iN (List.length (rKinds (IntKind.i64.wrap (1 + mPlace chip 2)) op tk)))
  let x5 : Bool := !x4
  let x6 : Bool := inRng (IntKind.i64.wrap (0 + 1)) (List.length (rKinds (IntKind.i64.wrap (1 + mPlace chip 2)) op tk))
  let x7 : Bool := !x6
  let x8 : Bool := decide (IntKind.i64.wrap (IntKind.i64.wrap (0 + 1) + 1) < iN (List.length (rKinds (IntKind.i64.wrap (1 + mPlace chip 2)) op tk)))
  let x9 : Bool := !x8
  let x10 : Bool := inRng (IntKind.i64.wrap (IntKind.i64.wrap (0 + 1) + 1)) (List.length (rKinds (IntKind.i64.wrap (1 + mPlace chip 2)) op tk))
  let x11 : Bool := !x10
  let x12 : Bool := decide (IntKind.i64.wrap (IntKind.i64.wrap (IntKind.i64.wrap (0 + 1) + 1) + 1) < iN (List.length (rKinds (IntKind.i64.wrap (1 + mPlace chip 2)) op tk)))
  let x13 : Bool := !x12
  let x14 : Bool := inRng (IntKind.i64.wrap (IntKind.i64.wrap (IntKind.i64.wrap (0 + 1) + 1) + 1)) (List.length (rKinds (IntKind.i64.wrap (1 + mPlace chip 2)) op tk))
  let x15 : Bool := !x14
  let x16 : Int := IntKind.i64.wrap (IntKind.i64.wrap (IntKind.i64.wrap (IntKind.i64.wrap (0 + 1) + 1) + 1) + 1)
  let x17 : Bool := decide (x16 < iN (List.length (rKinds (IntKind.i64.wrap (1 + mPlace chip 2)) op tk)))
  let x18 : Bool := !x17
  let x19 : Bool := inRng x16 (List.length (rKinds (IntKind.i64.wrap (1 + mPlace chip 2)) op tk))
  let x20 : Bool := !x19
  let x21 : Int := IntKind.i64.wrap (x16 + 1)
  let x22 : Bool := decide (x21 < iN (List.length (rKinds (IntKind.i64.wrap (1 + mPlace chip 2)) op tk)))
  let x23 : Bool := !x22
  let x24 : Bool := inRng x21 (List.length (rKinds (IntKind.i64.wrap (1 + mPlace chip 2)) op tk))
  let x25 : Bool := !x24
  let x26 : Int := IntKind.i64.wrap (x21 + 1)
  let x27 : Bool := decide (x26 < iN (List.length (rKinds (IntKind.i64.wrap (1 + mPlace chip 2)) op tk)))
  let x28 : Bool := !x27
  let x29 : Bool := inRng x26 (List.length (rKinds (IntKind.i64.wrap (1 + mPlace chip 2)) op tk))
  let x30 : Bool := !x29
  let x31 : Int := IntKind.i64.wrap (x26 + 1)
  let x32 : Bool := !decide (x31 < iN (List.length (rKinds (IntKind.i64.wrap (1 + mPlace chip 2)) op tk)))
  let x33 : Int := IntKind.i64.wrap (0 + (R.get (RY) (rKinds (IntKind.i64.wrap (1 + mPlace chip 2)) op tk) 0).2.2.2)
  let x34 : Int := IntKind.i64.wrap (x33 + (R.get (RY) (rKinds (IntKind.i64.wrap (1 + mPlace chip 2)) op tk) (IntKind.i64.wrap (0 + 1))).2.2.2)
  let x35 : Int := IntKind.i64.wrap (x34 + (R.get (RY) (rKinds (IntKind.i64.wrap (1 + mPlace chip 2)) op tk) (IntKind.i64.wrap (IntKind.i64.wrap (0 + 1) + 1))).2.2.2)
  let x36 : Int := IntKind.i64.wrap (x35 + (R.get (RY) (rKinds (IntKind.i64.wrap (1 + mPlace chip 2)) op tk) (IntKind.i64.wrap (IntKind.i64.wrap (IntKind.i64.wrap (0 + 1) + 1) + 1))).2.2.2)
  let x37 : Int := IntKind.i64.wrap (x36 + (R.get (RY) (rKinds (IntKind.i64.wrap (1 + mPlace chip 2)) op tk) x16).2.2.2)
  let x38 : Int := IntKind.i64.wrap (x37 + (R.get (RY) (rKinds (IntKind.i64.wrap (1 + mPlace chip 2)) op tk) x21).2.2.2)
  let x39 : Int := IntKind.i64.wrap (x38 + (R.get (RY) (rKinds (IntKind.i64.wrap (1 + mPlace chip 2)) op tk) x26).2.2.2)
  .br (mPlaceC chip 2)
  (.br (x2 || (x3 || (x5 || (x7 || (x9 || (x11 || (x13 || (x15 || (x18 || (x20 || (x23 || (x25 || (x28 || (x30 || (x32 || !inRng x31 (List.length (rKinds (IntKind.i64.wrap (1 + mPlace chip 2)) op tk)))))))))))))))))
   (.br (x2 || (x3 || (x5 || (x7 || (x9 || (x11 || (x13 || (x15 || (x18 || (x20 || (x23 || (x25 || (x28 || (x30 || x32))))))))))))))
    (.br (x2 || (x3 || (x5 || (x7 || (x9 || (x11 || (x13 || (x15 || (x18 || (x20 || (x23 || (x25 || (x28 || x29)))))))))))))
     (.br (x2 || (x3 || (x5 || (x7 || (x9 || (x11 || (x13 || (x15 || (x18 || (x20 || (x23 || x24)))))))))))
      (.br (x2 || (x3 || (x5 || (x7 || (x9 || (x11 || (x13 || (x15 || (x18 || x19)))))))))
       (.br (x2 || (x3 || (x5 || (x7 || (x9 || (x11 || (x13 || x14)))))))
        (.br (x2 || (x3 || (x5 || (x7 || (x9 || x10)))))
         (.br (x2 || (x3 || (x5 || x6)))
          (.br (x2 || inRng 0 (List.length (rKinds (IntKind.i64.wrap (1 + mPlace chip 2)) op tk)))
           (.br (x1)
            (.br (x4)
             (.br (x8)
              (.br (x12)
               (.br (x17)
                (.br (x22)
                 (.br (x27)
                  (.leaf (some (x39 == rTotal (IntKind.i64.wrap (1 + mPlace chip 2)) op tk && (decide (x39 ≥ 4) && (decide (x39 ≤ 18) && lKnown)))))
                  (.leaf (some (x38 == rTotal (IntKind.i64.wrap (1 + mPlace chip 2)) op tk && (decide (x38 ≥ 4) && (decide (x38 ≤ 18) && lKnown))))))
                 (.leaf (some (x37 == rTotal (IntKind.i64.wrap (1 + mPlace chip 2)) op tk && (decide (x37 ≥ 4) && (decide (x37 ≤ 18) && lKnown))))))
                (.leaf (some (x36 == rTotal (IntKind.i64.wrap (1 + mPlace chip 2)) op tk && (decide (x36 ≥ 4) && (decide (x36 ≤ 18) && lKnown))))))
               (.leaf (some (x35 == rTotal (IntKind.i64.wrap (1 + mPlace chip 2)) op tk && (decide (x35 ≥ 4) && (decide (x35 ≤ 18) && lKnown))))))
              (.leaf (some (x34 == rTotal (IntKind.i64.wrap (1 + mPlace chip 2)) op tk && (decide (x34 ≥ 4) && (decide (x34 ≤ 18) && lKnown))))))
             (.leaf (some (x33 == rTotal (IntKind.i64.wrap (1 + mPlace chip 2)) op tk && (decide (x33 ≥ 4) && (decide (x33 ≤ 18) && lKnown))))))
            (.leaf (some (false))))
           (.leaf none))
          (.leaf none))
         (.leaf none))
        (.leaf none))
       (.leaf none))
      (.leaf none))
     (.leaf none))
    (.leaf none))
   (.leaf none))
  (.leaf none)

noncomputable def lSums (chip : Int) (op : Int) (tk : Bool) : Bool := getO lSumsRs.dflt (lSumsT chip op tk).val

noncomputable def lSumsC (chip : Int) (op : Int) (tk : Bool) : Bool := okB (lSumsT chip op tk).val

noncomputable def lSumsE : Entry := pureE lSumsTs lSumsRs (fun a => some (lSumsC a.1 a.2.1 a.2.2)) (fun a => lSums a.1 a.2.1 a.2.2)

theorem lSums_ok : EntryOk Try.prog 5 lSumsE :=
  pure_part (P := Try.prog) (n := 2047) (k := 8) (l := [(13, cKinds1E), (15, lKnownE), (16, cTotal1E), (19, mPlaceE)]) (ol := []) ⟨cKinds1_ok, lKnown_ok, cTotal1_ok, mPlace_ok, trivial⟩ Try.func5 rfl (by kernel_rfl) Try.call5 trivial (ts := lSumsTs) (rs := lSumsRs) (t := fun a => lSumsT a.1 a.2.1 a.2.2) (fun a => by kernel_rfl)
end
end Go.Proofs.Ytiflfdlglncjlaa
