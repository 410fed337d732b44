/-
  Contracts of functions; each found by the symbolic executor and checked by the kernel. Conditions: none.
-/
import Derived.Test.YtfejikddclgkcaaS3D
import Derived.Test.YtfejikddclgkcaaProg
import Derived.Test.YtfejikddclgkcaaS3Box1
set_option linter.unusedSimpArgs false
open Go Go.S3 Go.Proofs
set_option linter.unusedVariables false
set_option maxRecDepth 100000
namespace Go.Proofs.Ytfejikddclgkcaa
noncomputable section
abbrev mPlaceTs : List Sh := [Sh.one (R.int IntKind.i64), Sh.one (R.int IntKind.i64)]

abbrev mPlaceRs : Rs := Rs.one (Sh.one (R.int IntKind.i64))

noncomputable def mPlaceT (x : Int) (n : Int) : RT (Option (Int)) :=
  .br (IntKind.u64.wrap n != 0)
  (.leaf (some (IntKind.i64.wrap (Int.tmod (IntKind.u64.wrap x) (IntKind.u64.wrap n)))))
  (.leaf none)

noncomputable def mPlace (x : Int) (n : Int) : Int := getO mPlaceRs.dflt (mPlaceT x n).val

noncomputable def mPlaceC (x : Int) (n : Int) : Bool := okB (mPlaceT x n).val

noncomputable def mPlaceE : Entry := pureE mPlaceTs mPlaceRs (fun a => some (mPlaceC a.1 a.2)) (fun a => mPlace a.1 a.2)

theorem mPlace_ok : EntryOk Try.prog 40 mPlaceE :=
  pure_part (P := Try.prog) (n := 31) (k := 8) (l := []) (ol := []) trivial Try.func40 rfl (by kernel_rfl) Try.call40 trivial (ts := mPlaceTs) (rs := mPlaceRs) (t := fun a => mPlaceT a.1 a.2) (fun a => by kernel_rfl)

abbrev nNextRb : R := R.pair (R.sl (R.int IntKind.i64)) (R.int IntKind.i64)

abbrev nNextTs : List Sh := [Sh.one (R.int IntKind.i64)]

abbrev nNextRs : Rs := Rs.one (Sh.one (R.int IntKind.i64))

noncomputable def nNextT (s : List Int × Int) (n : Int) : RT (Option (Int × List Int × Int)) :=
  let x1 : Bool := inRng (IntKind.i64.wrap (IntKind.i64.wrap (s.2 + 1) - 1)) (List.length s.1)
  let x2 : Int := R.get (R.int IntKind.i64) s.1 (IntKind.i64.wrap (IntKind.i64.wrap (s.2 + 1) - 1))
  .br (decide (s.2 ≥ iN (List.length s.1)))
  (.leaf (some ((0, s.1, IntKind.i64.wrap (s.2 + 1)))))
  (.br (!x1 || mPlaceC x2 n)
   (.br (x1)
    (.leaf (some ((mPlace x2 n, s.1, IntKind.i64.wrap (s.2 + 1)))))
    (.leaf none))
   (.leaf none))

noncomputable def nNext (s : List Int × Int) (n : Int) : Int × List Int × Int := getO (nNextRs.dflt, nNextRb.dflt) (nNextT s n).val

noncomputable def nNextC (s : List Int × Int) (n : Int) : Bool := okB (nNextT s n).val

noncomputable def nNextE : Entry := boxE nNextRb nNextTs nNextRs (fun a => some (nNextC a.1 a.2)) (fun a => nNext a.1 a.2)

theorem nNext_ok : EntryOk Try.prog 39 nNextE :=
  box_part (P := Try.prog) (n := 31) (k := 8) (l := [(40, mPlaceE)]) (ol := []) ⟨mPlace_ok, trivial⟩ Try.func39 rfl (by kernel_rfl) Try.call39 trivial (rb := nNextRb) (ts := nNextTs) (rs := nNextRs) (t := fun a => nNextT a.1 a.2) (fun a => by kernel_rfl)

abbrev nByteRb : R := R.pair (R.sl (R.int IntKind.i64)) (R.int IntKind.i64)

abbrev nByteTs : List Sh := []

abbrev nByteRs : Rs := Rs.one (Sh.one (R.int IntKind.u8))

noncomputable def nByteT (s : List Int × Int) : RT (Option (Int × List Int × Int)) :=
  let x1 : List Int := [0, 1, 127, 128, 255, 15, 16, 153, 154, 9, 102, 254, 129, 85, 170, 64]
  .br (nNextC s 512)
  (.br (!decide ((nNext s 512).1 ≥ 256) || inRng (Int.tmod (nNext s 512).1 16) (List.length x1))
   (.br (decide ((nNext s 512).1 ≥ 256))
    (.leaf (some ((R.get (R.int IntKind.u8) x1 (Int.tmod (nNext s 512).1 16), (nNext s 512).2))))
    (.leaf (some ((IntKind.u8.wrap (nNext s 512).1, (nNext s 512).2)))))
   (.leaf none))
  (.leaf none)

noncomputable def nByte (s : List Int × Int) : Int × List Int × Int := getO (nByteRs.dflt, nByteRb.dflt) (nByteT s).val

noncomputable def nByteC (s : List Int × Int) : Bool := okB (nByteT s).val

noncomputable def nByteE : Entry := boxE nByteRb nByteTs nByteRs (fun a => some (nByteC a.1 )) (fun a => nByte a.1 )

theorem nByte_ok : EntryOk Try.prog 43 nByteE :=
  box_part (P := Try.prog) (n := 15) (k := 8) (l := [(39, nNextE)]) (ol := []) ⟨nNext_ok, trivial⟩ Try.func43 rfl (by kernel_rfl) Try.call43 trivial (rb := nByteRb) (ts := nByteTs) (rs := nByteRs) (t := fun a => nByteT a.1 ) (fun a => by kernel_rfl)

abbrev nWordRb : R := R.pair (R.sl (R.int IntKind.i64)) (R.int IntKind.i64)

abbrev nWordTs : List Sh := []

abbrev nWordRs : Rs := Rs.one (Sh.one (R.int IntKind.u16))

noncomputable def nWordT (s : List Int × Int) : RT (Option (Int × List Int × Int)) :=
  let x1 : List Int := [0, 1, 65535, 65534, 32767, 32768, 255, 256]
  let x2 : Bool := !(nNext s 5).1 == 0 || (!nNextC (nNext s 5).2 8 || inRng (nNext (nNext s 5).2 8).1 (List.length x1))
  let x3 : Bool := !x2
  let x4 : Bool := !(nNext s 5).1 == 0 || nNextC (nNext s 5).2 8
  .br (nNextC s 5)
  (.br (x3 || (!x4 || ((nNext s 5).1 == 0 || (!(nNext s 5).1 == 1 || nNextC (nNext s 5).2 65536))))
   (.br (x3 || x4)
    (.br (x2)
     (.br ((nNext s 5).1 == 0)
      (.leaf (some ((R.get (R.int IntKind.u16) x1 (nNext (nNext s 5).2 8).1, (nNext (nNext s 5).2 8).2))))
      (.br ((nNext s 5).1 == 1)
       (.leaf (some ((IntKind.u16.wrap (nNext (nNext s 5).2 65536).1, (nNext (nNext s 5).2 65536).2))))
       (.br (nNextC (nNext s 5).2 64)
        (.leaf (some ((IntKind.u16.wrap (nNext (nNext s 5).2 64).1, (nNext (nNext s 5).2 64).2))))
        (.leaf none))))
     (.leaf none))
    (.leaf none))
   (.leaf none))
  (.leaf none)

noncomputable def nWord (s : List Int × Int) : Int × List Int × Int := getO (nWordRs.dflt, nWordRb.dflt) (nWordT s).val

noncomputable def nWordC (s : List Int × Int) : Bool := okB (nWordT s).val

noncomputable def nWordE : Entry := boxE nWordRb nWordTs nWordRs (fun a => some (nWordC a.1 )) (fun a => nWord a.1 )

theorem nWord_ok : EntryOk Try.prog 29 nWordE :=
  box_part (P := Try.prog) (n := 4135) (k := 8) (l := [(39, nNextE)]) (ol := []) ⟨nNext_ok, trivial⟩ Try.func29 rfl (by kernel_rfl) Try.call29 trivial (rb := nWordRb) (ts := nWordTs) (rs := nWordRs) (t := fun a => nWordT a.1 ) (fun a => by kernel_rfl)

abbrev nFlagRb : R := R.pair (R.sl (R.int IntKind.i64)) (R.int IntKind.i64)

abbrev nFlagTs : List Sh := []

abbrev nFlagRs : Rs := Rs.one (Sh.one R.bool)

noncomputable def nFlagT (s : List Int × Int) : RT (Option (Bool × List Int × Int)) :=
  .br (nNextC s 2)
  (.leaf (some (((nNext s 2).1 == 1, (nNext s 2).2))))
  (.leaf none)

noncomputable def nFlag (s : List Int × Int) : Bool × List Int × Int := getO (nFlagRs.dflt, nFlagRb.dflt) (nFlagT s).val

noncomputable def nFlagC (s : List Int × Int) : Bool := okB (nFlagT s).val

noncomputable def nFlagE : Entry := boxE nFlagRb nFlagTs nFlagRs (fun a => some (nFlagC a.1 )) (fun a => nFlag a.1 )

theorem nFlag_ok : EntryOk Try.prog 38 nFlagE :=
  box_part (P := Try.prog) (n := 7) (k := 8) (l := [(39, nNextE)]) (ol := []) ⟨nNext_ok, trivial⟩ Try.func38 rfl (by kernel_rfl) Try.call38 trivial (rb := nFlagRb) (ts := nFlagTs) (rs := nFlagRs) (t := fun a => nFlagT a.1 ) (fun a => by kernel_rfl)
end
end Go.Proofs.Ytfejikddclgkcaa
