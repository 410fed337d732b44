/-
  Contracts of functions; each found by the symbolic executor and checked by the kernel. Conditions: none.
-/
import Derived.Test.YteboknglfjadoaaGreatS3D
import Derived.Test.YteboknglfjadoaaGreatProg
import Derived.Test.YteboknglfjadoaaGreatLeafEq
set_option linter.unusedSimpArgs false
open Go Go.S3 Go.Proofs
set_option linter.unusedVariables false
set_option maxRecDepth 100000
namespace Go.Proofs.YteboknglfjadoaaGreat
noncomputable section
abbrev mPlaceTs : List Sh := [Sh.one (R.int IntKind.i64), Sh.one (R.int IntKind.i64)]

abbrev mPlaceRs : Rs := Rs.one (Sh.one (R.int IntKind.i64))

noncomputable def mPlaceT (x : Int) (n : Int) : RT (Option (Int)) :=
  .br (IntKind.u64.wrap n != 0)
  (.leaf (some (IntKind.i64.wrap (Int.tmod (IntKind.u64.wrap x) (IntKind.u64.wrap n)))))
  (.leaf none)

noncomputable def mPlace (x : Int) (n : Int) : Int := getO mPlaceRs.dflt (mPlaceT x n).val

noncomputable def mPlaceC (x : Int) (n : Int) : Bool := okB (mPlaceT x n).val

noncomputable def mPlaceE : Entry := pureE mPlaceTs mPlaceRs (fun a => some (mPlaceC a.1 a.2)) (fun a => mPlace a.1 a.2)

theorem mPlace_ok : EntryOk Tryz.prog 35 mPlaceE :=
  pure_part (P := Tryz.prog) (n := 31) (k := 8) (l := []) (ol := []) trivial Tryz.func35 rfl (by kernel_rfl) Tryz.call35 trivial (ts := mPlaceTs) (rs := mPlaceRs) (t := fun a => mPlaceT a.1 a.2) (fun a => by kernel_rfl)

abbrev nNextRb : R := R.pair (R.sl (R.int IntKind.i64)) (R.int IntKind.i64)

abbrev nNextTs : List Sh := [Sh.one (R.int IntKind.i64)]

abbrev nNextRs : Rs := Rs.one (Sh.one (R.int IntKind.i64))

noncomputable def nNextT (s : List Int × Int) (n : Int) : RT (Option (Int × List Int × Int)) :=
  let x1 : Bool := inRng (IntKind.i64.wrap (IntKind.i64.wrap (s.2 + 1) - 1)) (List.length s.1)
  let x2 : Int := R.get (R.int IntKind.i64) s.1 (IntKind.i64.wrap (IntKind.i64.wrap (s.2 + 1) - 1))
  .br (decide (s.2 ≥ iN (List.length s.1)))
  (.leaf (some ((0, s.1, IntKind.i64.wrap (s.2 + 1)))))
  (.br (!x1 || mPlaceC x2 n)
   (.br (x1)
    (.leaf (some ((mPlace x2 n, s.1, IntKind.i64.wrap (s.2 + 1)))))
    (.leaf none))
   (.leaf none))

noncomputable def nNext (s : List Int × Int) (n : Int) : Int × List Int × Int := getO (nNextRs.dflt, nNextRb.dflt) (nNextT s n).val

noncomputable def nNextC (s : List Int × Int) (n : Int) : Bool := okB (nNextT s n).val

noncomputable def nNextE : Entry := boxE nNextRb nNextTs nNextRs (fun a => some (nNextC a.1 a.2)) (fun a => nNext a.1 a.2)

theorem nNext_ok : EntryOk Tryz.prog 30 nNextE :=
  box_part (P := Tryz.prog) (n := 31) (k := 8) (l := [(35, mPlaceE)]) (ol := []) ⟨mPlace_ok, trivial⟩ Tryz.func30 rfl (by kernel_rfl) Tryz.call30 trivial (rb := nNextRb) (ts := nNextTs) (rs := nNextRs) (t := fun a => nNextT a.1 a.2) (fun a => by kernel_rfl)

abbrev nByteRb : R := R.pair (R.sl (R.int IntKind.i64)) (R.int IntKind.i64)

abbrev nByteTs : List Sh := []

abbrev nByteRs : Rs := Rs.one (Sh.one (R.int IntKind.u8))

noncomputable def nByteT (s : List Int × Int) : RT (Option (Int × List Int × Int)) :=
  let x1 : List Int := [0, 1, 127, 128, 255, 15, 16, 153, 154, 9, 102, 254, 129, 85, 170, 64]
  .br (nNextC s 512)
  (.br (!decide ((nNext s 512).1 ≥ 256) || inRng (Int.tmod (nNext s 512).1 16) (List.length x1))
   (.br (decide ((nNext s 512).1 ≥ 256))
    (.leaf (some ((R.get (R.int IntKind.u8) x1 (Int.tmod (nNext s 512).1 16), (nNext s 512).2))))
    (.leaf (some ((IntKind.u8.wrap (nNext s 512).1, (nNext s 512).2)))))
   (.leaf none))
  (.leaf none)

noncomputable def nByte (s : List Int × Int) : Int × List Int × Int := getO (nByteRs.dflt, nByteRb.dflt) (nByteT s).val

noncomputable def nByteC (s : List Int × Int) : Bool := okB (nByteT s).val

noncomputable def nByteE : Entry := boxE nByteRb nByteTs nByteRs (fun a => some (nByteC a.1 )) (fun a => nByte a.1 )

theorem nByte_ok : EntryOk Tryz.prog 21 nByteE :=
  box_part (P := Tryz.prog) (n := 15) (k := 8) (l := [(30, nNextE)]) (ol := []) ⟨nNext_ok, trivial⟩ Tryz.func21 rfl (by kernel_rfl) Tryz.call21 trivial (rb := nByteRb) (ts := nByteTs) (rs := nByteRs) (t := fun a => nByteT a.1 ) (fun a => by kernel_rfl)

abbrev nWordRb : R := R.pair (R.sl (R.int IntKind.i64)) (R.int IntKind.i64)

abbrev nWordTs : List Sh := []

abbrev nWordRs : Rs := Rs.one (Sh.one (R.int IntKind.u16))

noncomputable def nWordT (s : List Int × Int) : RT (Option (Int × List Int × Int)) :=
  let x1 : List Int := [0, 1, 65535, 65534, 32767, 32768, 255, 256]
  let x2 : Bool := !(nNext s 5).1 == 0 || (!nNextC (nNext s 5).2 8 || inRng (nNext (nNext s 5).2 8).1 (List.length x1))
  let x3 : Bool := !x2
  let x4 : Bool := !(nNext s 5).1 == 0 || nNextC (nNext s 5).2 8
  .br (nNextC s 5)
  (.br (x3 || (!x4 || ((nNext s 5).1 == 0 || (!(nNext s 5).1 == 1 || nNextC (nNext s 5).2 65536))))
   (.br (x3 || x4)
    (.br (x2)
     (.br ((nNext s 5).1 == 0)
      (.leaf (some ((R.get (R.int IntKind.u16) x1 (nNext (nNext s 5).2 8).1, (nNext (nNext s 5).2 8).2))))
      (.br ((nNext s 5).1 == 1)
       (.leaf (some ((IntKind.u16.wrap (nNext (nNext s 5).2 65536).1, (nNext (nNext s 5).2 65536).2))))
       (.br (nNextC (nNext s 5).2 64)
        (.leaf (some ((IntKind.u16.wrap (nNext (nNext s 5).2 64).1, (nNext (nNext s 5).2 64).2))))
        (.leaf none))))
     (.leaf none))
    (.leaf none))
   (.leaf none))
  (.leaf none)

noncomputable def nWord (s : List Int × Int) : Int × List Int × Int := getO (nWordRs.dflt, nWordRb.dflt) (nWordT s).val

noncomputable def nWordC (s : List Int × Int) : Bool := okB (nWordT s).val

noncomputable def nWordE : Entry := boxE nWordRb nWordTs nWordRs (fun a => some (nWordC a.1 )) (fun a => nWord a.1 )

theorem nWord_ok : EntryOk Tryz.prog 58 nWordE :=
  box_part (P := Tryz.prog) (n := 4135) (k := 8) (l := [(30, nNextE)]) (ol := []) ⟨nNext_ok, trivial⟩ Tryz.func58 rfl (by kernel_rfl) Tryz.call58 trivial (rb := nWordRb) (ts := nWordTs) (rs := nWordRs) (t := fun a => nWordT a.1 ) (fun a => by kernel_rfl)

abbrev nChipRb : R := R.pair (R.sl (R.int IntKind.i64)) (R.int IntKind.i64)

abbrev nChipTs : List Sh := []

abbrev nChipRs : Rs := Rs.one (Sh.one (R.int IntKind.i64))

noncomputable def nChipT (s : List Int × Int) : RT (Option (Int × List Int × Int)) :=
  .br (nNextC s 2)
  (.leaf (some ((IntKind.i64.wrap (1 + (nNext s 2).1), (nNext s 2).2))))
  (.leaf none)

noncomputable def nChip (s : List Int × Int) : Int × List Int × Int := getO (nChipRs.dflt, nChipRb.dflt) (nChipT s).val

noncomputable def nChipC (s : List Int × Int) : Bool := okB (nChipT s).val

noncomputable def nChipE : Entry := boxE nChipRb nChipTs nChipRs (fun a => some (nChipC a.1 )) (fun a => nChip a.1 )

theorem nChip_ok : EntryOk Tryz.prog 18 nChipE :=
  box_part (P := Tryz.prog) (n := 7) (k := 8) (l := [(30, nNextE)]) (ol := []) ⟨nNext_ok, trivial⟩ Tryz.func18 rfl (by kernel_rfl) Tryz.call18 trivial (rb := nChipRb) (ts := nChipTs) (rs := nChipRs) (t := fun a => nChipT a.1 ) (fun a => by kernel_rfl)

abbrev nFlagsRb : R := R.pair (R.sl (R.int IntKind.i64)) (R.int IntKind.i64)

abbrev nFlagsTs : List Sh := [Sh.one (R.int IntKind.i64)]

abbrev nFlagsRs : Rs := Rs.one (Sh.agg (R.pair R.bool (R.pair R.bool (R.pair R.bool (R.pair R.bool (R.pair R.bool (R.pair R.bool R.bool)))))))

noncomputable def nFlagsT (s : List Int × Int) (chip : Int) : RT (Option (TF × List Int × Int)) :=
  .br (nNextC s 128)
  (.leaf (some (((andI IntKind.i64 (nNext s 128).1 1 != 0, andI IntKind.i64 (nNext s 128).1 2 != 0, chip == 2 && andI IntKind.i64 (nNext s 128).1 32 != 0, andI IntKind.i64 (nNext s 128).1 4 != 0, andI IntKind.i64 (nNext s 128).1 8 != 0, chip == 2 && andI IntKind.i64 (nNext s 128).1 64 != 0, andI IntKind.i64 (nNext s 128).1 16 != 0), (nNext s 128).2))))
  (.leaf none)

noncomputable def nFlags (s : List Int × Int) (chip : Int) : TF × List Int × Int := getO (nFlagsRs.dflt, nFlagsRb.dflt) (nFlagsT s chip).val

noncomputable def nFlagsC (s : List Int × Int) (chip : Int) : Bool := okB (nFlagsT s chip).val

noncomputable def nFlagsE : Entry := boxE nFlagsRb nFlagsTs nFlagsRs (fun a => some (nFlagsC a.1 a.2)) (fun a => nFlags a.1 a.2)

theorem nFlags_ok : EntryOk Tryz.prog 57 nFlagsE :=
  box_part (P := Tryz.prog) (n := 127) (k := 8) (l := [(30, nNextE)]) (ol := []) ⟨nNext_ok, trivial⟩ Tryz.func57 rfl (by kernel_rfl) Tryz.call57 trivial (rb := nFlagsRb) (ts := nFlagsTs) (rs := nFlagsRs) (t := fun a => nFlagsT a.1 a.2) (fun a => by kernel_rfl)

abbrev nRegsRb : R := R.pair (R.sl (R.int IntKind.i64)) (R.int IntKind.i64)

abbrev nRegsTs : List Sh := [Sh.one (R.int IntKind.i64)]

abbrev nRegsRs : Rs := Rs.one (Sh.agg (R.pair (R.int IntKind.u8) (R.pair (R.int IntKind.u8) (R.pair (R.int IntKind.u8) (R.pair (R.int IntKind.u8) (R.pair (R.int IntKind.u8) (R.pair (R.int IntKind.u8) (R.pair (R.int IntKind.u8) (R.pair (R.pair R.bool (R.pair R.bool (R.pair R.bool (R.pair R.bool (R.pair R.bool (R.pair R.bool R.bool)))))) (R.pair (R.int IntKind.u16) (R.int IntKind.u16)))))))))))

noncomputable def nRegsT (s : List Int × Int) (chip : Int) : RT (Option (TR × List Int × Int)) :=
  let x1 : Int × List Int × Int := nByte (nByte (nByte (nByte (nByte (nByte (nByte s).2).2).2).2).2).2
  let x2 : List Int × Int := x1.2
  let x3 : Bool := nFlagsC x2 chip
  let x4 : Bool := !x3
  let x5 : TF × List Int × Int := nFlags x2 chip
  let x6 : List Int × Int := x5.2
  let x7 : Bool := nWordC x6
  let x8 : Int × List Int × Int := nWord x6
  let x9 : List Int × Int := x8.2
  let x10 : Int × List Int × Int := nWord x9
  .br (!nByteC s || (!nByteC (nByte s).2 || (!nByteC (nByte (nByte s).2).2 || (!nByteC (nByte (nByte (nByte s).2).2).2 || (!nByteC (nByte (nByte (nByte (nByte s).2).2).2).2 || (!nByteC (nByte (nByte (nByte (nByte (nByte s).2).2).2).2).2 || nByteC (nByte (nByte (nByte (nByte (nByte (nByte s).2).2).2).2).2).2))))))
  (.br (!nByteC s || (!nByteC (nByte s).2 || (!nByteC (nByte (nByte s).2).2 || (!nByteC (nByte (nByte (nByte s).2).2).2 || (!nByteC (nByte (nByte (nByte (nByte s).2).2).2).2 || nByteC (nByte (nByte (nByte (nByte (nByte s).2).2).2).2).2)))))
   (.br (!nByteC s || (!nByteC (nByte s).2 || (!nByteC (nByte (nByte s).2).2 || (!nByteC (nByte (nByte (nByte s).2).2).2 || nByteC (nByte (nByte (nByte (nByte s).2).2).2).2))))
    (.br (!nByteC s || (!nByteC (nByte s).2 || (!nByteC (nByte (nByte s).2).2 || nByteC (nByte (nByte (nByte s).2).2).2)))
     (.br (!nByteC s || (!nByteC (nByte s).2 || nByteC (nByte (nByte s).2).2))
      (.br (!nByteC s || nByteC (nByte s).2)
       (.br (nByteC s)
        (.br (x4 || (!x7 || nWordC x9))
         (.br (x4 || x7)
          (.br (x3)
           (.leaf (some ((((nByte s).1, (nByte (nByte s).2).1, (nByte (nByte (nByte s).2).2).1, (nByte (nByte (nByte (nByte s).2).2).2).1, (nByte (nByte (nByte (nByte (nByte s).2).2).2).2).1, (nByte (nByte (nByte (nByte (nByte (nByte s).2).2).2).2).2).1, x1.1, x5.1, x8.1, x10.1), x10.2))))
           (.leaf none))
          (.leaf none))
         (.leaf none))
        (.leaf none))
       (.leaf none))
      (.leaf none))
     (.leaf none))
    (.leaf none))
   (.leaf none))
  (.leaf none)

noncomputable def nRegs (s : List Int × Int) (chip : Int) : TR × List Int × Int := getO (nRegsRs.dflt, nRegsRb.dflt) (nRegsT s chip).val

noncomputable def nRegsC (s : List Int × Int) (chip : Int) : Bool := okB (nRegsT s chip).val

noncomputable def nRegsE : Entry := boxE nRegsRb nRegsTs nRegsRs (fun a => some (nRegsC a.1 a.2)) (fun a => nRegs a.1 a.2)

theorem nRegs_ok : EntryOk Tryz.prog 19 nRegsE :=
  box_part (P := Tryz.prog) (n := 63) (k := 8) (l := [(21, nByteE), (57, nFlagsE), (58, nWordE)]) (ol := []) ⟨nByte_ok, nFlags_ok, nWord_ok, trivial⟩ Tryz.func19 rfl (by kernel_rfl) Tryz.call19 trivial (rb := nRegsRb) (ts := nRegsTs) (rs := nRegsRs) (t := fun a => nRegsT a.1 a.2) (fun a => by kernel_rfl)

abbrev nLinesRb : R := R.pair (R.sl (R.int IntKind.i64)) (R.int IntKind.i64)

abbrev nLinesTs : List Sh := []

abbrev nLinesRs : Rs := Rs.one (Sh.agg (R.pair R.bool (R.pair R.bool (R.pair R.bool (R.pair R.bool (R.pair R.bool (R.pair R.bool (R.pair R.bool (R.pair R.bool R.bool)))))))))

noncomputable def nLinesT (s : List Int × Int) : RT (Option ((Bool × Bool × Bool × Bool × Bool × Bool × Bool × Bool × Bool) × List Int × Int)) :=
  .br (nNextC s 512)
  (.leaf (some (((Int.tmod (nNext s 512).1 4 != 0, Int.tmod (shrI IntKind.i64 (nNext s 512).1 2) 8 == 0, false, andI IntKind.i64 (nNext s 512).1 4 != 0, Int.tmod (shrI IntKind.i64 (nNext s 512).1 3) 8 == 1, andI IntKind.i64 (nNext s 512).1 64 != 0, andI IntKind.i64 (nNext s 512).1 128 != 0, andI IntKind.i64 (nNext s 512).1 256 != 0, Int.tmod (nNext s 512).1 3 == 0), (nNext s 512).2))))
  (.leaf none)

noncomputable def nLines (s : List Int × Int) : (Bool × Bool × Bool × Bool × Bool × Bool × Bool × Bool × Bool) × List Int × Int := getO (nLinesRs.dflt, nLinesRb.dflt) (nLinesT s).val

noncomputable def nLinesC (s : List Int × Int) : Bool := okB (nLinesT s).val

noncomputable def nLinesE : Entry := boxE nLinesRb nLinesTs nLinesRs (fun a => some (nLinesC a.1 )) (fun a => nLines a.1 )

theorem nLines_ok : EntryOk Tryz.prog 36 nLinesE :=
  box_part (P := Tryz.prog) (n := 15) (k := 8) (l := [(30, nNextE)]) (ol := []) ⟨nNext_ok, trivial⟩ Tryz.func36 rfl (by kernel_rfl) Tryz.call36 trivial (rb := nLinesRb) (ts := nLinesTs) (rs := nLinesRs) (t := fun a => nLinesT a.1 ) (fun a => by kernel_rfl)

abbrev nOpcodeRb : R := R.pair (R.sl (R.int IntKind.i64)) (R.int IntKind.i64)

abbrev nOpcodeTs : List Sh := []

abbrev nOpcodeRs : Rs := Rs.one (Sh.one (R.int IntKind.u8))

noncomputable def nOpcodeT (s : List Int × Int) : RT (Option (Int × List Int × Int)) :=
  let x1 : List Int := [251, 243, 118, 205, 201, 197, 227, 211, 219, 54, 52, 32, 48, 194, 202, 255, 62, 49]
  .br (nNextC s 3)
  (.br (!decide ((nNext s 3).1 > 0) || nNextC (nNext s 3).2 256)
   (.br (decide ((nNext s 3).1 > 0))
    (.leaf (some ((IntKind.u8.wrap (nNext (nNext s 3).2 256).1, (nNext (nNext s 3).2 256).2))))
    (.br (!nNextC (nNext s 3).2 18 || inRng (nNext (nNext s 3).2 18).1 (List.length x1))
     (.br (nNextC (nNext s 3).2 18)
      (.leaf (some ((R.get (R.int IntKind.u8) x1 (nNext (nNext s 3).2 18).1, (nNext (nNext s 3).2 18).2))))
      (.leaf none))
     (.leaf none)))
   (.leaf none))
  (.leaf none)

noncomputable def nOpcode (s : List Int × Int) : Int × List Int × Int := getO (nOpcodeRs.dflt, nOpcodeRb.dflt) (nOpcodeT s).val

noncomputable def nOpcodeC (s : List Int × Int) : Bool := okB (nOpcodeT s).val

noncomputable def nOpcodeE : Entry := boxE nOpcodeRb nOpcodeTs nOpcodeRs (fun a => some (nOpcodeC a.1 )) (fun a => nOpcode a.1 )

theorem nOpcode_ok : EntryOk Tryz.prog 29 nOpcodeE :=
  box_part (P := Tryz.prog) (n := 7) (k := 8) (l := [(30, nNextE)]) (ol := []) ⟨nNext_ok, trivial⟩ Tryz.func29 rfl (by kernel_rfl) Tryz.call29 trivial (rb := nOpcodeRb) (ts := nOpcodeTs) (rs := nOpcodeRs) (t := fun a => nOpcodeT a.1 ) (fun a => by kernel_rfl)
end
end Go.Proofs.YteboknglfjadoaaGreat
