/-
  Contracts of functions; each found by the symbolic executor and checked by the kernel. Conditions: none.
-/
import Derived.Test.YtiflfdlglncjlaaGreatS3D
import Derived.Test.YtiflfdlglncjlaaGreatProg
import Derived.Test.YtiflfdlglncjlaaGreatLeafEq
set_option linter.unusedSimpArgs false
open Go Go.S3 Go.Proofs
set_option linter.unusedVariables false
set_option maxRecDepth 100000
namespace Go.Proofs.YtiflfdlglncjlaaGreat
noncomputable section
abbrev mPlaceTs : List Sh := [Sh.one (R.int IntKind.i64), Sh.one (R.int IntKind.i64)]

abbrev mPlaceRs : Rs := Rs.one (Sh.one (R.int IntKind.i64))

noncomputable def mPlaceT (x : Int) (n : Int) : RT (Option (Int)) :=
  .br (IntKind.u64.wrap n != 0)
  (.leaf (some (IntKind.i64.wrap (Int.tmod (IntKind.u64.wrap x) (IntKind.u64.wrap n)))))
  (.leaf none)

noncomputable def mPlace (x : Int) (n : Int) : Int := getO mPlaceRs.dflt (mPlaceT x n).val

noncomputable def mPlaceC (x : Int) (n : Int) : Bool := okB (mPlaceT x n).val

noncomputable def mPlaceE : Entry := pureE mPlaceTs mPlaceRs (fun a => some (mPlaceC a.1 a.2)) (fun a => mPlace a.1 a.2)

theorem mPlace_ok : EntryOk Tryz.prog 64 mPlaceE :=
  pure_part (P := Tryz.prog) (n := 31) (k := 8) (l := []) (ol := []) trivial Tryz.func64 rfl (by kernel_rfl) Tryz.call64 trivial (ts := mPlaceTs) (rs := mPlaceRs) (t := fun a => mPlaceT a.1 a.2) (fun a => by kernel_rfl)

abbrev nNextRb : R := R.pair (R.sl (R.int IntKind.i64)) (R.int IntKind.i64)

abbrev nNextTs : List Sh := [Sh.one (R.int IntKind.i64)]

abbrev nNextRs : Rs := Rs.one (Sh.one (R.int IntKind.i64))

noncomputable def nNextT (s : List Int × Int) (n : Int) : RT (Option (Int × List Int × Int)) :=
  let x1 : Bool := inRng (IntKind.i64.wrap (IntKind.i64.wrap (s.2 + 1) - 1)) (List.length s.1)
  let x2 : Int := R.get (R.int IntKind.i64) s.1 (IntKind.i64.wrap (IntKind.i64.wrap (s.2 + 1) - 1))
  .br (decide (s.2 ≥ iN (List.length s.1)))
  (.leaf (some ((0, s.1, IntKind.i64.wrap (s.2 + 1)))))
  (.br (!x1 || mPlaceC x2 n)
   (.br (x1)
    (.leaf (some ((mPlace x2 n, s.1, IntKind.i64.wrap (s.2 + 1)))))
    (.leaf none))
   (.leaf none))

noncomputable def nNext (s : List Int × Int) (n : Int) : Int × List Int × Int := getO (nNextRs.dflt, nNextRb.dflt) (nNextT s n).val

noncomputable def nNextC (s : List Int × Int) (n : Int) : Bool := okB (nNextT s n).val

noncomputable def nNextE : Entry := boxE nNextRb nNextTs nNextRs (fun a => some (nNextC a.1 a.2)) (fun a => nNext a.1 a.2)

theorem nNext_ok : EntryOk Tryz.prog 22 nNextE :=
  box_part (P := Tryz.prog) (n := 31) (k := 8) (l := [(64, mPlaceE)]) (ol := []) ⟨mPlace_ok, trivial⟩ Tryz.func22 rfl (by kernel_rfl) Tryz.call22 trivial (rb := nNextRb) (ts := nNextTs) (rs := nNextRs) (t := fun a => nNextT a.1 a.2) (fun a => by kernel_rfl)

abbrev nFlagRb : R := R.pair (R.sl (R.int IntKind.i64)) (R.int IntKind.i64)

abbrev nFlagTs : List Sh := []

abbrev nFlagRs : Rs := Rs.one (Sh.one R.bool)

noncomputable def nFlagT (s : List Int × Int) : RT (Option (Bool × List Int × Int)) :=
  .br (nNextC s 2)
  (.leaf (some (((nNext s 2).1 == 1, (nNext s 2).2))))
  (.leaf none)

noncomputable def nFlag (s : List Int × Int) : Bool × List Int × Int := getO (nFlagRs.dflt, nFlagRb.dflt) (nFlagT s).val

noncomputable def nFlagC (s : List Int × Int) : Bool := okB (nFlagT s).val

noncomputable def nFlagE : Entry := boxE nFlagRb nFlagTs nFlagRs (fun a => some (nFlagC a.1 )) (fun a => nFlag a.1 )

theorem nFlag_ok : EntryOk Tryz.prog 63 nFlagE :=
  box_part (P := Tryz.prog) (n := 7) (k := 8) (l := [(22, nNextE)]) (ol := []) ⟨nNext_ok, trivial⟩ Tryz.func63 rfl (by kernel_rfl) Tryz.call63 trivial (rb := nFlagRb) (ts := nFlagTs) (rs := nFlagRs) (t := fun a => nFlagT a.1 ) (fun a => by kernel_rfl)

abbrev nByteRb : R := R.pair (R.sl (R.int IntKind.i64)) (R.int IntKind.i64)

abbrev nByteTs : List Sh := []

abbrev nByteRs : Rs := Rs.one (Sh.one (R.int IntKind.u8))

noncomputable def nByteT (s : List Int × Int) : RT (Option (Int × List Int × Int)) :=
  let x1 : List Int := [0, 1, 127, 128, 255, 15, 16, 153, 154, 9, 102, 254, 129, 85, 170, 64]
  .br (nNextC s 512)
  (.br (!decide ((nNext s 512).1 ≥ 256) || inRng (Int.tmod (nNext s 512).1 16) (List.length x1))
   (.br (decide ((nNext s 512).1 ≥ 256))
    (.leaf (some ((R.get (R.int IntKind.u8) x1 (Int.tmod (nNext s 512).1 16), (nNext s 512).2))))
    (.leaf (some ((IntKind.u8.wrap (nNext s 512).1, (nNext s 512).2)))))
   (.leaf none))
  (.leaf none)

noncomputable def nByte (s : List Int × Int) : Int × List Int × Int := getO (nByteRs.dflt, nByteRb.dflt) (nByteT s).val

noncomputable def nByteC (s : List Int × Int) : Bool := okB (nByteT s).val

noncomputable def nByteE : Entry := boxE nByteRb nByteTs nByteRs (fun a => some (nByteC a.1 )) (fun a => nByte a.1 )

theorem nByte_ok : EntryOk Tryz.prog 23 nByteE :=
  box_part (P := Tryz.prog) (n := 15) (k := 8) (l := [(22, nNextE)]) (ol := []) ⟨nNext_ok, trivial⟩ Tryz.func23 rfl (by kernel_rfl) Tryz.call23 trivial (rb := nByteRb) (ts := nByteTs) (rs := nByteRs) (t := fun a => nByteT a.1 ) (fun a => by kernel_rfl)

abbrev nWordRb : R := R.pair (R.sl (R.int IntKind.i64)) (R.int IntKind.i64)

abbrev nWordTs : List Sh := []

abbrev nWordRs : Rs := Rs.one (Sh.one (R.int IntKind.u16))

noncomputable def nWordT (s : List Int × Int) : RT (Option (Int × List Int × Int)) :=
  let x1 : List Int := [0, 1, 65535, 65534, 32767, 32768, 255, 256]
  let x2 : Bool := !(nNext s 5).1 == 0 || (!nNextC (nNext s 5).2 8 || inRng (nNext (nNext s 5).2 8).1 (List.length x1))
  let x3 : Bool := !x2
  let x4 : Bool := !(nNext s 5).1 == 0 || nNextC (nNext s 5).2 8
  .br (nNextC s 5)
  (.br (x3 || (!x4 || ((nNext s 5).1 == 0 || (!(nNext s 5).1 == 1 || nNextC (nNext s 5).2 65536))))
   (.br (x3 || x4)
    (.br (x2)
     (.br ((nNext s 5).1 == 0)
      (.leaf (some ((R.get (R.int IntKind.u16) x1 (nNext (nNext s 5).2 8).1, (nNext (nNext s 5).2 8).2))))
      (.br ((nNext s 5).1 == 1)
       (.leaf (some ((IntKind.u16.wrap (nNext (nNext s 5).2 65536).1, (nNext (nNext s 5).2 65536).2))))
       (.br (nNextC (nNext s 5).2 64)
        (.leaf (some ((IntKind.u16.wrap (nNext (nNext s 5).2 64).1, (nNext (nNext s 5).2 64).2))))
        (.leaf none))))
     (.leaf none))
    (.leaf none))
   (.leaf none))
  (.leaf none)

noncomputable def nWord (s : List Int × Int) : Int × List Int × Int := getO (nWordRs.dflt, nWordRb.dflt) (nWordT s).val

noncomputable def nWordC (s : List Int × Int) : Bool := okB (nWordT s).val

noncomputable def nWordE : Entry := boxE nWordRb nWordTs nWordRs (fun a => some (nWordC a.1 )) (fun a => nWord a.1 )

theorem nWord_ok : EntryOk Tryz.prog 104 nWordE :=
  box_part (P := Tryz.prog) (n := 4135) (k := 8) (l := [(22, nNextE)]) (ol := []) ⟨nNext_ok, trivial⟩ Tryz.func104 rfl (by kernel_rfl) Tryz.call104 trivial (rb := nWordRb) (ts := nWordTs) (rs := nWordRs) (t := fun a => nWordT a.1 ) (fun a => by kernel_rfl)

abbrev nChipRb : R := R.pair (R.sl (R.int IntKind.i64)) (R.int IntKind.i64)

abbrev nChipTs : List Sh := []

abbrev nChipRs : Rs := Rs.one (Sh.one (R.int IntKind.i64))

noncomputable def nChipT (s : List Int × Int) : RT (Option (Int × List Int × Int)) :=
  .br (nNextC s 2)
  (.leaf (some ((IntKind.i64.wrap (1 + (nNext s 2).1), (nNext s 2).2))))
  (.leaf none)

noncomputable def nChip (s : List Int × Int) : Int × List Int × Int := getO (nChipRs.dflt, nChipRb.dflt) (nChipT s).val

noncomputable def nChipC (s : List Int × Int) : Bool := okB (nChipT s).val

noncomputable def nChipE : Entry := boxE nChipRb nChipTs nChipRs (fun a => some (nChipC a.1 )) (fun a => nChip a.1 )

theorem nChip_ok : EntryOk Tryz.prog 61 nChipE :=
  box_part (P := Tryz.prog) (n := 7) (k := 8) (l := [(22, nNextE)]) (ol := []) ⟨nNext_ok, trivial⟩ Tryz.func61 rfl (by kernel_rfl) Tryz.call61 trivial (rb := nChipRb) (ts := nChipTs) (rs := nChipRs) (t := fun a => nChipT a.1 ) (fun a => by kernel_rfl)

abbrev nFlagsRb : R := R.pair (R.sl (R.int IntKind.i64)) (R.int IntKind.i64)

abbrev nFlagsTs : List Sh := [Sh.one (R.int IntKind.i64)]

abbrev nFlagsRs : Rs := Rs.one (Sh.agg (R.pair R.bool (R.pair R.bool (R.pair R.bool (R.pair R.bool (R.pair R.bool (R.pair R.bool R.bool)))))))

noncomputable def nFlagsT (s : List Int × Int) (chip : Int) : RT (Option (TF × List Int × Int)) :=
  .br (nNextC s 128)
  (.leaf (some (((andI IntKind.i64 (nNext s 128).1 1 != 0, andI IntKind.i64 (nNext s 128).1 2 != 0, chip == 2 && andI IntKind.i64 (nNext s 128).1 32 != 0, andI IntKind.i64 (nNext s 128).1 4 != 0, andI IntKind.i64 (nNext s 128).1 8 != 0, chip == 2 && andI IntKind.i64 (nNext s 128).1 64 != 0, andI IntKind.i64 (nNext s 128).1 16 != 0), (nNext s 128).2))))
  (.leaf none)

noncomputable def nFlags (s : List Int × Int) (chip : Int) : TF × List Int × Int := getO (nFlagsRs.dflt, nFlagsRb.dflt) (nFlagsT s chip).val

noncomputable def nFlagsC (s : List Int × Int) (chip : Int) : Bool := okB (nFlagsT s chip).val

noncomputable def nFlagsE : Entry := boxE nFlagsRb nFlagsTs nFlagsRs (fun a => some (nFlagsC a.1 a.2)) (fun a => nFlags a.1 a.2)

theorem nFlags_ok : EntryOk Tryz.prog 103 nFlagsE :=
  box_part (P := Tryz.prog) (n := 127) (k := 8) (l := [(22, nNextE)]) (ol := []) ⟨nNext_ok, trivial⟩ Tryz.func103 rfl (by kernel_rfl) Tryz.call103 trivial (rb := nFlagsRb) (ts := nFlagsTs) (rs := nFlagsRs) (t := fun a => nFlagsT a.1 a.2) (fun a => by kernel_rfl)

abbrev nRegsRb : R := R.pair (R.sl (R.int IntKind.i64)) (R.int IntKind.i64)

abbrev nRegsTs : List Sh := [Sh.one (R.int IntKind.i64)]

abbrev nRegsRs : Rs := Rs.one (Sh.agg (R.pair (R.int IntKind.u8) (R.pair (R.int IntKind.u8) (R.pair (R.int IntKind.u8) (R.pair (R.int IntKind.u8) (R.pair (R.int IntKind.u8) (R.pair (R.int IntKind.u8) (R.pair (R.int IntKind.u8) (R.pair (R.pair R.bool (R.pair R.bool (R.pair R.bool (R.pair R.bool (R.pair R.bool (R.pair R.bool R.bool)))))) (R.pair (R.int IntKind.u16) (R.int IntKind.u16)))))))))))

noncomputable def nRegsT (s : List Int × Int) (chip : Int) : RT (Option (TR × List Int × Int)) :=
  let x1 : Int × List Int × Int := nByte (nByte (nByte (nByte (nByte (nByte (nByte s).2).2).2).2).2).2
  let x2 : List Int × Int := x1.2
  let x3 : Bool := nFlagsC x2 chip
  let x4 : Bool := !x3
  let x5 : TF × List Int × Int := nFlags x2 chip
  let x6 : List Int × Int := x5.2
  let x7 : Bool := nWordC x6
  let x8 : Int × List Int × Int := nWord x6
  let x9 : List Int × Int := x8.2
  let x10 : Int × List Int × Int := nWord x9
  .br (!nByteC s || (!nByteC (nByte s).2 || (!nByteC (nByte (nByte s).2).2 || (!nByteC (nByte (nByte (nByte s).2).2).2 || (!nByteC (nByte (nByte (nByte (nByte s).2).2).2).2 || (!nByteC (nByte (nByte (nByte (nByte (nByte s).2).2).2).2).2 || nByteC (nByte (nByte (nByte (nByte (nByte (nByte s).2).2).2).2).2).2))))))
  (.br (!nByteC s || (!nByteC (nByte s).2 || (!nByteC (nByte (nByte s).2).2 || (!nByteC (nByte (nByte (nByte s).2).2).2 || (!nByteC (nByte (nByte (nByte (nByte s).2).2).2).2 || nByteC (nByte (nByte (nByte (nByte (nByte s).2).2).2).2).2)))))
   (.br (!nByteC s || (!nByteC (nByte s).2 || (!nByteC (nByte (nByte s).2).2 || (!nByteC (nByte (nByte (nByte s).2).2).2 || nByteC (nByte (nByte (nByte (nByte s).2).2).2).2))))
    (.br (!nByteC s || (!nByteC (nByte s).2 || (!nByteC (nByte (nByte s).2).2 || nByteC (nByte (nByte (nByte s).2).2).2)))
     (.br (!nByteC s || (!nByteC (nByte s).2 || nByteC (nByte (nByte s).2).2))
      (.br (!nByteC s || nByteC (nByte s).2)
       (.br (nByteC s)
        (.br (x4 || (!x7 || nWordC x9))
         (.br (x4 || x7)
          (.br (x3)
           (.leaf (some ((((nByte s).1, (nByte (nByte s).2).1, (nByte (nByte (nByte s).2).2).1, (nByte (nByte (nByte (nByte s).2).2).2).1, (nByte (nByte (nByte (nByte (nByte s).2).2).2).2).1, (nByte (nByte (nByte (nByte (nByte (nByte s).2).2).2).2).2).1, x1.1, x5.1, x8.1, x10.1), x10.2))))
           (.leaf none))
          (.leaf none))
         (.leaf none))
        (.leaf none))
       (.leaf none))
      (.leaf none))
     (.leaf none))
    (.leaf none))
   (.leaf none))
  (.leaf none)

noncomputable def nRegs (s : List Int × Int) (chip : Int) : TR × List Int × Int := getO (nRegsRs.dflt, nRegsRb.dflt) (nRegsT s chip).val

noncomputable def nRegsC (s : List Int × Int) (chip : Int) : Bool := okB (nRegsT s chip).val

noncomputable def nRegsE : Entry := boxE nRegsRb nRegsTs nRegsRs (fun a => some (nRegsC a.1 a.2)) (fun a => nRegs a.1 a.2)

theorem nRegs_ok : EntryOk Tryz.prog 62 nRegsE :=
  box_part (P := Tryz.prog) (n := 63) (k := 8) (l := [(23, nByteE), (103, nFlagsE), (104, nWordE)]) (ol := []) ⟨nByte_ok, nFlags_ok, nWord_ok, trivial⟩ Tryz.func62 rfl (by kernel_rfl) Tryz.call62 trivial (rb := nRegsRb) (ts := nRegsTs) (rs := nRegsRs) (t := fun a => nRegsT a.1 a.2) (fun a => by kernel_rfl)

abbrev nCPURb : R := R.pair (R.sl (R.int IntKind.i64)) (R.int IntKind.i64)

abbrev nCPUTs : List Sh := []

abbrev nCPURs : Rs := Rs.one (Sh.agg (R.pair (R.int IntKind.i64) (R.pair (R.pair (R.int IntKind.u8) (R.pair (R.int IntKind.u8) (R.pair (R.int IntKind.u8) (R.pair (R.int IntKind.u8) (R.pair (R.int IntKind.u8) (R.pair (R.int IntKind.u8) (R.pair (R.int IntKind.u8) (R.pair (R.pair R.bool (R.pair R.bool (R.pair R.bool (R.pair R.bool (R.pair R.bool (R.pair R.bool R.bool)))))) (R.pair (R.int IntKind.u16) (R.int IntKind.u16)))))))))) (R.pair R.bool (R.pair R.bool (R.pair R.bool (R.pair (R.int IntKind.u8) (R.pair R.bool (R.pair R.bool (R.pair R.bool (R.pair R.bool (R.pair R.bool (R.pair R.bool R.bool)))))))))))))

noncomputable def nCPUT (s : List Int × Int) : RT (Option (TC × List Int × Int)) :=
  let x1 : Int × List Int × Int := nNext (nNext (nFlag (nRegs (nChip s).2 (nChip s).1).2).2 5).2 8
  let x2 : List Int × Int := x1.2
  let x3 : Bool := nNextC x2 5
  let x4 : Bool := !x3
  let x5 : Int × List Int × Int := nNext x2 5
  let x6 : List Int × Int := x5.2
  let x7 : Bool := nFlagC x6
  let x8 : Bool := !x7
  let x9 : Bool × List Int × Int := nFlag x6
  let x10 : List Int × Int := x9.2
  let x11 : Bool := nFlagC x10
  let x12 : Bool × List Int × Int := nFlag x10
  let x13 : List Int × Int := x12.2
  let x14 : Bool × List Int × Int := nFlag x13
  let x15 : List Int × Int := x14.2
  let x16 : Bool := nNextC x15 4
  let x17 : Bool := !x16
  let x18 : Int × List Int × Int := nNext x15 4
  let x19 : List Int × Int := x18.2
  let x20 : Bool := nFlagC x19
  let x21 : Bool × List Int × Int := nFlag x19
  let x22 : List Int × Int := x21.2
  let x23 : Bool × List Int × Int := nFlag x22
  let x24 : List Int × Int := x23.2
  .br (nChipC s)
  (.br (!nRegsC (nChip s).2 (nChip s).1 || nFlagC (nRegs (nChip s).2 (nChip s).1).2)
   (.br (nRegsC (nChip s).2 (nChip s).1)
    (.br (nNextC (nFlag (nRegs (nChip s).2 (nChip s).1).2).2 5)
     (.br (!(nChip s).1 == 2 || nNextC (nNext (nFlag (nRegs (nChip s).2 (nChip s).1).2).2 5).2 8)
      (.br (!(nChip s).1 == 2 || (x4 || (x8 || (!x11 || nFlagC x13))))
       (.br (!(nChip s).1 == 2 || (x4 || (x8 || x11)))
        (.br (!(nChip s).1 == 2 || (x4 || x7))
         (.br (!(nChip s).1 == 2 || x3)
          (.br (!(nChip s).1 == 2 || (x17 || (!x20 || nFlagC x22)))
           (.br (!(nChip s).1 == 2 || (x17 || x20))
            (.br (!(nChip s).1 == 2 || x16)
             (.leaf (some ((((nChip s).1, (nRegs (nChip s).2 (nChip s).1).1, (nFlag (nRegs (nChip s).2 (nChip s).1).2).1, (nNext (nFlag (nRegs (nChip s).2 (nChip s).1).2).2 5).1 == 0, false, bif (nChip s).1 == 2 then IntKind.u8.wrap x1.1 else 0, (nChip s).1 == 2 && x5.1 == 0, (nChip s).1 == 2 && x9.1, (nChip s).1 == 2 && x12.1, (nChip s).1 == 2 && x14.1, (nChip s).1 == 2 && x18.1 == 0, (nChip s).1 == 2 && x21.1, (nChip s).1 == 2 && x23.1), bif (nChip s).1 == 2 then x24.1 else (nNext (nFlag (nRegs (nChip s).2 (nChip s).1).2).2 5).2.1, bif (nChip s).1 == 2 then x24.2 else (nNext (nFlag (nRegs (nChip s).2 (nChip s).1).2).2 5).2.2))))
             (.leaf none))
            (.leaf none))
           (.leaf none))
          (.leaf none))
         (.leaf none))
        (.leaf none))
       (.leaf none))
      (.leaf none))
     (.leaf none))
    (.leaf none))
   (.leaf none))
  (.leaf none)

noncomputable def nCPU (s : List Int × Int) : TC × List Int × Int := getO (nCPURs.dflt, nCPURb.dflt) (nCPUT s).val

noncomputable def nCPUC (s : List Int × Int) : Bool := okB (nCPUT s).val

noncomputable def nCPUE : Entry := boxE nCPURb nCPUTs nCPURs (fun a => some (nCPUC a.1 )) (fun a => nCPU a.1 )

theorem nCPU_ok : EntryOk Tryz.prog 21 nCPUE :=
  box_part (P := Tryz.prog) (n := 31) (k := 8) (l := [(22, nNextE), (61, nChipE), (62, nRegsE), (63, nFlagE)]) (ol := []) ⟨nNext_ok, nChip_ok, nRegs_ok, nFlag_ok, trivial⟩ Tryz.func21 rfl (by kernel_rfl) Tryz.call21 trivial (rb := nCPURb) (ts := nCPUTs) (rs := nCPURs) (t := fun a => nCPUT a.1 ) (fun a => by kernel_rfl)
end
end Go.Proofs.YtiflfdlglncjlaaGreat
