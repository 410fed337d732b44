/-
  Contracts of functions; each found by the symbolic executor and checked by the kernel. Conditions: none.
-/
import Derived.Test.YteboknglfjadoaaGreatS3D
import Derived.Test.YteboknglfjadoaaGreatProg
import Derived.Test.YteboknglfjadoaaGreatKinds
set_option linter.unusedSimpArgs false
open Go Go.S3 Go.Proofs
set_option linter.unusedVariables false
set_option maxRecDepth 100000
namespace Go.Proofs.YteboknglfjadoaaGreat
noncomputable section
abbrev pInternalTs : List Sh := [Sh.one (R.int IntKind.i64)]

abbrev pInternalRs : Rs := Rs.one (Sh.one R.bool)

noncomputable def pInternalT (s : Int) : RT (Bool) :=
  .leaf (decide (s ≥ 1) && decide (s ≤ 4))

noncomputable def pInternal (s : Int) : Bool := (pInternalT s).val

noncomputable def pInternalE : Entry := pureE pInternalTs pInternalRs (fun _ => none) (fun a => pInternal a)

theorem pInternal_ok : EntryOk Tryz.prog 173 pInternalE :=
  pure_tot (P := Tryz.prog) (n := 7) (k := 8) (l := []) (ol := []) trivial Tryz.func173 rfl (by kernel_rfl) Tryz.call173 trivial (ts := pInternalTs) (rs := pInternalRs) (t := fun a => pInternalT a) (fun a => by kernel_rfl)

abbrev qAtRb : R := R.pair (R.pair (R.int IntKind.i64) (R.pair (R.pair (R.int IntKind.u8) (R.pair (R.int IntKind.u8) (R.pair (R.int IntKind.u8) (R.pair (R.int IntKind.u8) (R.pair (R.int IntKind.u8) (R.pair (R.int IntKind.u8) (R.pair (R.int IntKind.u8) (R.pair (R.pair R.bool (R.pair R.bool (R.pair R.bool (R.pair R.bool (R.pair R.bool (R.pair R.bool R.bool)))))) (R.pair (R.int IntKind.u16) (R.int IntKind.u16)))))))))) (R.pair R.bool (R.pair R.bool (R.pair R.bool (R.pair (R.int IntKind.u8) (R.pair R.bool (R.pair R.bool (R.pair R.bool (R.pair R.bool (R.pair R.bool (R.pair R.bool R.bool)))))))))))) (R.pair R.bool (R.pair (R.sl (R.int IntKind.u8)) (R.pair (R.pair (R.int IntKind.i64) (R.pair (R.int IntKind.i64) (R.pair (R.int IntKind.i64) (R.pair (R.int IntKind.i64) (R.pair (R.int IntKind.i64) (R.pair (R.int IntKind.i64) (R.pair (R.int IntKind.i64) (R.int IntKind.i64)))))))) (R.sl (RY)))))

abbrev qAtTs : List Sh := [Sh.one (R.int IntKind.i64)]

abbrev qAtRs : Rs := Rs.one (Sh.one (R.int IntKind.u8))

noncomputable def qAtT (s : TC × Bool × List Int × TI × List TY) (n : Int) : RT (Option (Int)) :=
  .br (!decide (n < ↑(List.length s.2.2.1)) || inRng n (List.length s.2.2.1))
  (.br (decide (n < ↑(List.length s.2.2.1)))
   (.leaf (some (R.get (R.int IntKind.u8) s.2.2.1 n)))
   (.leaf (some (0))))
  (.leaf none)

noncomputable def qAt (s : TC × Bool × List Int × TI × List TY) (n : Int) : Int := getO qAtRs.dflt (qAtT s n).val

noncomputable def qAtC (s : TC × Bool × List Int × TI × List TY) (n : Int) : Bool := okB (qAtT s n).val

noncomputable def qAtE : Entry := readE qAtRb qAtTs qAtRs (fun a => some (qAtC a.1 a.2)) (fun a => qAt a.1 a.2)

theorem qAt_ok : EntryOk Tryz.prog 210 qAtE :=
  read_part (P := Tryz.prog) (n := 31) (k := 8) (l := []) (ol := []) trivial Tryz.func210 rfl (by kernel_rfl) Tryz.call210 trivial (rb := qAtRb) (ts := qAtTs) (rs := qAtRs) (by kernel_rfl) (t := fun a => qAtT a.1 a.2) (fun a => by kernel_rfl)

abbrev qJoinRb : R := R.pair (R.pair (R.int IntKind.i64) (R.pair (R.pair (R.int IntKind.u8) (R.pair (R.int IntKind.u8) (R.pair (R.int IntKind.u8) (R.pair (R.int IntKind.u8) (R.pair (R.int IntKind.u8) (R.pair (R.int IntKind.u8) (R.pair (R.int IntKind.u8) (R.pair (R.pair R.bool (R.pair R.bool (R.pair R.bool (R.pair R.bool (R.pair R.bool (R.pair R.bool R.bool)))))) (R.pair (R.int IntKind.u16) (R.int IntKind.u16)))))))))) (R.pair R.bool (R.pair R.bool (R.pair R.bool (R.pair (R.int IntKind.u8) (R.pair R.bool (R.pair R.bool (R.pair R.bool (R.pair R.bool (R.pair R.bool (R.pair R.bool R.bool)))))))))))) (R.pair R.bool (R.pair (R.sl (R.int IntKind.u8)) (R.pair (R.pair (R.int IntKind.i64) (R.pair (R.int IntKind.i64) (R.pair (R.int IntKind.i64) (R.pair (R.int IntKind.i64) (R.pair (R.int IntKind.i64) (R.pair (R.int IntKind.i64) (R.pair (R.int IntKind.i64) (R.int IntKind.i64)))))))) (R.sl (RY)))))

abbrev qJoinTs : List Sh := [Sh.one (R.int IntKind.i64)]

abbrev qJoinRs : Rs := Rs.one (Sh.one (R.int IntKind.u16))

noncomputable def qJoinT (s : TC × Bool × List Int × TI × List TY) (n : Int) : RT (Option (Int)) :=
  .br (!qAtC s (IntKind.i64.wrap (n + 1)) || qAtC s n)
  (.br (qAtC s (IntKind.i64.wrap (n + 1)))
   (.leaf (some (rJoin (qAt s (IntKind.i64.wrap (n + 1))) (qAt s n))))
   (.leaf none))
  (.leaf none)

noncomputable def qJoin (s : TC × Bool × List Int × TI × List TY) (n : Int) : Int := getO qJoinRs.dflt (qJoinT s n).val

noncomputable def qJoinC (s : TC × Bool × List Int × TI × List TY) (n : Int) : Bool := okB (qJoinT s n).val

noncomputable def qJoinE : Entry := readE qJoinRb qJoinTs qJoinRs (fun a => some (qJoinC a.1 a.2)) (fun a => qJoin a.1 a.2)

theorem qJoin_ok : EntryOk Tryz.prog 252 qJoinE :=
  read_part (P := Tryz.prog) (n := 31) (k := 8) (l := [(210, qAtE), (217, pJoin1E)]) (ol := []) ⟨qAt_ok, pJoin1_ok, trivial⟩ Tryz.func252 rfl (by kernel_rfl) Tryz.call252 trivial (rb := qJoinRb) (ts := qJoinTs) (rs := qJoinRs) (by kernel_rfl) (t := fun a => qJoinT a.1 a.2) (fun a => by kernel_rfl)

abbrev qBehindRb : R := R.pair (R.pair (R.int IntKind.i64) (R.pair (R.pair (R.int IntKind.u8) (R.pair (R.int IntKind.u8) (R.pair (R.int IntKind.u8) (R.pair (R.int IntKind.u8) (R.pair (R.int IntKind.u8) (R.pair (R.int IntKind.u8) (R.pair (R.int IntKind.u8) (R.pair (R.pair R.bool (R.pair R.bool (R.pair R.bool (R.pair R.bool (R.pair R.bool (R.pair R.bool R.bool)))))) (R.pair (R.int IntKind.u16) (R.int IntKind.u16)))))))))) (R.pair R.bool (R.pair R.bool (R.pair R.bool (R.pair (R.int IntKind.u8) (R.pair R.bool (R.pair R.bool (R.pair R.bool (R.pair R.bool (R.pair R.bool (R.pair R.bool R.bool)))))))))))) (R.pair R.bool (R.pair (R.sl (R.int IntKind.u8)) (R.pair (R.pair (R.int IntKind.i64) (R.pair (R.int IntKind.i64) (R.pair (R.int IntKind.i64) (R.pair (R.int IntKind.i64) (R.pair (R.int IntKind.i64) (R.pair (R.int IntKind.i64) (R.pair (R.int IntKind.i64) (R.int IntKind.i64)))))))) (R.sl (RY)))))

abbrev qBehindTs : List Sh := []

abbrev qBehindRs : Rs := Rs.one (Sh.one (R.int IntKind.u16))

noncomputable def qBehindT (s : TC × Bool × List Int × TI × List TY) : RT (Int) :=
  .br s.2.1
  (.leaf s.1.2.1.2.2.2.2.2.2.2.2.2)
  (.leaf (IntKind.u16.wrap (s.1.2.1.2.2.2.2.2.2.2.2.2 + IntKind.u16.wrap s.2.2.2.1.2.1)))

noncomputable def qBehind (s : TC × Bool × List Int × TI × List TY) : Int := (qBehindT s).val

noncomputable def qBehindE : Entry := readE qBehindRb qBehindTs qBehindRs (fun _ => none) (fun a => qBehind a.1 )

theorem qBehind_ok : EntryOk Tryz.prog 238 qBehindE :=
  read_tot (P := Tryz.prog) (n := 7) (k := 8) (l := []) (ol := []) trivial Tryz.func238 rfl (by kernel_rfl) Tryz.call238 trivial (rb := qBehindRb) (ts := qBehindTs) (rs := qBehindRs) (by kernel_rfl) (t := fun a => qBehindT a.1 ) (fun a => by kernel_rfl)

abbrev qTakenRb : R := R.pair (R.pair (R.int IntKind.i64) (R.pair (R.pair (R.int IntKind.u8) (R.pair (R.int IntKind.u8) (R.pair (R.int IntKind.u8) (R.pair (R.int IntKind.u8) (R.pair (R.int IntKind.u8) (R.pair (R.int IntKind.u8) (R.pair (R.int IntKind.u8) (R.pair (R.pair R.bool (R.pair R.bool (R.pair R.bool (R.pair R.bool (R.pair R.bool (R.pair R.bool R.bool)))))) (R.pair (R.int IntKind.u16) (R.int IntKind.u16)))))))))) (R.pair R.bool (R.pair R.bool (R.pair R.bool (R.pair (R.int IntKind.u8) (R.pair R.bool (R.pair R.bool (R.pair R.bool (R.pair R.bool (R.pair R.bool (R.pair R.bool R.bool)))))))))))) (R.pair R.bool (R.pair (R.sl (R.int IntKind.u8)) (R.pair (R.pair (R.int IntKind.i64) (R.pair (R.int IntKind.i64) (R.pair (R.int IntKind.i64) (R.pair (R.int IntKind.i64) (R.pair (R.int IntKind.i64) (R.pair (R.int IntKind.i64) (R.pair (R.int IntKind.i64) (R.int IntKind.i64)))))))) (R.sl (RY)))))

abbrev qTakenTs : List Sh := []

abbrev qTakenRs : Rs := Rs.one (Sh.one R.bool)

noncomputable def qTakenT (s : TC × Bool × List Int × TI × List TY) : RT (Bool) :=
  .leaf (rHolds s.2.2.2.1.2.2.2.2.2.2.1 s.1.2.1.2.2.2.2.2.2.2.1)

noncomputable def qTaken (s : TC × Bool × List Int × TI × List TY) : Bool := (qTakenT s).val

noncomputable def qTakenE : Entry := readE qTakenRb qTakenTs qTakenRs (fun _ => none) (fun a => qTaken a.1 )

theorem qTaken_ok : EntryOk Tryz.prog 254 qTakenE :=
  read_tot (P := Tryz.prog) (n := 7) (k := 8) (l := [(293, pHolds1E)]) (ol := []) ⟨pHolds1_ok, trivial⟩ Tryz.func254 rfl (by kernel_rfl) Tryz.call254 trivial (rb := qTakenRb) (ts := qTakenTs) (rs := qTakenRs) (by kernel_rfl) (t := fun a => qTakenT a.1 ) (fun a => by kernel_rfl)

abbrev qRegRb : R := R.pair (R.pair (R.int IntKind.i64) (R.pair (R.pair (R.int IntKind.u8) (R.pair (R.int IntKind.u8) (R.pair (R.int IntKind.u8) (R.pair (R.int IntKind.u8) (R.pair (R.int IntKind.u8) (R.pair (R.int IntKind.u8) (R.pair (R.int IntKind.u8) (R.pair (R.pair R.bool (R.pair R.bool (R.pair R.bool (R.pair R.bool (R.pair R.bool (R.pair R.bool R.bool)))))) (R.pair (R.int IntKind.u16) (R.int IntKind.u16)))))))))) (R.pair R.bool (R.pair R.bool (R.pair R.bool (R.pair (R.int IntKind.u8) (R.pair R.bool (R.pair R.bool (R.pair R.bool (R.pair R.bool (R.pair R.bool (R.pair R.bool R.bool)))))))))))) (R.pair R.bool (R.pair (R.sl (R.int IntKind.u8)) (R.pair (R.pair (R.int IntKind.i64) (R.pair (R.int IntKind.i64) (R.pair (R.int IntKind.i64) (R.pair (R.int IntKind.i64) (R.pair (R.int IntKind.i64) (R.pair (R.int IntKind.i64) (R.pair (R.int IntKind.i64) (R.int IntKind.i64)))))))) (R.sl (RY)))))

abbrev qRegTs : List Sh := [Sh.one (R.int IntKind.i64)]

abbrev qRegRs : Rs := Rs.one (Sh.one (R.int IntKind.u8))

noncomputable def qRegT (s : TC × Bool × List Int × TI × List TY) (n : Int) : RT (Int) :=
  .leaf (rGet s.1.2.1 n)

noncomputable def qReg (s : TC × Bool × List Int × TI × List TY) (n : Int) : Int := (qRegT s n).val

noncomputable def qRegE : Entry := readE qRegRb qRegTs qRegRs (fun _ => none) (fun a => qReg a.1 a.2)

theorem qReg_ok : EntryOk Tryz.prog 213 qRegE :=
  read_tot (P := Tryz.prog) (n := 31) (k := 8) (l := [(249, pGet1E)]) (ol := []) ⟨pGet1_ok, trivial⟩ Tryz.func213 rfl (by kernel_rfl) Tryz.call213 trivial (rb := qRegRb) (ts := qRegTs) (rs := qRegRs) (by kernel_rfl) (t := fun a => qRegT a.1 a.2) (fun a => by kernel_rfl)

abbrev qPairRb : R := R.pair (R.pair (R.int IntKind.i64) (R.pair (R.pair (R.int IntKind.u8) (R.pair (R.int IntKind.u8) (R.pair (R.int IntKind.u8) (R.pair (R.int IntKind.u8) (R.pair (R.int IntKind.u8) (R.pair (R.int IntKind.u8) (R.pair (R.int IntKind.u8) (R.pair (R.pair R.bool (R.pair R.bool (R.pair R.bool (R.pair R.bool (R.pair R.bool (R.pair R.bool R.bool)))))) (R.pair (R.int IntKind.u16) (R.int IntKind.u16)))))))))) (R.pair R.bool (R.pair R.bool (R.pair R.bool (R.pair (R.int IntKind.u8) (R.pair R.bool (R.pair R.bool (R.pair R.bool (R.pair R.bool (R.pair R.bool (R.pair R.bool R.bool)))))))))))) (R.pair R.bool (R.pair (R.sl (R.int IntKind.u8)) (R.pair (R.pair (R.int IntKind.i64) (R.pair (R.int IntKind.i64) (R.pair (R.int IntKind.i64) (R.pair (R.int IntKind.i64) (R.pair (R.int IntKind.i64) (R.pair (R.int IntKind.i64) (R.pair (R.int IntKind.i64) (R.int IntKind.i64)))))))) (R.sl (RY)))))

abbrev qPairTs : List Sh := [Sh.one (R.int IntKind.i64)]

abbrev qPairRs : Rs := Rs.one (Sh.one (R.int IntKind.u16))

noncomputable def qPairT (s : TC × Bool × List Int × TI × List TY) (n : Int) : RT (Int) :=
  .leaf (rPair s.1.2.1 n)

noncomputable def qPair (s : TC × Bool × List Int × TI × List TY) (n : Int) : Int := (qPairT s n).val

noncomputable def qPairE : Entry := readE qPairRb qPairTs qPairRs (fun _ => none) (fun a => qPair a.1 a.2)

theorem qPair_ok : EntryOk Tryz.prog 212 qPairE :=
  read_tot (P := Tryz.prog) (n := 31) (k := 8) (l := [(248, pPair1E)]) (ol := []) ⟨pPair1_ok, trivial⟩ Tryz.func212 rfl (by kernel_rfl) Tryz.call212 trivial (rb := qPairRb) (ts := qPairTs) (rs := qPairRs) (by kernel_rfl) (t := fun a => qPairT a.1 a.2) (fun a => by kernel_rfl)

abbrev qCountedRb : R := R.pair (R.pair (R.int IntKind.i64) (R.pair (R.pair (R.int IntKind.u8) (R.pair (R.int IntKind.u8) (R.pair (R.int IntKind.u8) (R.pair (R.int IntKind.u8) (R.pair (R.int IntKind.u8) (R.pair (R.int IntKind.u8) (R.pair (R.int IntKind.u8) (R.pair (R.pair R.bool (R.pair R.bool (R.pair R.bool (R.pair R.bool (R.pair R.bool (R.pair R.bool R.bool)))))) (R.pair (R.int IntKind.u16) (R.int IntKind.u16)))))))))) (R.pair R.bool (R.pair R.bool (R.pair R.bool (R.pair (R.int IntKind.u8) (R.pair R.bool (R.pair R.bool (R.pair R.bool (R.pair R.bool (R.pair R.bool (R.pair R.bool R.bool)))))))))))) (R.pair R.bool (R.pair (R.sl (R.int IntKind.u8)) (R.pair (R.pair (R.int IntKind.i64) (R.pair (R.int IntKind.i64) (R.pair (R.int IntKind.i64) (R.pair (R.int IntKind.i64) (R.pair (R.int IntKind.i64) (R.pair (R.int IntKind.i64) (R.pair (R.int IntKind.i64) (R.int IntKind.i64)))))))) (R.sl (RY)))))

abbrev qCountedTs : List Sh := []

abbrev qCountedRs : Rs := Rs.one (Sh.one (R.int IntKind.u8))

noncomputable def qCountedT (s : TC × Bool × List Int × TI × List TY) : RT (Option (Int)) :=
  .br (qAtC s 1)
  (.leaf (some (bif s.2.2.2.1.1 == 14 then (rInr s.1.1 (qAt s 1) s.1.2.1.2.2.2.2.2.2.2.1).1 else (rDcr s.1.1 (qAt s 1) s.1.2.1.2.2.2.2.2.2.2.1).1)))
  (.leaf none)

noncomputable def qCounted (s : TC × Bool × List Int × TI × List TY) : Int := getO qCountedRs.dflt (qCountedT s).val

noncomputable def qCountedC (s : TC × Bool × List Int × TI × List TY) : Bool := okB (qCountedT s).val

noncomputable def qCountedE : Entry := readE qCountedRb qCountedTs qCountedRs (fun a => some (qCountedC a.1 )) (fun a => qCounted a.1 )

theorem qCounted_ok : EntryOk Tryz.prog 215 qCountedE :=
  read_part (P := Tryz.prog) (n := 15) (k := 8) (l := [(210, qAtE), (250, pInr1E), (251, pDcr1E)]) (ol := []) ⟨qAt_ok, pInr1_ok, pDcr1_ok, trivial⟩ Tryz.func215 rfl (by kernel_rfl) Tryz.call215 trivial (rb := qCountedRb) (ts := qCountedTs) (rs := qCountedRs) (by kernel_rfl) (t := fun a => qCountedT a.1 ) (fun a => by kernel_rfl)

abbrev qOperandRb : R := R.pair (R.pair (R.int IntKind.i64) (R.pair (R.pair (R.int IntKind.u8) (R.pair (R.int IntKind.u8) (R.pair (R.int IntKind.u8) (R.pair (R.int IntKind.u8) (R.pair (R.int IntKind.u8) (R.pair (R.int IntKind.u8) (R.pair (R.int IntKind.u8) (R.pair (R.pair R.bool (R.pair R.bool (R.pair R.bool (R.pair R.bool (R.pair R.bool (R.pair R.bool R.bool)))))) (R.pair (R.int IntKind.u16) (R.int IntKind.u16)))))))))) (R.pair R.bool (R.pair R.bool (R.pair R.bool (R.pair (R.int IntKind.u8) (R.pair R.bool (R.pair R.bool (R.pair R.bool (R.pair R.bool (R.pair R.bool (R.pair R.bool R.bool)))))))))))) (R.pair R.bool (R.pair (R.sl (R.int IntKind.u8)) (R.pair (R.pair (R.int IntKind.i64) (R.pair (R.int IntKind.i64) (R.pair (R.int IntKind.i64) (R.pair (R.int IntKind.i64) (R.pair (R.int IntKind.i64) (R.pair (R.int IntKind.i64) (R.pair (R.int IntKind.i64) (R.int IntKind.i64)))))))) (R.sl (RY)))))

abbrev qOperandTs : List Sh := []

abbrev qOperandRs : Rs := Rs.one (Sh.one (R.int IntKind.u8))

noncomputable def qOperandT (s : TC × Bool × List Int × TI × List TY) : RT (Option (Int)) :=
  let x1 : Bool := s.2.2.2.1.1 == 13 || s.2.2.2.1.2.2.2.1 == 6
  .br (!x1 || qAtC s 1)
  (.br (x1)
   (.leaf (some (qAt s 1)))
   (.leaf (some (qReg s s.2.2.2.1.2.2.2.1))))
  (.leaf none)

noncomputable def qOperand (s : TC × Bool × List Int × TI × List TY) : Int := getO qOperandRs.dflt (qOperandT s).val

noncomputable def qOperandC (s : TC × Bool × List Int × TI × List TY) : Bool := okB (qOperandT s).val

noncomputable def qOperandE : Entry := readE qOperandRb qOperandTs qOperandRs (fun a => some (qOperandC a.1 )) (fun a => qOperand a.1 )

theorem qOperand_ok : EntryOk Tryz.prog 272 qOperandE :=
  read_part (P := Tryz.prog) (n := 7) (k := 8) (l := [(210, qAtE), (213, qRegE)]) (ol := []) ⟨qAt_ok, qReg_ok, trivial⟩ Tryz.func272 rfl (by kernel_rfl) Tryz.call272 trivial (rb := qOperandRb) (ts := qOperandTs) (rs := qOperandRs) (by kernel_rfl) (t := fun a => qOperandT a.1 ) (fun a => by kernel_rfl)

abbrev mAtRb : R := R.pair (R.pair (R.int IntKind.i64) (R.pair (R.pair (R.int IntKind.u8) (R.pair (R.int IntKind.u8) (R.pair (R.int IntKind.u8) (R.pair (R.int IntKind.u8) (R.pair (R.int IntKind.u8) (R.pair (R.int IntKind.u8) (R.pair (R.int IntKind.u8) (R.pair (R.pair R.bool (R.pair R.bool (R.pair R.bool (R.pair R.bool (R.pair R.bool (R.pair R.bool R.bool)))))) (R.pair (R.int IntKind.u16) (R.int IntKind.u16)))))))))) (R.pair R.bool (R.pair R.bool (R.pair R.bool (R.pair (R.int IntKind.u8) (R.pair R.bool (R.pair R.bool (R.pair R.bool (R.pair R.bool (R.pair R.bool (R.pair R.bool R.bool)))))))))))) (R.pair R.bool (R.pair (R.sl (R.int IntKind.u8)) (R.sl (RY))))

abbrev mAtTs : List Sh := [Sh.one (R.int IntKind.i64)]

abbrev mAtRs : Rs := Rs.one (Sh.one (R.int IntKind.u8))

noncomputable def mAtT (s : TC × Bool × List Int × List TY) (n : Int) : RT (Option (Int)) :=
  .br (!decide (n < ↑(List.length s.2.2.1)) || inRng n (List.length s.2.2.1))
  (.br (decide (n < ↑(List.length s.2.2.1)))
   (.leaf (some (R.get (R.int IntKind.u8) s.2.2.1 n)))
   (.leaf (some (0))))
  (.leaf none)

noncomputable def mAt (s : TC × Bool × List Int × List TY) (n : Int) : Int := getO mAtRs.dflt (mAtT s n).val

noncomputable def mAtC (s : TC × Bool × List Int × List TY) (n : Int) : Bool := okB (mAtT s n).val

noncomputable def mAtE : Entry := readE mAtRb mAtTs mAtRs (fun a => some (mAtC a.1 a.2)) (fun a => mAt a.1 a.2)

theorem mAt_ok : EntryOk Tryz.prog 72 mAtE :=
  read_part (P := Tryz.prog) (n := 31) (k := 8) (l := []) (ol := []) trivial Tryz.func72 rfl (by kernel_rfl) Tryz.call72 trivial (rb := mAtRb) (ts := mAtTs) (rs := mAtRs) (by kernel_rfl) (t := fun a => mAtT a.1 a.2) (fun a => by kernel_rfl)

abbrev mWordRb : R := R.pair (R.pair (R.int IntKind.i64) (R.pair (R.pair (R.int IntKind.u8) (R.pair (R.int IntKind.u8) (R.pair (R.int IntKind.u8) (R.pair (R.int IntKind.u8) (R.pair (R.int IntKind.u8) (R.pair (R.int IntKind.u8) (R.pair (R.int IntKind.u8) (R.pair (R.pair R.bool (R.pair R.bool (R.pair R.bool (R.pair R.bool (R.pair R.bool (R.pair R.bool R.bool)))))) (R.pair (R.int IntKind.u16) (R.int IntKind.u16)))))))))) (R.pair R.bool (R.pair R.bool (R.pair R.bool (R.pair (R.int IntKind.u8) (R.pair R.bool (R.pair R.bool (R.pair R.bool (R.pair R.bool (R.pair R.bool (R.pair R.bool R.bool)))))))))))) (R.pair R.bool (R.pair (R.sl (R.int IntKind.u8)) (R.sl (RY))))

abbrev mWordTs : List Sh := [Sh.one (R.int IntKind.i64)]

abbrev mWordRs : Rs := Rs.one (Sh.one (R.int IntKind.u16))

noncomputable def mWordT (s : TC × Bool × List Int × List TY) (n : Int) : RT (Option (Int)) :=
  .br (!mAtC s (IntKind.i64.wrap (n + 1)) || mAtC s n)
  (.br (mAtC s (IntKind.i64.wrap (n + 1)))
   (.leaf (some (rJoin (mAt s (IntKind.i64.wrap (n + 1))) (mAt s n))))
   (.leaf none))
  (.leaf none)

noncomputable def mWord (s : TC × Bool × List Int × List TY) (n : Int) : Int := getO mWordRs.dflt (mWordT s n).val

noncomputable def mWordC (s : TC × Bool × List Int × List TY) (n : Int) : Bool := okB (mWordT s n).val

noncomputable def mWordE : Entry := readE mWordRb mWordTs mWordRs (fun a => some (mWordC a.1 a.2)) (fun a => mWord a.1 a.2)

theorem mWord_ok : EntryOk Tryz.prog 112 mWordE :=
  read_part (P := Tryz.prog) (n := 31) (k := 8) (l := [(72, mAtE), (119, rJoinE)]) (ol := []) ⟨mAt_ok, rJoin_ok, trivial⟩ Tryz.func112 rfl (by kernel_rfl) Tryz.call112 trivial (rb := mWordRb) (ts := mWordTs) (rs := mWordRs) (by kernel_rfl) (t := fun a => mWordT a.1 a.2) (fun a => by kernel_rfl)

abbrev mBehindRb : R := R.pair (R.pair (R.int IntKind.i64) (R.pair (R.pair (R.int IntKind.u8) (R.pair (R.int IntKind.u8) (R.pair (R.int IntKind.u8) (R.pair (R.int IntKind.u8) (R.pair (R.int IntKind.u8) (R.pair (R.int IntKind.u8) (R.pair (R.int IntKind.u8) (R.pair (R.pair R.bool (R.pair R.bool (R.pair R.bool (R.pair R.bool (R.pair R.bool (R.pair R.bool R.bool)))))) (R.pair (R.int IntKind.u16) (R.int IntKind.u16)))))))))) (R.pair R.bool (R.pair R.bool (R.pair R.bool (R.pair (R.int IntKind.u8) (R.pair R.bool (R.pair R.bool (R.pair R.bool (R.pair R.bool (R.pair R.bool (R.pair R.bool R.bool)))))))))))) (R.pair R.bool (R.pair (R.sl (R.int IntKind.u8)) (R.sl (RY))))

abbrev mBehindTs : List Sh := [Sh.one (R.int IntKind.i64)]

abbrev mBehindRs : Rs := Rs.one (Sh.one (R.int IntKind.u16))

noncomputable def mBehindT (s : TC × Bool × List Int × List TY) (n : Int) : RT (Int) :=
  .br s.2.1
  (.leaf s.1.2.1.2.2.2.2.2.2.2.2.2)
  (.leaf (IntKind.u16.wrap (s.1.2.1.2.2.2.2.2.2.2.2.2 + IntKind.u16.wrap n)))

noncomputable def mBehind (s : TC × Bool × List Int × List TY) (n : Int) : Int := (mBehindT s n).val

noncomputable def mBehindE : Entry := readE mBehindRb mBehindTs mBehindRs (fun _ => none) (fun a => mBehind a.1 a.2)

theorem mBehind_ok : EntryOk Tryz.prog 76 mBehindE :=
  read_tot (P := Tryz.prog) (n := 31) (k := 8) (l := []) (ol := []) trivial Tryz.func76 rfl (by kernel_rfl) Tryz.call76 trivial (rb := mBehindRb) (ts := mBehindTs) (rs := mBehindRs) (by kernel_rfl) (t := fun a => mBehindT a.1 a.2) (fun a => by kernel_rfl)

abbrev mTakenRb : R := R.pair (R.pair (R.int IntKind.i64) (R.pair (R.pair (R.int IntKind.u8) (R.pair (R.int IntKind.u8) (R.pair (R.int IntKind.u8) (R.pair (R.int IntKind.u8) (R.pair (R.int IntKind.u8) (R.pair (R.int IntKind.u8) (R.pair (R.int IntKind.u8) (R.pair (R.pair R.bool (R.pair R.bool (R.pair R.bool (R.pair R.bool (R.pair R.bool (R.pair R.bool R.bool)))))) (R.pair (R.int IntKind.u16) (R.int IntKind.u16)))))))))) (R.pair R.bool (R.pair R.bool (R.pair R.bool (R.pair (R.int IntKind.u8) (R.pair R.bool (R.pair R.bool (R.pair R.bool (R.pair R.bool (R.pair R.bool (R.pair R.bool R.bool)))))))))))) (R.pair R.bool (R.pair (R.sl (R.int IntKind.u8)) (R.sl (RY))))

abbrev mTakenTs : List Sh := [Sh.agg (R.pair (R.int IntKind.i64) (R.pair (R.int IntKind.i64) (R.pair (R.int IntKind.i64) (R.pair (R.int IntKind.i64) (R.pair (R.int IntKind.i64) (R.pair (R.int IntKind.i64) (R.pair (R.int IntKind.i64) (R.int IntKind.i64))))))))]

abbrev mTakenRs : Rs := Rs.one (Sh.one R.bool)

noncomputable def mTakenT (s : TC × Bool × List Int × List TY) (i : Int × Int × Int × Int × Int × Int × Int × Int) : RT (Bool) :=
  .leaf (rHolds i.2.2.2.2.2.2.1 s.1.2.1.2.2.2.2.2.2.2.1)

noncomputable def mTaken (s : TC × Bool × List Int × List TY) (i : Int × Int × Int × Int × Int × Int × Int × Int) : Bool := (mTakenT s i).val

noncomputable def mTakenE : Entry := readE mTakenRb mTakenTs mTakenRs (fun _ => none) (fun a => mTaken a.1 a.2)

theorem mTaken_ok : EntryOk Tryz.prog 116 mTakenE :=
  read_tot (P := Tryz.prog) (n := 31) (k := 8) (l := [(24, rHoldsE)]) (ol := []) ⟨rHolds_ok, trivial⟩ Tryz.func116 rfl (by kernel_rfl) Tryz.call116 trivial (rb := mTakenRb) (ts := mTakenTs) (rs := mTakenRs) (by kernel_rfl) (t := fun a => mTakenT a.1 a.2) (fun a => by kernel_rfl)

abbrev rSteppedTs : List Sh := [Sh.agg (R.pair (R.int IntKind.i64) (R.pair (R.pair (R.int IntKind.u8) (R.pair (R.int IntKind.u8) (R.pair (R.int IntKind.u8) (R.pair (R.int IntKind.u8) (R.pair (R.int IntKind.u8) (R.pair (R.int IntKind.u8) (R.pair (R.int IntKind.u8) (R.pair (R.pair R.bool (R.pair R.bool (R.pair R.bool (R.pair R.bool (R.pair R.bool (R.pair R.bool R.bool)))))) (R.pair (R.int IntKind.u16) (R.int IntKind.u16)))))))))) (R.pair R.bool (R.pair R.bool (R.pair R.bool (R.pair (R.int IntKind.u8) (R.pair R.bool (R.pair R.bool (R.pair R.bool (R.pair R.bool (R.pair R.bool (R.pair R.bool R.bool)))))))))))), Sh.agg (R.pair (R.int IntKind.i64) (R.pair (R.int IntKind.i64) (R.pair (R.int IntKind.i64) (R.pair (R.int IntKind.i64) (R.pair (R.int IntKind.i64) (R.pair (R.int IntKind.i64) (R.pair (R.int IntKind.i64) (R.int IntKind.i64)))))))), Sh.one (R.int IntKind.u8)]

abbrev rSteppedRs : Rs := Rs.tup [Sh.one (R.int IntKind.u8), Sh.agg (R.pair R.bool (R.pair R.bool (R.pair R.bool (R.pair R.bool (R.pair R.bool (R.pair R.bool R.bool))))))]

noncomputable def rSteppedT (c : TC) (i : Int × Int × Int × Int × Int × Int × Int × Int) (v : Int) : RT (Int × Bool × Bool × Bool × Bool × Bool × Bool × Bool) :=
  .br (i.1 == 14)
  (.leaf (rInr c.1 v c.2.1.2.2.2.2.2.2.2.1))
  (.leaf (rDcr c.1 v c.2.1.2.2.2.2.2.2.2.1))

noncomputable def rStepped (c : TC) (i : Int × Int × Int × Int × Int × Int × Int × Int) (v : Int) : Int × Bool × Bool × Bool × Bool × Bool × Bool × Bool := (rSteppedT c i v).val

noncomputable def rSteppedE : Entry := pureE rSteppedTs rSteppedRs (fun _ => none) (fun a => rStepped a.1 a.2.1 a.2.2)

theorem rStepped_ok : EntryOk Tryz.prog 113 rSteppedE :=
  pure_tot (P := Tryz.prog) (n := 255) (k := 8) (l := [(169, rInrE), (170, rDcrE)]) (ol := []) ⟨rInr_ok, rDcr_ok, trivial⟩ Tryz.func113 rfl (by kernel_rfl) Tryz.call113 trivial (ts := rSteppedTs) (rs := rSteppedRs) (t := fun a => rSteppedT a.1 a.2.1 a.2.2) (fun a => by kernel_rfl)

abbrev pFirstTs : List Sh := [Sh.one (R.int IntKind.i64), Sh.one (R.int IntKind.u8)]

abbrev pFirstRs : Rs := Rs.one (Sh.one (R.int IntKind.i64))

noncomputable def pFirstT (chip : Int) (op : Int) : RT (Int) :=
  .br ((rDecode chip op).1 == 2)
  (.br (!chip == 2 && ((rDecode chip op).2.2.1 != 6 && (rDecode chip op).2.2.2.1 != 6))
   (.leaf (5))
   (.leaf (4)))
  (.br (bif (rDecode chip op).1 == 14 then (rDecode chip op).1 == 14 else (rDecode chip op).1 == 15)
   (.br (!chip == 2 && (rDecode chip op).2.2.1 != 6)
    (.leaf (5))
    (.leaf (4)))
   (.br ((rDecode chip op).1 == 37)
    (.br (chip == 2)
     (.leaf (5))
     (.leaf (4)))
    (.br ((rDecode chip op).1 == 26)
     (.br ((rDecode chip op).2.2.2.2.2.2.1 == 11)
      (.leaf (4))
      (.br (chip == 2)
       (.leaf (6))
       (.leaf (5))))
     (.br (bif (rDecode chip op).1 == 16 then (rDecode chip op).1 == 16 else bif (rDecode chip op).1 == 17 then (rDecode chip op).1 == 17 else bif (rDecode chip op).1 == 28 then (rDecode chip op).1 == 28 else bif (rDecode chip op).1 == 29 then (rDecode chip op).1 == 29 else bif (rDecode chip op).1 == 25 then (rDecode chip op).1 == 25 else bif (rDecode chip op).1 == 27 then (rDecode chip op).1 == 27 else bif (rDecode chip op).1 == 45 then (rDecode chip op).1 == 45 else (rDecode chip op).1 == 30)
      (.br (chip == 2)
       (.leaf (6))
       (.leaf (5)))
      (.leaf (4))))))

noncomputable def pFirst (chip : Int) (op : Int) : Int := (pFirstT chip op).val

noncomputable def pFirstE : Entry := pureE pFirstTs pFirstRs (fun _ => none) (fun a => pFirst a.1 a.2)

theorem pFirst_ok : EntryOk Tryz.prog 129 pFirstE :=
  pure_tot (P := Tryz.prog) (n := 72842913792127) (k := 8) (l := [(178, pDecode1E)]) (ol := []) ⟨pDecode1_ok, trivial⟩ Tryz.func129 rfl (by kernel_rfl) Tryz.call129 trivial (ts := pFirstTs) (rs := pFirstRs) (t := fun a => pFirstT a.1 a.2) (fun a => by kernel_rfl)

abbrev rFirstTs : List Sh := [Sh.one (R.int IntKind.i64), Sh.one (R.int IntKind.u8)]

abbrev rFirstRs : Rs := Rs.one (Sh.one (R.int IntKind.i64))

noncomputable def rFirstT (chip : Int) (op : Int) : RT (Int) :=
  let x1 : Bool := bif (rDecode chip op).1 == 14 then (rDecode chip op).1 == 14 else (rDecode chip op).1 == 15
  let x2 : Bool := !(rDecode chip op).1 == 2 && (!x1 && ((bif (rDecode chip op).1 == 16 then (rDecode chip op).1 == 16 else bif (rDecode chip op).1 == 17 then (rDecode chip op).1 == 17 else bif (rDecode chip op).1 == 28 then (rDecode chip op).1 == 28 else bif (rDecode chip op).1 == 29 then (rDecode chip op).1 == 29 else bif (rDecode chip op).1 == 25 then (rDecode chip op).1 == 25 else bif (rDecode chip op).1 == 27 then (rDecode chip op).1 == 27 else bif (rDecode chip op).1 == 30 then (rDecode chip op).1 == 30 else (rDecode chip op).1 == 45) || (rDecode chip op).1 == 26 && (rDecode chip op).2.2.2.2.2.2.1 != 11))
  .br (rOn chip && x2)
  (.leaf (6))
  (.br (rOn chip && (rDecode chip op).1 == 37)
   (.leaf (5))
   (.br (!rOn chip && (x2 || bif (rDecode chip op).1 == 2 then (rDecode chip op).2.2.1 != 6 && (rDecode chip op).2.2.2.1 != 6 else x1 && (rDecode chip op).2.2.1 != 6))
    (.leaf (5))
    (.leaf (4))))

noncomputable def rFirst (chip : Int) (op : Int) : Int := (rFirstT chip op).val

noncomputable def rFirstE : Entry := pureE rFirstTs rFirstRs (fun _ => none) (fun a => rFirst a.1 a.2)

theorem rFirst_ok : EntryOk Tryz.prog 161 rFirstE :=
  pure_tot (P := Tryz.prog) (n := 144687209545474303) (k := 8) (l := [(25, rDecode1E), (68, rOnE)]) (ol := []) ⟨rDecode1_ok, rOn_ok, trivial⟩ Tryz.func161 rfl (by kernel_rfl) Tryz.call161 trivial (ts := rFirstTs) (rs := rFirstRs) (t := fun a => rFirstT a.1 a.2) (fun a => by kernel_rfl)
end
end Go.Proofs.YteboknglfjadoaaGreat
