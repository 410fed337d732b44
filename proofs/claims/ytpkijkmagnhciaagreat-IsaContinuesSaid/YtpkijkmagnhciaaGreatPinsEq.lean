/-
  The pins of a state: the program's are the reference's. Conditions: none.
-/
import Derived.Test.YtpkijkmagnhciaaGreatS3D
import Derived.Test.YtpkijkmagnhciaaGreatProg
set_option linter.unusedSimpArgs false
open Go Go.S3 Go.Proofs
set_option linter.unusedVariables false
set_option maxRecDepth 100000
namespace Go.Proofs.YtpkijkmagnhciaaGreat
noncomputable section
abbrev pParityTs : List Sh := [Sh.one (R.int IntKind.u8)]
abbrev pParityRs : Rs := Rs.one (Sh.one R.bool)
def pParityT (b : Int) : RT (Option (Bool)) :=
  let x1 : Int := andI IntKind.u8 (andI IntKind.u8 b (IntKind.u8.wrap (b - 1))) (IntKind.u8.wrap (andI IntKind.u8 b (IntKind.u8.wrap (b - 1)) - 1))
  let x2 : Bool := !x1 != 0
  let x3 : Int := andI IntKind.u8 x1 (IntKind.u8.wrap (x1 - 1))
  let x4 : Bool := x3 != 0
  let x5 : Int := andI IntKind.u8 x3 (IntKind.u8.wrap (x3 - 1))
  let x6 : Bool := !x5 != 0
  let x7 : Int := andI IntKind.u8 x5 (IntKind.u8.wrap (x5 - 1))
  let x8 : Bool := x7 != 0
  let x9 : Int := andI IntKind.u8 x7 (IntKind.u8.wrap (x7 - 1))
  let x10 : Bool := !x9 != 0
  let x11 : Int := andI IntKind.u8 x9 (IntKind.u8.wrap (x9 - 1))
  let x12 : Bool := x11 != 0
  let x13 : Int := andI IntKind.u8 x11 (IntKind.u8.wrap (x11 - 1))
  let x14 : Bool := !x13 != 0
  .br (!b != 0 || (!andI IntKind.u8 b (IntKind.u8.wrap (b - 1)) != 0 || (x2 || (!x4 || (x6 || (!x8 || (x10 || (!x12 || (x14 || !andI IntKind.u8 x13 (IntKind.u8.wrap (x13 - 1)) != 0)))))))))
  (.leaf (some (!b != 0 || andI IntKind.u8 b (IntKind.u8.wrap (b - 1)) != 0 && (x2 || x4 && (x6 || x8 && (x10 || x12 && x14))))))
  (.leaf none)
def pParity (b : Int) : Bool := getO pParityRs.dflt (pParityT b).val
def pParityC (b : Int) : Bool := okB (pParityT b).val
def pParityE : Entry := pureE pParityTs pParityRs (fun a => some (pParityC a)) (fun a => pParity a)
theorem pParity_ok : EntryOk Tryz.prog 305 pParityE :=
  pure_part (P := Tryz.prog) (n := 15) (k := 10) (l := []) (ol := []) trivial Tryz.func305 rfl (by kernel_rfl) Tryz.call305 trivial (ts := pParityTs) (rs := pParityRs) (t := fun a => pParityT a) (fun a => by kernel_rfl)
abbrev pMajTs : List Sh := [Sh.one R.bool, Sh.one R.bool, Sh.one R.bool]
abbrev pMajRs : Rs := Rs.one (Sh.one R.bool)
def pMajT (a : Bool) (b : Bool) (c : Bool) : RT (Bool) :=
  .leaf (bif a then b || bif a then c || b && c else b && c else bif a then c || b && c else b && c)
def pMaj (a : Bool) (b : Bool) (c : Bool) : Bool := (pMajT a b c).val
def pMajE : Entry := pureE pMajTs pMajRs (fun _ => none) (fun a => pMaj a.1 a.2.1 a.2.2)
theorem pMaj_ok : EntryOk Tryz.prog 289 pMajE :=
  pure_tot (P := Tryz.prog) (n := 127) (k := 8) (l := []) (ol := []) trivial Tryz.func289 rfl (by kernel_rfl) Tryz.call289 trivial (ts := pMajTs) (rs := pMajRs) (t := fun a => pMajT a.1 a.2.1 a.2.2) (fun a => by kernel_rfl)
abbrev pOneTs : List Sh := [Sh.one R.bool]
abbrev pOneRs : Rs := Rs.one (Sh.one (R.int IntKind.i64))
def pOneT (b : Bool) : RT (Int) :=
  .br (b)
  (.leaf (1))
  (.leaf (0))
def pOne (b : Bool) : Int := (pOneT b).val
def pOneE : Entry := pureE pOneTs pOneRs (fun _ => none) (fun a => pOne a)
theorem pOne_ok : EntryOk Tryz.prog 301 pOneE :=
  pure_tot (P := Tryz.prog) (n := 7) (k := 8) (l := []) (ol := []) trivial Tryz.func301 rfl (by kernel_rfl) Tryz.call301 trivial (ts := pOneTs) (rs := pOneRs) (t := fun a => pOneT a) (fun a => by kernel_rfl)
abbrev pSignedTs : List Sh := [Sh.one (R.int IntKind.i64)]
abbrev pSignedRs : Rs := Rs.one (Sh.one R.bool)
def pSignedT (n : Int) : RT (Bool) :=
  .leaf (decide (n < -128) || decide (n > 127))
def pSigned (n : Int) : Bool := (pSignedT n).val
def pSignedE : Entry := pureE pSignedTs pSignedRs (fun _ => none) (fun a => pSigned a)
theorem pSigned_ok : EntryOk Tryz.prog 302 pSignedE :=
  pure_tot (P := Tryz.prog) (n := 7) (k := 8) (l := []) (ol := []) trivial Tryz.func302 rfl (by kernel_rfl) Tryz.call302 trivial (ts := pSignedTs) (rs := pSignedRs) (t := fun a => pSignedT a) (fun a => by kernel_rfl)
abbrev pSumTs : List Sh := [Sh.one (R.int IntKind.u8), Sh.one (R.int IntKind.u8), Sh.one R.bool]
abbrev pSumRs : Rs := Rs.tup [Sh.one (R.int IntKind.u8), Sh.one R.bool, Sh.one R.bool, Sh.one R.bool]
def pSumT (a : Int) (b : Int) (c : Bool) : RT (Int × Bool × Bool × Bool) :=
  let x1 : Int := IntKind.i64.wrap (IntKind.i64.wrap (IntKind.i64.wrap a + IntKind.i64.wrap b) + pOne c)
  .leaf ((IntKind.u8.wrap x1, decide (x1 > 255), decide (IntKind.i64.wrap (IntKind.i64.wrap (IntKind.i64.wrap (andI IntKind.u8 a 15) + IntKind.i64.wrap (andI IntKind.u8 b 15)) + pOne c) > 15), pSigned (IntKind.i64.wrap (IntKind.i64.wrap (IntKind.i64.wrap (IntKind.i8.wrap a) + IntKind.i64.wrap (IntKind.i8.wrap b)) + pOne c))))
def pSum (a : Int) (b : Int) (c : Bool) : Int × Bool × Bool × Bool := (pSumT a b c).val
def pSumE : Entry := pureE pSumTs pSumRs (fun _ => none) (fun a => pSum a.1 a.2.1 a.2.2)
theorem pSum_ok : EntryOk Tryz.prog 281 pSumE :=
  pure_tot (P := Tryz.prog) (n := 4095) (k := 8) (l := [(301, pOneE), (302, pSignedE)]) (ol := []) ⟨pOne_ok, pSigned_ok, trivial⟩ Tryz.func281 rfl (by kernel_rfl) Tryz.call281 trivial (ts := pSumTs) (rs := pSumRs) (t := fun a => pSumT a.1 a.2.1 a.2.2) (fun a => by kernel_rfl)
abbrev pDiffTs : List Sh := [Sh.one (R.int IntKind.u8), Sh.one (R.int IntKind.u8), Sh.one R.bool]
abbrev pDiffRs : Rs := Rs.tup [Sh.one (R.int IntKind.u8), Sh.one R.bool, Sh.one R.bool, Sh.one R.bool]
def pDiffT (a : Int) (b : Int) (c : Bool) : RT (Int × Bool × Bool × Bool) :=
  let x1 : Int := IntKind.i64.wrap (IntKind.i64.wrap (IntKind.i64.wrap a - IntKind.i64.wrap b) - pOne c)
  .leaf ((IntKind.u8.wrap x1, decide (x1 < 0), decide (IntKind.i64.wrap (IntKind.i64.wrap (IntKind.i64.wrap (IntKind.i64.wrap (IntKind.i64.wrap (andI IntKind.u8 a 15) + 15) - IntKind.i64.wrap (andI IntKind.u8 b 15)) + 1) - pOne c) > 15), pSigned (IntKind.i64.wrap (IntKind.i64.wrap (IntKind.i64.wrap (IntKind.i8.wrap a) - IntKind.i64.wrap (IntKind.i8.wrap b)) - pOne c))))
def pDiff (a : Int) (b : Int) (c : Bool) : Int × Bool × Bool × Bool := (pDiffT a b c).val
def pDiffE : Entry := pureE pDiffTs pDiffRs (fun _ => none) (fun a => pDiff a.1 a.2.1 a.2.2)
theorem pDiff_ok : EntryOk Tryz.prog 283 pDiffE :=
  pure_tot (P := Tryz.prog) (n := 4095) (k := 8) (l := [(301, pOneE), (302, pSignedE)]) (ol := []) ⟨pOne_ok, pSigned_ok, trivial⟩ Tryz.func283 rfl (by kernel_rfl) Tryz.call283 trivial (ts := pDiffTs) (rs := pDiffRs) (t := fun a => pDiffT a.1 a.2.1 a.2.2) (fun a => by kernel_rfl)
abbrev pJoinTs : List Sh := [Sh.one (R.int IntKind.u8), Sh.one (R.int IntKind.u8)]
abbrev pJoinRs : Rs := Rs.one (Sh.one (R.int IntKind.u16))
def pJoinT (h : Int) (l : Int) : RT (Int) :=
  .leaf (orI IntKind.u16 (shlI IntKind.u16 (IntKind.u16.wrap h) 8) (IntKind.u16.wrap l))
def pJoin (h : Int) (l : Int) : Int := (pJoinT h l).val
def pJoinE : Entry := pureE pJoinTs pJoinRs (fun _ => none) (fun a => pJoin a.1 a.2)
theorem pJoin_ok : EntryOk Tryz.prog 207 pJoinE :=
  pure_tot (P := Tryz.prog) (n := 31) (k := 8) (l := []) (ol := []) trivial Tryz.func207 rfl (by kernel_rfl) Tryz.call207 trivial (ts := pJoinTs) (rs := pJoinRs) (t := fun a => pJoinT a.1 a.2) (fun a => by kernel_rfl)
abbrev pBitTs : List Sh := [Sh.one R.bool, Sh.one (R.int IntKind.i64)]
abbrev pBitRs : Rs := Rs.one (Sh.one (R.int IntKind.u8))
def pBitT (b : Bool) (n : Int) : RT (Option (Int)) :=
  .br (!b || decide (0 ≤ n))
  (.br (b)
   (.leaf (some (shlI IntKind.u8 1 n)))
   (.leaf (some (0))))
  (.leaf none)
def pBit (b : Bool) (n : Int) : Int := getO pBitRs.dflt (pBitT b n).val
def pBitC (b : Bool) (n : Int) : Bool := okB (pBitT b n).val
def pBitE : Entry := pureE pBitTs pBitRs (fun a => some (pBitC a.1 a.2)) (fun a => pBit a.1 a.2)
theorem pBit_ok : EntryOk Tryz.prog 303 pBitE :=
  pure_part (P := Tryz.prog) (n := 31) (k := 8) (l := []) (ol := []) trivial Tryz.func303 rfl (by kernel_rfl) Tryz.call303 trivial (ts := pBitTs) (rs := pBitRs) (t := fun a => pBitT a.1 a.2) (fun a => by kernel_rfl)
abbrev pPackTs : List Sh := [Sh.one (R.int IntKind.i64), Sh.agg rcF7]
abbrev pPackRs : Rs := Rs.one (Sh.one (R.int IntKind.u8))
def pPackT (chip : Int) (f : TF) : RT (Option (Int)) :=
  let x1 : Int := orI IntKind.u8 (orI IntKind.u8 (orI IntKind.u8 (orI IntKind.u8 (pBit f.1 7) (pBit f.2.1 6)) (pBit f.2.2.2.1 4)) (pBit f.2.2.2.2.1 2)) (pBit f.2.2.2.2.2.2 0)
  .br (!pBitC f.1 7 || (!pBitC f.2.1 6 || (!pBitC f.2.2.2.1 4 || (!pBitC f.2.2.2.2.1 2 || pBitC f.2.2.2.2.2.2 0))))
  (.br (!pBitC f.1 7 || (!pBitC f.2.1 6 || (!pBitC f.2.2.2.1 4 || pBitC f.2.2.2.2.1 2)))
   (.br (!pBitC f.1 7 || (!pBitC f.2.1 6 || pBitC f.2.2.2.1 4))
    (.br (!pBitC f.1 7 || pBitC f.2.1 6)
     (.br (pBitC f.1 7)
      (.br (!chip == 2 || (!pBitC f.2.2.1 5 || pBitC f.2.2.2.2.2.1 1))
       (.br (!chip == 2 || pBitC f.2.2.1 5)
        (.br (chip == 2)
         (.leaf (some (orI IntKind.u8 (orI IntKind.u8 x1 (pBit f.2.2.1 5)) (pBit f.2.2.2.2.2.1 1))))
         (.leaf (some (orI IntKind.u8 x1 2))))
        (.leaf none))
       (.leaf none))
      (.leaf none))
     (.leaf none))
    (.leaf none))
   (.leaf none))
  (.leaf none)
def pPack (chip : Int) (f : TF) : Int := getO pPackRs.dflt (pPackT chip f).val
def pPackC (chip : Int) (f : TF) : Bool := okB (pPackT chip f).val
def pPackE : Entry := pureE pPackTs pPackRs (fun a => some (pPackC a.1 a.2)) (fun a => pPack a.1 a.2)
theorem pPack_ok : EntryOk Tryz.prog 285 pPackE :=
  pure_part (P := Tryz.prog) (n := 63) (k := 8) (l := [(303, pBitE)]) (ol := []) ⟨pBit_ok, trivial⟩ Tryz.func285 rfl (by kernel_rfl) Tryz.call285 trivial (ts := pPackTs) (rs := pPackRs) (t := fun a => pPackT a.1 a.2) (fun a => by kernel_rfl)
abbrev pUnpackTs : List Sh := [Sh.one (R.int IntKind.i64), Sh.one (R.int IntKind.u8)]
abbrev pUnpackRs : Rs := Rs.one (Sh.agg rcF7)
def pUnpackT (chip : Int) (b : Int) : RT TF :=
  .leaf ((andI IntKind.u8 b 128 != 0, andI IntKind.u8 b 64 != 0, chip == 2 && andI IntKind.u8 b 32 != 0, andI IntKind.u8 b 16 != 0, andI IntKind.u8 b 4 != 0, chip == 2 && andI IntKind.u8 b 2 != 0, andI IntKind.u8 b 1 != 0))
def pUnpack (chip : Int) (b : Int) : TF := (pUnpackT chip b).val
def pUnpackE : Entry := pureE pUnpackTs pUnpackRs (fun _ => none) (fun a => pUnpack a.1 a.2)
theorem pUnpack_ok : EntryOk Tryz.prog 295 pUnpackE :=
  pure_tot (P := Tryz.prog) (n := 63) (k := 8) (l := []) (ol := []) trivial Tryz.func295 rfl (by kernel_rfl) Tryz.call295 trivial (ts := pUnpackTs) (rs := pUnpackRs) (t := fun a => pUnpackT a.1 a.2) (fun a => by kernel_rfl)
abbrev pOfTs : List Sh := [Sh.one (R.int IntKind.u8)]
abbrev pOfRs : Rs := Rs.one (Sh.agg rcF7)
def pOfT (r : Int) : RT (Option TF) :=
  .br (pParityC r)
  (.leaf (some ((decide (r ≥ 128), r == 0, false, false, pParity r, false, false))))
  (.leaf none)
def pOf (r : Int) : TF := getO pOfRs.dflt (pOfT r).val
def pOfC (r : Int) : Bool := okB (pOfT r).val
def pOfE : Entry := pureE pOfTs pOfRs (fun a => some (pOfC a)) (fun a => pOf a)
theorem pOf_ok : EntryOk Tryz.prog 288 pOfE :=
  pure_part (P := Tryz.prog) (n := 7) (k := 8) (l := [(305, pParityE)]) (ol := []) ⟨pParity_ok, trivial⟩ Tryz.func288 rfl (by kernel_rfl) Tryz.call288 trivial (ts := pOfTs) (rs := pOfRs) (t := fun a => pOfT a) (fun a => by kernel_rfl)
def iregs_atE : Entry := .tree (evFunc (envX Tryz.prog [] [] 141872468127 8) Tryz.f280)
theorem iregs_at_ok : EntryOk Tryz.prog 280 iregs_atE := inl_ok (P := Tryz.prog) (n := 141872468127) (k := 8) (l := []) (ol := []) trivial Tryz.func280 rfl (by kernel_rfl) Tryz.call280 trivial
abbrev pGetTs : List Sh := [Sh.agg rcREG, Sh.one (R.int IntKind.i64)]
abbrev pGetRs : Rs := Rs.one (Sh.one (R.int IntKind.u8))
def pGetT (r : TR) (n : Int) : RT (Int) :=
  .br (andI IntKind.i64 n 7 == 0)
  (.leaf r.2.1)
  (.br (andI IntKind.i64 n 7 == 1)
   (.leaf r.2.2.1)
   (.br (andI IntKind.i64 n 7 == 2)
    (.leaf r.2.2.2.1)
    (.br (andI IntKind.i64 n 7 == 3)
     (.leaf r.2.2.2.2.1)
     (.br (andI IntKind.i64 n 7 == 4)
      (.leaf r.2.2.2.2.2.1)
      (.br (andI IntKind.i64 n 7 == 5)
       (.leaf r.2.2.2.2.2.2.1)
       (.br (andI IntKind.i64 n 7 == 7)
        (.leaf r.1)
        (.leaf (0))))))))
def pGet (r : TR) (n : Int) : Int := (pGetT r n).val
def pGetE : Entry := pureE pGetTs pGetRs (fun _ => none) (fun a => pGet a.1 a.2)
theorem pGet_ok : EntryOk Tryz.prog 245 pGetE :=
  pure_tot (P := Tryz.prog) (n := 63) (k := 8) (l := [(280, iregs_atE)]) (ol := []) ⟨iregs_at_ok, trivial⟩ Tryz.func245 rfl (by kernel_rfl) Tryz.call245 trivial (ts := pGetTs) (rs := pGetRs) (t := fun a => pGetT a.1 a.2) (fun a => by kernel_rfl)
abbrev pSetTs : List Sh := [Sh.agg rcREG, Sh.one (R.int IntKind.i64), Sh.one (R.int IntKind.u8)]
abbrev pSetRs : Rs := Rs.one (Sh.agg rcREG)
def pSetT (r : TR) (n : Int) (v : Int) : RT TR :=
  .br (andI IntKind.i64 n 7 == 0)
  (.leaf ((r.1, v, r.2.2)))
  (.br (andI IntKind.i64 n 7 == 1)
   (.leaf ((r.1, r.2.1, v, r.2.2.2)))
   (.br (andI IntKind.i64 n 7 == 2)
    (.leaf ((r.1, r.2.1, r.2.2.1, v, r.2.2.2.2)))
    (.br (andI IntKind.i64 n 7 == 3)
     (.leaf ((r.1, r.2.1, r.2.2.1, r.2.2.2.1, v, r.2.2.2.2.2)))
     (.br (andI IntKind.i64 n 7 == 4)
      (.leaf ((r.1, r.2.1, r.2.2.1, r.2.2.2.1, r.2.2.2.2.1, v, r.2.2.2.2.2.2)))
      (.br (andI IntKind.i64 n 7 == 5)
       (.leaf ((r.1, r.2.1, r.2.2.1, r.2.2.2.1, r.2.2.2.2.1, r.2.2.2.2.2.1, v, r.2.2.2.2.2.2.2)))
       (.br (andI IntKind.i64 n 7 == 7)
        (.leaf ((v, r.2)))
        (.leaf (r))))))))
def pSet (r : TR) (n : Int) (v : Int) : TR := (pSetT r n v).val
def pSetE : Entry := pureE pSetTs pSetRs (fun _ => none) (fun a => pSet a.1 a.2.1 a.2.2)
theorem pSet_ok : EntryOk Tryz.prog 256 pSetE :=
  pure_tot (P := Tryz.prog) (n := 255) (k := 8) (l := [(280, iregs_atE)]) (ol := []) ⟨iregs_at_ok, trivial⟩ Tryz.func256 rfl (by kernel_rfl) Tryz.call256 trivial (ts := pSetTs) (rs := pSetRs) (t := fun a => pSetT a.1 a.2.1 a.2.2) (fun a => by kernel_rfl)
abbrev pPairTs : List Sh := [Sh.agg rcREG, Sh.one (R.int IntKind.i64)]
abbrev pPairRs : Rs := Rs.one (Sh.one (R.int IntKind.u16))
def pPairT (r : TR) (n : Int) : RT (Int) :=
  .br (andI IntKind.i64 n 3 == 3)
  (.leaf r.2.2.2.2.2.2.2.2.1)
  (.leaf (pJoin (pGet r (IntKind.i64.wrap (2 * andI IntKind.i64 n 3))) (pGet r (IntKind.i64.wrap (IntKind.i64.wrap (2 * andI IntKind.i64 n 3) + 1)))))
def pPair (r : TR) (n : Int) : Int := (pPairT r n).val
def pPairE : Entry := pureE pPairTs pPairRs (fun _ => none) (fun a => pPair a.1 a.2)
theorem pPair_ok : EntryOk Tryz.prog 244 pPairE :=
  pure_tot (P := Tryz.prog) (n := 31) (k := 8) (l := [(207, pJoinE), (245, pGetE)]) (ol := []) ⟨pJoin_ok, pGet_ok, trivial⟩ Tryz.func244 rfl (by kernel_rfl) Tryz.call244 trivial (ts := pPairTs) (rs := pPairRs) (t := fun a => pPairT a.1 a.2) (fun a => by kernel_rfl)
abbrev pSetPairTs : List Sh := [Sh.agg rcREG, Sh.one (R.int IntKind.i64), Sh.one (R.int IntKind.u16)]
abbrev pSetPairRs : Rs := Rs.one (Sh.agg rcREG)
def pSetPairT (r : TR) (n : Int) (v : Int) : RT TR :=
  .br (andI IntKind.i64 n 3 == 3)
  (.leaf ((r.1, r.2.1, r.2.2.1, r.2.2.2.1, r.2.2.2.2.1, r.2.2.2.2.2.1, r.2.2.2.2.2.2.1, r.2.2.2.2.2.2.2.1, v, r.2.2.2.2.2.2.2.2.2)))
  (.leaf (pSet (pSet r (IntKind.i64.wrap (2 * andI IntKind.i64 n 3)) (IntKind.u8.wrap (shrI IntKind.u16 v 8))) (IntKind.i64.wrap (IntKind.i64.wrap (2 * andI IntKind.i64 n 3) + 1)) (IntKind.u8.wrap v)))
def pSetPair (r : TR) (n : Int) (v : Int) : TR := (pSetPairT r n v).val
def pSetPairE : Entry := pureE pSetPairTs pSetPairRs (fun _ => none) (fun a => pSetPair a.1 a.2.1 a.2.2)
theorem pSetPair_ok : EntryOk Tryz.prog 257 pSetPairE :=
  pure_tot (P := Tryz.prog) (n := 127) (k := 8) (l := [(256, pSetE)]) (ol := []) ⟨pSet_ok, trivial⟩ Tryz.func257 rfl (by kernel_rfl) Tryz.call257 trivial (ts := pSetPairTs) (rs := pSetPairRs) (t := fun a => pSetPairT a.1 a.2.1 a.2.2) (fun a => by kernel_rfl)
abbrev pPSWTs : List Sh := [Sh.one (R.int IntKind.i64), Sh.agg rcREG]
abbrev pPSWRs : Rs := Rs.one (Sh.one (R.int IntKind.u16))
def pPSWT (chip : Int) (r : TR) : RT (Option (Int)) :=
  .br (pPackC chip r.2.2.2.2.2.2.2.1)
  (.leaf (some (pJoin r.1 (pPack chip r.2.2.2.2.2.2.2.1))))
  (.leaf none)
def pPSW (chip : Int) (r : TR) : Int := getO pPSWRs.dflt (pPSWT chip r).val
def pPSWC (chip : Int) (r : TR) : Bool := okB (pPSWT chip r).val
def pPSWE : Entry := pureE pPSWTs pPSWRs (fun a => some (pPSWC a.1 a.2)) (fun a => pPSW a.1 a.2)
theorem pPSW_ok : EntryOk Tryz.prog 252 pPSWE :=
  pure_part (P := Tryz.prog) (n := 31) (k := 8) (l := [(207, pJoinE), (285, pPackE)]) (ol := []) ⟨pJoin_ok, pPack_ok, trivial⟩ Tryz.func252 rfl (by kernel_rfl) Tryz.call252 trivial (ts := pPSWTs) (rs := pPSWRs) (t := fun a => pPSWT a.1 a.2) (fun a => by kernel_rfl)
abbrev pSetPSWTs : List Sh := [Sh.one (R.int IntKind.i64), Sh.agg rcREG, Sh.one (R.int IntKind.u16)]
abbrev pSetPSWRs : Rs := Rs.one (Sh.agg rcREG)
def pSetPSWT (chip : Int) (r : TR) (v : Int) : RT TR :=
  .leaf ((IntKind.u8.wrap (shrI IntKind.u16 v 8), r.2.1, r.2.2.1, r.2.2.2.1, r.2.2.2.2.1, r.2.2.2.2.2.1, r.2.2.2.2.2.2.1, pUnpack chip (IntKind.u8.wrap v), r.2.2.2.2.2.2.2.2))
def pSetPSW (chip : Int) (r : TR) (v : Int) : TR := (pSetPSWT chip r v).val
def pSetPSWE : Entry := pureE pSetPSWTs pSetPSWRs (fun _ => none) (fun a => pSetPSW a.1 a.2.1 a.2.2)
theorem pSetPSW_ok : EntryOk Tryz.prog 265 pSetPSWE :=
  pure_tot (P := Tryz.prog) (n := 127) (k := 8) (l := [(295, pUnpackE)]) (ol := []) ⟨pUnpack_ok, trivial⟩ Tryz.func265 rfl (by kernel_rfl) Tryz.call265 trivial (ts := pSetPSWTs) (rs := pSetPSWRs) (t := fun a => pSetPSWT a.1 a.2.1 a.2.2) (fun a => by kernel_rfl)
abbrev pLogicTs : List Sh := [Sh.one (R.int IntKind.i64), Sh.one (R.int IntKind.i64), Sh.one (R.int IntKind.u8), Sh.one (R.int IntKind.u8)]
abbrev pLogicRs : Rs := Rs.tup [Sh.one (R.int IntKind.u8), Sh.agg rcF7]
def pLogicT (chip : Int) (op : Int) (a : Int) (b : Int) : RT (Option (Int × Bool × Bool × Bool × Bool × Bool × Bool × Bool)) :=
  let x1 : Int := bif op == 4 then andI IntKind.u8 a b else bif op == 5 then xorI IntKind.u8 a b else bif op == 6 then orI IntKind.u8 a b else 0
  let x2 : TF := pOf x1
  let x3 : Bool × Bool × Bool × Bool × Bool × Bool := x2.2
  let x4 : Bool × Bool × Bool × Bool × Bool := x3.2
  .br (pOfC x1)
  (.leaf (some ((x1, x2.1, x3.1, bif chip == 2 then pMaj (decide (a ≥ 128)) (decide (b ≥ 128)) (decide (x1 ≥ 128)) else x4.1, op == 4 && (chip == 2 || andI IntKind.u8 (orI IntKind.u8 a b) 8 != 0), x4.2.2))))
  (.leaf none)
def pLogic (chip : Int) (op : Int) (a : Int) (b : Int) : Int × Bool × Bool × Bool × Bool × Bool × Bool × Bool := getO pLogicRs.dflt (pLogicT chip op a b).val
def pLogicC (chip : Int) (op : Int) (a : Int) (b : Int) : Bool := okB (pLogicT chip op a b).val
def pLogicE : Entry := pureE pLogicTs pLogicRs (fun a => some (pLogicC a.1 a.2.1 a.2.2.1 a.2.2.2)) (fun a => pLogic a.1 a.2.1 a.2.2.1 a.2.2.2)
theorem pLogic_ok : EntryOk Tryz.prog 287 pLogicE :=
  pure_part (P := Tryz.prog) (n := 8858394623) (k := 8) (l := [(288, pOfE), (289, pMajE)]) (ol := []) ⟨pOf_ok, pMaj_ok, trivial⟩ Tryz.func287 rfl (by kernel_rfl) Tryz.call287 trivial (ts := pLogicTs) (rs := pLogicRs) (t := fun a => pLogicT a.1 a.2.1 a.2.2.1 a.2.2.2) (fun a => by kernel_rfl)
abbrev pDoTs : List Sh := [Sh.one (R.int IntKind.i64), Sh.one (R.int IntKind.i64), Sh.one (R.int IntKind.u8), Sh.one (R.int IntKind.u8), Sh.agg rcF7]
abbrev pDoRs : Rs := Rs.tup [Sh.one (R.int IntKind.u8), Sh.agg rcF7]
def pDoT (chip : Int) (op : Int) (a : Int) (b : Int) (f : TF) : RT (Option (Int × Bool × Bool × Bool × Bool × Bool × Bool × Bool)) :=
  let x1 : Bool := decide (andI IntKind.i64 op 7 ≥ 4) && decide (andI IntKind.i64 op 7 ≤ 6)
  let x2 : Bool := f.2.2.2.2.2.2 && (andI IntKind.i64 op 7 == 1 || andI IntKind.i64 op 7 == 3)
  let x3 : Int × Bool × Bool × Bool := pDiff a b x2
  let x4 : Int := x3.1
  let x5 : TF := pOf x4
  let x6 : Bool × Bool × Bool × Bool × Bool × Bool := x5.2
  let x7 : Bool × Bool × Bool × Bool × Bool := x6.2
  let x8 : Bool × Bool × Bool := x3.2
  let x9 : Bool × Bool := x8.2
  let x10 : Bool × Bool × Bool := x7.2.2
  let x11 : TF := (x5.1, x6.1, bif chip == 2 then pMaj (decide (a ≥ 128)) (decide (b < 128)) (decide (x4 ≥ 128)) else x7.1, x9.1, x10.1, bif chip == 2 then x9.2 else x10.2.1, x8.1)
  let x12 : Int × Bool × Bool × Bool := pSum a b x2
  let x13 : Int := x12.1
  let x14 : TF := pOf x13
  let x15 : Bool × Bool × Bool × Bool × Bool × Bool := x14.2
  let x16 : Bool × Bool × Bool × Bool × Bool := x15.2
  let x17 : Bool × Bool × Bool := x12.2
  let x18 : Bool × Bool := x17.2
  let x19 : Bool × Bool × Bool := x16.2.2
  let x20 : TF := (x14.1, x15.1, bif chip == 2 then pMaj (decide (a ≥ 128)) (decide (b ≥ 128)) (decide (x13 ≥ 128)) else x16.1, x18.1, x19.1, bif chip == 2 then x18.2 else x19.2.1, x17.1)
  .br (!x1 || pLogicC chip (andI IntKind.i64 op 7) a b)
  (.br (x1)
   (.leaf (some (pLogic chip (andI IntKind.i64 op 7) a b)))
   (.br (andI IntKind.i64 op 7 != 0 && andI IntKind.i64 op 7 != 1)
    (.br (pOfC x4)
     (.br (andI IntKind.i64 op 7 == 7)
      (.leaf (some ((a, x11))))
      (.leaf (some ((x4, x11)))))
     (.leaf none))
    (.br (pOfC x13)
     (.br (andI IntKind.i64 op 7 == 7)
      (.leaf (some ((a, x20))))
      (.leaf (some ((x13, x20)))))
     (.leaf none))))
  (.leaf none)
def pDo (chip : Int) (op : Int) (a : Int) (b : Int) (f : TF) : Int × Bool × Bool × Bool × Bool × Bool × Bool × Bool := getO pDoRs.dflt (pDoT chip op a b f).val
def pDoC (chip : Int) (op : Int) (a : Int) (b : Int) (f : TF) : Bool := okB (pDoT chip op a b f).val
def pDoE : Entry := pureE pDoTs pDoRs (fun a => some (pDoC a.1 a.2.1 a.2.2.1 a.2.2.2.1 a.2.2.2.2)) (fun a => pDo a.1 a.2.1 a.2.2.1 a.2.2.2.1 a.2.2.2.2)
theorem pDo_ok : EntryOk Tryz.prog 258 pDoE :=
  pure_part (P := Tryz.prog) (n := 1048575) (k := 8) (l := [(281, pSumE), (283, pDiffE), (287, pLogicE), (288, pOfE), (289, pMajE)]) (ol := []) ⟨pSum_ok, pDiff_ok, pLogic_ok, pOf_ok, pMaj_ok, trivial⟩ Tryz.func258 rfl (by kernel_rfl) Tryz.call258 trivial (ts := pDoTs) (rs := pDoRs) (t := fun a => pDoT a.1 a.2.1 a.2.2.1 a.2.2.2.1 a.2.2.2.2) (fun a => by kernel_rfl)
abbrev pResultTs : List Sh := [Sh.one (R.int IntKind.i64), Sh.one (R.int IntKind.u8), Sh.one (R.int IntKind.u8), Sh.one R.bool, Sh.one R.bool, Sh.one R.bool, Sh.agg rcF7]
abbrev pResultRs : Rs := Rs.one (Sh.agg rcF7)
def pResultT (chip : Int) (v : Int) (r : Int) (half : Bool) (over : Bool) (x : Bool) (f : TF) : RT (Option TF) :=
  .br (pOfC r)
  (.leaf (some (((pOf r).1, (pOf r).2.1, bif chip == 2 then pMaj (decide (v ≥ 128)) x (decide (r ≥ 128)) else (pOf r).2.2.1, half, (pOf r).2.2.2.2.1, bif chip == 2 then over else (pOf r).2.2.2.2.2.1, f.2.2.2.2.2.2))))
  (.leaf none)
def pResult (chip : Int) (v : Int) (r : Int) (half : Bool) (over : Bool) (x : Bool) (f : TF) : TF := getO pResultRs.dflt (pResultT chip v r half over x f).val
def pResultC (chip : Int) (v : Int) (r : Int) (half : Bool) (over : Bool) (x : Bool) (f : TF) : Bool := okB (pResultT chip v r half over x f).val
def pResultE : Entry := pureE pResultTs pResultRs (fun a => some (pResultC a.1 a.2.1 a.2.2.1 a.2.2.2.1 a.2.2.2.2.1 a.2.2.2.2.2.1 a.2.2.2.2.2.2)) (fun a => pResult a.1 a.2.1 a.2.2.1 a.2.2.2.1 a.2.2.2.2.1 a.2.2.2.2.2.1 a.2.2.2.2.2.2)
theorem pResult_ok : EntryOk Tryz.prog 282 pResultE :=
  pure_part (P := Tryz.prog) (n := 65535) (k := 8) (l := [(288, pOfE), (289, pMajE)]) (ol := []) ⟨pOf_ok, pMaj_ok, trivial⟩ Tryz.func282 rfl (by kernel_rfl) Tryz.call282 trivial (ts := pResultTs) (rs := pResultRs) (t := fun a => pResultT a.1 a.2.1 a.2.2.1 a.2.2.2.1 a.2.2.2.2.1 a.2.2.2.2.2.1 a.2.2.2.2.2.2) (fun a => by kernel_rfl)
abbrev pInrTs : List Sh := [Sh.one (R.int IntKind.i64), Sh.one (R.int IntKind.u8), Sh.agg rcF7]
abbrev pInrRs : Rs := Rs.tup [Sh.one (R.int IntKind.u8), Sh.agg rcF7]
def pInrT (chip : Int) (v : Int) (f : TF) : RT (Option (Int × Bool × Bool × Bool × Bool × Bool × Bool × Bool)) :=
  .br (pResultC chip v (pSum v 1 false).1 (pSum v 1 false).2.2.1 (pSum v 1 false).2.2.2 false f)
  (.leaf (some (((pSum v 1 false).1, pResult chip v (pSum v 1 false).1 (pSum v 1 false).2.2.1 (pSum v 1 false).2.2.2 false f))))
  (.leaf none)
def pInr (chip : Int) (v : Int) (f : TF) : Int × Bool × Bool × Bool × Bool × Bool × Bool × Bool := getO pInrRs.dflt (pInrT chip v f).val
def pInrC (chip : Int) (v : Int) (f : TF) : Bool := okB (pInrT chip v f).val
def pInrE : Entry := pureE pInrTs pInrRs (fun a => some (pInrC a.1 a.2.1 a.2.2)) (fun a => pInr a.1 a.2.1 a.2.2)
theorem pInr_ok : EntryOk Tryz.prog 246 pInrE :=
  pure_part (P := Tryz.prog) (n := 4095) (k := 8) (l := [(281, pSumE), (282, pResultE)]) (ol := []) ⟨pSum_ok, pResult_ok, trivial⟩ Tryz.func246 rfl (by kernel_rfl) Tryz.call246 trivial (ts := pInrTs) (rs := pInrRs) (t := fun a => pInrT a.1 a.2.1 a.2.2) (fun a => by kernel_rfl)
abbrev pDcrTs : List Sh := [Sh.one (R.int IntKind.i64), Sh.one (R.int IntKind.u8), Sh.agg rcF7]
abbrev pDcrRs : Rs := Rs.tup [Sh.one (R.int IntKind.u8), Sh.agg rcF7]
def pDcrT (chip : Int) (v : Int) (f : TF) : RT (Option (Int × Bool × Bool × Bool × Bool × Bool × Bool × Bool)) :=
  .br (pResultC chip v (pDiff v 1 false).1 (pDiff v 1 false).2.2.1 (pDiff v 1 false).2.2.2 true f)
  (.leaf (some (((pDiff v 1 false).1, pResult chip v (pDiff v 1 false).1 (pDiff v 1 false).2.2.1 (pDiff v 1 false).2.2.2 true f))))
  (.leaf none)
def pDcr (chip : Int) (v : Int) (f : TF) : Int × Bool × Bool × Bool × Bool × Bool × Bool × Bool := getO pDcrRs.dflt (pDcrT chip v f).val
def pDcrC (chip : Int) (v : Int) (f : TF) : Bool := okB (pDcrT chip v f).val
def pDcrE : Entry := pureE pDcrTs pDcrRs (fun a => some (pDcrC a.1 a.2.1 a.2.2)) (fun a => pDcr a.1 a.2.1 a.2.2)
theorem pDcr_ok : EntryOk Tryz.prog 247 pDcrE :=
  pure_part (P := Tryz.prog) (n := 4095) (k := 8) (l := [(282, pResultE), (283, pDiffE)]) (ol := []) ⟨pResult_ok, pDiff_ok, trivial⟩ Tryz.func247 rfl (by kernel_rfl) Tryz.call247 trivial (ts := pDcrTs) (rs := pDcrRs) (t := fun a => pDcrT a.1 a.2.1 a.2.2) (fun a => by kernel_rfl)
abbrev pInxTs : List Sh := [Sh.one (R.int IntKind.i64), Sh.one (R.int IntKind.u16), Sh.agg rcF7]
abbrev pInxRs : Rs := Rs.tup [Sh.one (R.int IntKind.u16), Sh.agg rcF7]
def pInxT (chip : Int) (v : Int) (f : TF) : RT (Int × Bool × Bool × Bool × Bool × Bool × Bool × Bool) :=
  .leaf ((IntKind.u16.wrap (v + 1), f.1, f.2.1, bif chip == 2 then v == 65535 else f.2.2.1, f.2.2.2))
def pInx (chip : Int) (v : Int) (f : TF) : Int × Bool × Bool × Bool × Bool × Bool × Bool × Bool := (pInxT chip v f).val
def pInxE : Entry := pureE pInxTs pInxRs (fun _ => none) (fun a => pInx a.1 a.2.1 a.2.2)
theorem pInx_ok : EntryOk Tryz.prog 260 pInxE :=
  pure_tot (P := Tryz.prog) (n := 255) (k := 8) (l := []) (ol := []) trivial Tryz.func260 rfl (by kernel_rfl) Tryz.call260 trivial (ts := pInxTs) (rs := pInxRs) (t := fun a => pInxT a.1 a.2.1 a.2.2) (fun a => by kernel_rfl)
abbrev pDcxTs : List Sh := [Sh.one (R.int IntKind.i64), Sh.one (R.int IntKind.u16), Sh.agg rcF7]
abbrev pDcxRs : Rs := Rs.tup [Sh.one (R.int IntKind.u16), Sh.agg rcF7]
def pDcxT (chip : Int) (v : Int) (f : TF) : RT (Int × Bool × Bool × Bool × Bool × Bool × Bool × Bool) :=
  .leaf ((IntKind.u16.wrap (v - 1), f.1, f.2.1, bif chip == 2 then v == 0 else f.2.2.1, f.2.2.2))
def pDcx (chip : Int) (v : Int) (f : TF) : Int × Bool × Bool × Bool × Bool × Bool × Bool × Bool := (pDcxT chip v f).val
def pDcxE : Entry := pureE pDcxTs pDcxRs (fun _ => none) (fun a => pDcx a.1 a.2.1 a.2.2)
theorem pDcx_ok : EntryOk Tryz.prog 261 pDcxE :=
  pure_tot (P := Tryz.prog) (n := 255) (k := 8) (l := []) (ol := []) trivial Tryz.func261 rfl (by kernel_rfl) Tryz.call261 trivial (ts := pDcxTs) (rs := pDcxRs) (t := fun a => pDcxT a.1 a.2.1 a.2.2) (fun a => by kernel_rfl)
abbrev pDadTs : List Sh := [Sh.one (R.int IntKind.i64), Sh.one (R.int IntKind.u16), Sh.one (R.int IntKind.u16), Sh.agg rcF7]
abbrev pDadRs : Rs := Rs.tup [Sh.one (R.int IntKind.u16), Sh.agg rcF7]
def pDadT (chip : Int) (a : Int) (b : Int) (f : TF) : RT (Int × Bool × Bool × Bool × Bool × Bool × Bool × Bool) :=
  .leaf ((IntKind.u16.wrap (a + b), f.1, f.2.1, f.2.2.1, f.2.2.2.1, f.2.2.2.2.1, bif chip == 2 then andI IntKind.u16 (andI IntKind.u16 (xorI IntKind.u16 a (IntKind.u16.wrap (a + b))) (xorI IntKind.u16 b (IntKind.u16.wrap (a + b)))) 32768 != 0 else f.2.2.2.2.2.1, decide (IntKind.u16.wrap (a + b) < a)))
def pDad (chip : Int) (a : Int) (b : Int) (f : TF) : Int × Bool × Bool × Bool × Bool × Bool × Bool × Bool := (pDadT chip a b f).val
def pDadE : Entry := pureE pDadTs pDadRs (fun _ => none) (fun a => pDad a.1 a.2.1 a.2.2.1 a.2.2.2)
theorem pDad_ok : EntryOk Tryz.prog 262 pDadE :=
  pure_tot (P := Tryz.prog) (n := 2047) (k := 8) (l := []) (ol := []) trivial Tryz.func262 rfl (by kernel_rfl) Tryz.call262 trivial (ts := pDadTs) (rs := pDadRs) (t := fun a => pDadT a.1 a.2.1 a.2.2.1 a.2.2.2) (fun a => by kernel_rfl)
abbrev pDsubTs : List Sh := [Sh.one (R.int IntKind.u16), Sh.one (R.int IntKind.u16)]
abbrev pDsubRs : Rs := Rs.tup [Sh.one (R.int IntKind.u16), Sh.agg rcF7]
def pDsubT (a : Int) (b : Int) : RT (Option (Int × Bool × Bool × Bool × Bool × Bool × Bool × Bool)) :=
  let x1 : Int × Bool × Bool × Bool := pDiff (IntKind.u8.wrap (shrI IntKind.u16 a 8)) (IntKind.u8.wrap (shrI IntKind.u16 b 8)) (pDiff (IntKind.u8.wrap a) (IntKind.u8.wrap b) false).2.1
  let x2 : Int := x1.1
  let x3 : TF := pOf x2
  let x4 : Bool × Bool × Bool := x1.2
  let x5 : Bool × Bool := x4.2
  .br (pOfC x2)
  (.leaf (some ((pJoin x2 (pDiff (IntKind.u8.wrap a) (IntKind.u8.wrap b) false).1, x3.1, x2 == 0 && (pDiff (IntKind.u8.wrap a) (IntKind.u8.wrap b) false).1 == 0, pMaj (decide (a ≥ 32768)) (decide (b < 32768)) (decide (x2 ≥ 128)), x5.1, x3.2.2.2.2.1, x5.2, x4.1))))
  (.leaf none)
def pDsub (a : Int) (b : Int) : Int × Bool × Bool × Bool × Bool × Bool × Bool × Bool := getO pDsubRs.dflt (pDsubT a b).val
def pDsubC (a : Int) (b : Int) : Bool := okB (pDsubT a b).val
def pDsubE : Entry := pureE pDsubTs pDsubRs (fun a => some (pDsubC a.1 a.2)) (fun a => pDsub a.1 a.2)
theorem pDsub_ok : EntryOk Tryz.prog 267 pDsubE :=
  pure_part (P := Tryz.prog) (n := 32767) (k := 8) (l := [(207, pJoinE), (283, pDiffE), (288, pOfE), (289, pMajE)]) (ol := []) ⟨pJoin_ok, pDiff_ok, pOf_ok, pMaj_ok, trivial⟩ Tryz.func267 rfl (by kernel_rfl) Tryz.call267 trivial (ts := pDsubTs) (rs := pDsubRs) (t := fun a => pDsubT a.1 a.2) (fun a => by kernel_rfl)
abbrev pDaaTs : List Sh := [Sh.one (R.int IntKind.i64), Sh.one (R.int IntKind.u8), Sh.agg rcF7]
abbrev pDaaRs : Rs := Rs.tup [Sh.one (R.int IntKind.u8), Sh.agg rcF7]
def pDaaT (chip : Int) (a : Int) (f : TF) : RT (Option (Int × Bool × Bool × Bool × Bool × Bool × Bool × Bool)) :=
  let x1 : Int := bif f.2.2.2.1 || decide (andI IntKind.u8 a 15 > 9) then 6 else 0
  let x2 : Int × Bool × Bool × Bool := pSum a (bif f.2.2.2.2.2.2 || decide (a > 153) then IntKind.u8.wrap (x1 + 96) else x1) false
  let x3 : Int := x2.1
  let x4 : TF := pOf x3
  let x5 : Bool × Bool × Bool × Bool × Bool × Bool := x4.2
  let x6 : Bool × Bool × Bool × Bool × Bool := x5.2
  let x7 : Bool × Bool := x2.2.2
  let x8 : Bool × Bool × Bool := x6.2.2
  .br (pOfC x3)
  (.leaf (some ((x3, x4.1, x5.1, bif chip == 2 then pMaj (decide (a ≥ 128)) false (decide (x3 ≥ 128)) else x6.1, x7.1, x8.1, bif chip == 2 then x7.2 else x8.2.1, f.2.2.2.2.2.2 || decide (a > 153)))))
  (.leaf none)
def pDaa (chip : Int) (a : Int) (f : TF) : Int × Bool × Bool × Bool × Bool × Bool × Bool × Bool := getO pDaaRs.dflt (pDaaT chip a f).val
def pDaaC (chip : Int) (a : Int) (f : TF) : Bool := okB (pDaaT chip a f).val
def pDaaE : Entry := pureE pDaaTs pDaaRs (fun a => some (pDaaC a.1 a.2.1 a.2.2)) (fun a => pDaa a.1 a.2.1 a.2.2)
theorem pDaa_ok : EntryOk Tryz.prog 263 pDaaE :=
  pure_part (P := Tryz.prog) (n := 32767) (k := 8) (l := [(281, pSumE), (288, pOfE), (289, pMajE)]) (ol := []) ⟨pSum_ok, pOf_ok, pMaj_ok, trivial⟩ Tryz.func263 rfl (by kernel_rfl) Tryz.call263 trivial (ts := pDaaTs) (rs := pDaaRs) (t := fun a => pDaaT a.1 a.2.1 a.2.2) (fun a => by kernel_rfl)
abbrev pLowTs : List Sh := [Sh.one R.bool]
abbrev pLowRs : Rs := Rs.one (Sh.one (R.int IntKind.u8))
def pLowT (c : Bool) : RT (Int) :=
  .br (c)
  (.leaf (1))
  (.leaf (0))
def pLow (c : Bool) : Int := (pLowT c).val
def pLowE : Entry := pureE pLowTs pLowRs (fun _ => none) (fun a => pLow a)
theorem pLow_ok : EntryOk Tryz.prog 293 pLowE :=
  pure_tot (P := Tryz.prog) (n := 7) (k := 8) (l := []) (ol := []) trivial Tryz.func293 rfl (by kernel_rfl) Tryz.call293 trivial (ts := pLowTs) (rs := pLowRs) (t := fun a => pLowT a) (fun a => by kernel_rfl)
def irotate_Byte_1E : Entry := .tree (evFunc (envX Tryz.prog [] [] 7 8) Tryz.f290)
theorem irotate_Byte_1_ok : EntryOk Tryz.prog 290 irotate_Byte_1E := inl_ok (P := Tryz.prog) (n := 7) (k := 8) (l := []) (ol := []) trivial Tryz.func290 rfl (by kernel_rfl) Tryz.call290 trivial
def irotate_Byte_2E : Entry := .tree (evFunc (envX Tryz.prog [] [] 7 8) Tryz.f291)
theorem irotate_Byte_2_ok : EntryOk Tryz.prog 291 irotate_Byte_2E := inl_ok (P := Tryz.prog) (n := 7) (k := 8) (l := []) (ol := []) trivial Tryz.func291 rfl (by kernel_rfl) Tryz.call291 trivial
def irotate_Byte_3E : Entry := .tree (evFunc (envX Tryz.prog [(293, pLowE)] [] 15 8) Tryz.f292)
theorem irotate_Byte_3_ok : EntryOk Tryz.prog 292 irotate_Byte_3E := inl_ok (P := Tryz.prog) (n := 15) (k := 8) (l := [(293, pLowE)]) (ol := []) ⟨pLow_ok, trivial⟩ Tryz.func292 rfl (by kernel_rfl) Tryz.call292 trivial
def irotate_Byte_4E : Entry := .tree (evFunc (envX Tryz.prog [(293, pLowE)] [] 15 8) Tryz.f294)
theorem irotate_Byte_4_ok : EntryOk Tryz.prog 294 irotate_Byte_4E := inl_ok (P := Tryz.prog) (n := 15) (k := 8) (l := [(293, pLowE)]) (ol := []) ⟨pLow_ok, trivial⟩ Tryz.func294 rfl (by kernel_rfl) Tryz.call294 trivial
abbrev pRotTs : List Sh := [Sh.one (R.int IntKind.i64), Sh.one (R.int IntKind.u8), Sh.one R.bool]
abbrev pRotRs : Rs := Rs.tup [Sh.one (R.int IntKind.u8), Sh.one R.bool]
def pRotT (op : Int) (a : Int) (c : Bool) : RT (Option (Int × Bool)) :=
  .br (andI IntKind.i64 op 3 == 0 || (andI IntKind.i64 op 3 == ↑(0 + 1) || (andI IntKind.i64 op 3 == ↑(0 + 1 + 1) || andI IntKind.i64 op 3 == ↑(0 + 1 + 1 + 1))))
  (.leaf (some ((bif andI IntKind.i64 op 3 == 0 then orI IntKind.u8 (shlI IntKind.u8 a 1) (shrI IntKind.u8 a 7) else bif andI IntKind.i64 op 3 == ↑(0 + 1) then orI IntKind.u8 (shrI IntKind.u8 a 1) (shlI IntKind.u8 a 7) else bif andI IntKind.i64 op 3 == ↑(0 + 1 + 1) then orI IntKind.u8 (shlI IntKind.u8 a 1) (pLow c) else orI IntKind.u8 (shrI IntKind.u8 a 1) (shlI IntKind.u8 (pLow c) 7), bif andI IntKind.i64 op 3 == 0 then decide (a ≥ 128) else bif andI IntKind.i64 op 3 == ↑(0 + 1) then andI IntKind.u8 a 1 == 1 else bif andI IntKind.i64 op 3 == ↑(0 + 1 + 1) then decide (a ≥ 128) else andI IntKind.u8 a 1 == 1))))
  (.leaf none)
def pRot (op : Int) (a : Int) (c : Bool) : Int × Bool := getO pRotRs.dflt (pRotT op a c).val
def pRotC (op : Int) (a : Int) (c : Bool) : Bool := okB (pRotT op a c).val
def pRotE : Entry := pureE pRotTs pRotRs (fun a => some (pRotC a.1 a.2.1 a.2.2)) (fun a => pRot a.1 a.2.1 a.2.2)
theorem pRot_ok : EntryOk Tryz.prog 264 pRotE :=
  pure_part (P := Tryz.prog) (n := 511) (k := 8) (l := [(290, irotate_Byte_1E), (291, irotate_Byte_2E), (292, irotate_Byte_3E), (294, irotate_Byte_4E)]) (ol := []) ⟨irotate_Byte_1_ok, irotate_Byte_2_ok, irotate_Byte_3_ok, irotate_Byte_4_ok, trivial⟩ Tryz.func264 rfl (by kernel_rfl) Tryz.call264 trivial (ts := pRotTs) (rs := pRotRs) (t := fun a => pRotT a.1 a.2.1 a.2.2) (fun a => by kernel_rfl)
abbrev pArhlTs : List Sh := [Sh.one (R.int IntKind.u16)]
abbrev pArhlRs : Rs := Rs.tup [Sh.one (R.int IntKind.u16), Sh.one R.bool]
def pArhlT (v : Int) : RT (Int × Bool) :=
  .leaf ((orI IntKind.u16 (shrI IntKind.u16 v 1) (andI IntKind.u16 v 32768), andI IntKind.u16 v 1 == 1))
def pArhl (v : Int) : Int × Bool := (pArhlT v).val
def pArhlE : Entry := pureE pArhlTs pArhlRs (fun _ => none) (fun a => pArhl a)
theorem pArhl_ok : EntryOk Tryz.prog 268 pArhlE :=
  pure_tot (P := Tryz.prog) (n := 15) (k := 8) (l := []) (ol := []) trivial Tryz.func268 rfl (by kernel_rfl) Tryz.call268 trivial (ts := pArhlTs) (rs := pArhlRs) (t := fun a => pArhlT a) (fun a => by kernel_rfl)
abbrev pRdelTs : List Sh := [Sh.one (R.int IntKind.u16), Sh.one R.bool]
abbrev pRdelRs : Rs := Rs.tup [Sh.one (R.int IntKind.u16), Sh.one R.bool, Sh.one R.bool]
def pRdelT (v : Int) (c : Bool) : RT (Int × Bool × Bool) :=
  .leaf ((orI IntKind.u16 (shlI IntKind.u16 v 1) (IntKind.u16.wrap (pLow c)), decide (v ≥ 32768), andI IntKind.u16 (xorI IntKind.u16 (orI IntKind.u16 (shlI IntKind.u16 v 1) (IntKind.u16.wrap (pLow c))) v) 32768 != 0))
def pRdel (v : Int) (c : Bool) : Int × Bool × Bool := (pRdelT v c).val
def pRdelE : Entry := pureE pRdelTs pRdelRs (fun _ => none) (fun a => pRdel a.1 a.2)
theorem pRdel_ok : EntryOk Tryz.prog 269 pRdelE :=
  pure_tot (P := Tryz.prog) (n := 127) (k := 8) (l := [(293, pLowE)]) (ol := []) ⟨pLow_ok, trivial⟩ Tryz.func269 rfl (by kernel_rfl) Tryz.call269 trivial (ts := pRdelTs) (rs := pRdelRs) (t := fun a => pRdelT a.1 a.2) (fun a => by kernel_rfl)
abbrev pSbitTs : List Sh := [Sh.one R.bool, Sh.one (R.int IntKind.i64)]
abbrev pSbitRs : Rs := Rs.one (Sh.one (R.int IntKind.u8))
def pSbitT (b : Bool) (n : Int) : RT (Option (Int)) :=
  .br (!b || decide (0 ≤ n))
  (.br (b)
   (.leaf (some (shlI IntKind.u8 1 n)))
   (.leaf (some (0))))
  (.leaf none)
def pSbit (b : Bool) (n : Int) : Int := getO pSbitRs.dflt (pSbitT b n).val
def pSbitC (b : Bool) (n : Int) : Bool := okB (pSbitT b n).val
def pSbitE : Entry := pureE pSbitTs pSbitRs (fun a => some (pSbitC a.1 a.2)) (fun a => pSbit a.1 a.2)
theorem pSbit_ok : EntryOk Tryz.prog 266 pSbitE :=
  pure_part (P := Tryz.prog) (n := 31) (k := 8) (l := []) (ol := []) trivial Tryz.func266 rfl (by kernel_rfl) Tryz.call266 trivial (ts := pSbitTs) (rs := pSbitRs) (t := fun a => pSbitT a.1 a.2) (fun a => by kernel_rfl)
abbrev pRimTs : List Sh := [Sh.agg rcCPU, Sh.agg (R.pair R.bool (R.pair R.bool rcF7))]
abbrev pRimRs : Rs := Rs.tup [Sh.one (R.int IntKind.u8), Sh.agg rcCPU]
def pRimT (c : TC) (l : Bool × Bool × Bool × Bool × Bool × Bool × Bool × Bool × Bool) : RT (Option (Int × TC)) :=
  let x1 : Bool := bif c.2.2.2.2.2.2.2.2.2.2.1 then c.2.2.2.2.2.2.2.2.2.2.2.1 else c.2.2.1
  .br (!pSbitC l.2.2.2.1 7 || (!pSbitC c.2.2.2.2.2.2.2.1 6 || (!pSbitC l.2.2.2.2.2.2.1 5 || (!pSbitC l.2.2.2.2.2.2.2.1 4 || pSbitC x1 3))))
  (.br (!pSbitC l.2.2.2.1 7 || (!pSbitC c.2.2.2.2.2.2.2.1 6 || (!pSbitC l.2.2.2.2.2.2.1 5 || pSbitC l.2.2.2.2.2.2.2.1 4)))
   (.br (!pSbitC l.2.2.2.1 7 || (!pSbitC c.2.2.2.2.2.2.2.1 6 || pSbitC l.2.2.2.2.2.2.1 5))
    (.br (!pSbitC l.2.2.2.1 7 || pSbitC c.2.2.2.2.2.2.2.1 6)
     (.br (pSbitC l.2.2.2.1 7)
      (.leaf (some ((orI IntKind.u8 (orI IntKind.u8 (orI IntKind.u8 (orI IntKind.u8 (orI IntKind.u8 (pSbit l.2.2.2.1 7) (pSbit c.2.2.2.2.2.2.2.1 6)) (pSbit l.2.2.2.2.2.2.1 5)) (pSbit l.2.2.2.2.2.2.2.1 4)) (pSbit x1 3)) (andI IntKind.u8 c.2.2.2.2.2.1 7), c.1, c.2.1, c.2.2.1, c.2.2.2.1, c.2.2.2.2.1, c.2.2.2.2.2.1, c.2.2.2.2.2.2.1, c.2.2.2.2.2.2.2.1, c.2.2.2.2.2.2.2.2.1, c.2.2.2.2.2.2.2.2.2.1, false, false, c.2.2.2.2.2.2.2.2.2.2.2.2))))
      (.leaf none))
     (.leaf none))
    (.leaf none))
   (.leaf none))
  (.leaf none)
def pRim (c : TC) (l : Bool × Bool × Bool × Bool × Bool × Bool × Bool × Bool × Bool) : Int × TC := getO pRimRs.dflt (pRimT c l).val
def pRimC (c : TC) (l : Bool × Bool × Bool × Bool × Bool × Bool × Bool × Bool × Bool) : Bool := okB (pRimT c l).val
def pRimE : Entry := pureE pRimTs pRimRs (fun a => some (pRimC a.1 a.2)) (fun a => pRim a.1 a.2)
theorem pRim_ok : EntryOk Tryz.prog 220 pRimE :=
  pure_part (P := Tryz.prog) (n := 255) (k := 8) (l := [(266, pSbitE)]) (ol := []) ⟨pSbit_ok, trivial⟩ Tryz.func220 rfl (by kernel_rfl) Tryz.call220 trivial (ts := pRimTs) (rs := pRimRs) (t := fun a => pRimT a.1 a.2) (fun a => by kernel_rfl)
abbrev pSimTs : List Sh := [Sh.agg rcCPU, Sh.one (R.int IntKind.u8)]
abbrev pSimRs : Rs := Rs.one (Sh.agg rcCPU)
def pSimT (c : TC) (a : Int) : RT TC :=
  .leaf ((c.1, c.2.1, c.2.2.1, c.2.2.2.1, c.2.2.2.2.1, bif andI IntKind.u8 a 8 != 0 then andI IntKind.u8 a 7 else c.2.2.2.2.2.1, c.2.2.2.2.2.2.1, !andI IntKind.u8 a 16 != 0 && c.2.2.2.2.2.2.2.1, c.2.2.2.2.2.2.2.2.1, c.2.2.2.2.2.2.2.2.2.1, c.2.2.2.2.2.2.2.2.2.2.1, c.2.2.2.2.2.2.2.2.2.2.2.1, bif andI IntKind.u8 a 64 != 0 then andI IntKind.u8 a 128 != 0 else c.2.2.2.2.2.2.2.2.2.2.2.2))
def pSim (c : TC) (a : Int) : TC := (pSimT c a).val
def pSimE : Entry := pureE pSimTs pSimRs (fun _ => none) (fun a => pSim a.1 a.2)
theorem pSim_ok : EntryOk Tryz.prog 221 pSimE :=
  pure_tot (P := Tryz.prog) (n := 31) (k := 8) (l := []) (ol := []) trivial Tryz.func221 rfl (by kernel_rfl) Tryz.call221 trivial (ts := pSimTs) (rs := pSimRs) (t := fun a => pSimT a.1 a.2) (fun a => by kernel_rfl)
abbrev pHoldsTs : List Sh := [Sh.one (R.int IntKind.i64), Sh.agg rcF7]
abbrev pHoldsRs : Rs := Rs.one (Sh.one R.bool)
def pHoldsT (c : Int) (f : TF) : RT (Bool) :=
  .br (bif c == 0 then c == 0 else c == 1)
  (.leaf (f.2.1 == (c == 1)))
  (.br (bif c == 2 then c == 2 else c == 3)
   (.leaf (f.2.2.2.2.2.2 == (c == 3)))
   (.br (bif c == 4 then c == 4 else c == 5)
    (.leaf (f.2.2.2.2.1 == (c == 5)))
    (.br (bif c == 6 then c == 6 else c == 7)
     (.leaf (f.1 == (c == 7)))
     (.br (bif c == 8 then c == 8 else c == 9)
      (.leaf (f.2.2.1 == (c == 9)))
      (.br (c == 10)
       (.leaf f.2.2.2.2.2.1)
       (.leaf (c == 11)))))))
def pHolds (c : Int) (f : TF) : Bool := (pHoldsT c f).val
def pHoldsE : Entry := pureE pHoldsTs pHoldsRs (fun _ => none) (fun a => pHolds a.1 a.2)
theorem pHolds_ok : EntryOk Tryz.prog 284 pHoldsE :=
  pure_tot (P := Tryz.prog) (n := 70644700037215) (k := 8) (l := []) (ol := []) trivial Tryz.func284 rfl (by kernel_rfl) Tryz.call284 trivial (ts := pHoldsTs) (rs := pHoldsRs) (t := fun a => pHoldsT a.1 a.2) (fun a => by kernel_rfl)
abbrev pVectorTs : List Sh := [Sh.one (R.int IntKind.i64)]
abbrev pVectorRs : Rs := Rs.one (Sh.one (R.int IntKind.u16))
def pVectorT (s : Int) : RT (Int) :=
  .br (s == 1)
  (.leaf (36))
  (.br (s == 2)
   (.leaf (60))
   (.br (s == 3)
    (.leaf (52))
    (.br (s == 4)
     (.leaf (44))
     (.leaf (0)))))
def pVector (s : Int) : Int := (pVectorT s).val
def pVectorE : Entry := pureE pVectorTs pVectorRs (fun _ => none) (fun a => pVector a)
theorem pVector_ok : EntryOk Tryz.prog 168 pVectorE :=
  pure_tot (P := Tryz.prog) (n := 1367) (k := 8) (l := []) (ol := []) trivial Tryz.func168 rfl (by kernel_rfl) Tryz.call168 trivial (ts := pVectorTs) (rs := pVectorRs) (t := fun a => pVectorT a) (fun a => by kernel_rfl)
abbrev pLaterTs : List Sh := [Sh.one (R.int IntKind.u8)]
abbrev pLaterRs : Rs := Rs.tup [Sh.agg (R.pair (R.int IntKind.i64) (R.pair (R.int IntKind.i64) (R.pair (R.int IntKind.i64) (R.pair (R.int IntKind.i64) (R.pair (R.int IntKind.i64) (R.pair (R.int IntKind.i64) (R.pair (R.int IntKind.i64) (R.int IntKind.i64)))))))), Sh.one R.bool]
def pLaterT (op : Int) : RT (TI × Bool) :=
  .br (op == 8)
  (.leaf (((40, 1, 0, 0, 0, 0, 0, 0), true)))
  (.br (op == 16)
   (.leaf (((41, 1, 0, 0, 0, 0, 0, 0), true)))
   (.br (op == 24)
    (.leaf (((42, 1, 0, 0, 0, 0, 0, 0), true)))
    (.br (op == 32)
     (.leaf (((38, 1, 0, 0, 0, 0, 0, 0), true)))
     (.br (op == 40)
      (.leaf (((43, 2, 0, 0, 0, 0, 0, 0), true)))
      (.br (op == 48)
       (.leaf (((39, 1, 0, 0, 0, 0, 0, 0), true)))
       (.br (op == 56)
        (.leaf (((44, 2, 0, 0, 0, 0, 0, 0), true)))
        (.br (op == 203)
         (.leaf (((45, 1, 0, 0, 0, 0, 10, 0), true)))
         (.br (op == 217)
          (.leaf (((46, 1, 0, 0, 0, 0, 0, 0), true)))
          (.br (op == 221)
           (.leaf (((24, 3, 0, 0, 0, 0, 8, 0), true)))
           (.br (op == 237)
            (.leaf (((47, 1, 0, 0, 0, 0, 0, 0), true)))
            (.br (op == 253)
             (.leaf (((24, 3, 0, 0, 0, 0, 9, 0), true)))
             (.leaf (((0, 0, 0, 0, 0, 0, 0, 0), false))))))))))))))
def pLater (op : Int) : TI × Bool := (pLaterT op).val
def pLaterE : Entry := pureE pLaterTs pLaterRs (fun _ => none) (fun a => pLater a)
theorem pLater_ok : EntryOk Tryz.prog 210 pLaterE :=
  pure_tot (P := Tryz.prog) (n := 314146179375) (k := 8) (l := []) (ol := []) trivial Tryz.func210 rfl (by kernel_rfl) Tryz.call210 trivial (ts := pLaterTs) (rs := pLaterRs) (t := fun a => pLaterT a) (fun a => by kernel_rfl)
abbrev pEarlierTs : List Sh := [Sh.one (R.int IntKind.u8)]
abbrev pEarlierRs : Rs := Rs.tup [Sh.agg (R.pair (R.int IntKind.i64) (R.pair (R.int IntKind.i64) (R.pair (R.int IntKind.i64) (R.pair (R.int IntKind.i64) (R.pair (R.int IntKind.i64) (R.pair (R.int IntKind.i64) (R.pair (R.int IntKind.i64) (R.int IntKind.i64)))))))), Sh.one R.bool]
def pEarlierT (op : Int) : RT (TI × Bool) :=
  .br (bif op == 0 then op == 0 else bif op == 8 then op == 8 else bif op == 16 then op == 16 else bif op == 24 then op == 24 else bif op == 32 then op == 32 else bif op == 40 then op == 40 else bif op == 48 then op == 48 else op == 56)
  (.leaf (((1, 1, 0, 0, 0, 0, 0, 0), true)))
  (.br (bif op == 195 then op == 195 else op == 203)
   (.leaf (((24, 3, 0, 0, 0, 0, 11, 0), true)))
   (.br (bif op == 201 then op == 201 else op == 217)
    (.leaf (((26, 1, 0, 0, 0, 0, 11, 0), true)))
    (.br (bif op == 205 then op == 205 else bif op == 221 then op == 221 else bif op == 237 then op == 237 else op == 253)
     (.leaf (((25, 3, 0, 0, 0, 0, 11, 0), true)))
     (.leaf (((0, 0, 0, 0, 0, 0, 0, 0), false))))))
def pEarlier (op : Int) : TI × Bool := (pEarlierT op).val
def pEarlierE : Entry := pureE pEarlierTs pEarlierRs (fun _ => none) (fun a => pEarlier a)
theorem pEarlier_ok : EntryOk Tryz.prog 211 pEarlierE :=
  pure_tot (P := Tryz.prog) (n := 8945711) (k := 8) (l := []) (ol := []) trivial Tryz.func211 rfl (by kernel_rfl) Tryz.call211 trivial (ts := pEarlierTs) (rs := pEarlierRs) (t := fun a => pEarlierT a) (fun a => by kernel_rfl)
abbrev pOlowTs : List Sh := [Sh.one (R.int IntKind.u8)]
abbrev pOlowRs : Rs := Rs.one (Sh.agg (R.pair (R.int IntKind.i64) (R.pair (R.int IntKind.i64) (R.pair (R.int IntKind.i64) (R.pair (R.int IntKind.i64) (R.pair (R.int IntKind.i64) (R.pair (R.int IntKind.i64) (R.pair (R.int IntKind.i64) (R.int IntKind.i64)))))))))
def pOlowT (op : Int) : RT (Option TI) :=
  let x1 : Int × Int × Int × Int × Int × Int := (0, 0, IntKind.i64.wrap (andI IntKind.u8 (shrI IntKind.u8 op 4) 3), 0, 0, 0)
  let x2 : Int × Int × Int × Int × Int × Int × Int := (1, x1)
  let x3 : Bool := decide (IntKind.i64.wrap (andI IntKind.u8 (shrI IntKind.u8 op 3) 7) < 4) && andI IntKind.u8 op 8 != 0
  let x4 : Bool := decide (0 ≤ IntKind.i64.wrap (IntKind.i64.wrap (andI IntKind.u8 (shrI IntKind.u8 op 3) 7) - 4) ∧ IntKind.i64.wrap (IntKind.i64.wrap (andI IntKind.u8 (shrI IntKind.u8 op 3) 7) - 4) < 4)
  let x5 : Bool := IntKind.i64.wrap (IntKind.i64.wrap (andI IntKind.u8 (shrI IntKind.u8 op 3) 7) - 4) == 0
  let x6 : Bool := IntKind.i64.wrap (IntKind.i64.wrap (andI IntKind.u8 (shrI IntKind.u8 op 3) 7) - 4) == ↑(0 + 1)
  let x7 : Bool := IntKind.i64.wrap (IntKind.i64.wrap (andI IntKind.u8 (shrI IntKind.u8 op 3) 7) - 4) == ↑(0 + 1 + 1)
  let x8 : Int × Int × Int × Int × Int × Int := (IntKind.i64.wrap (andI IntKind.u8 (shrI IntKind.u8 op 3) 7), 0, 0, 0, 0, 0)
  let x9 : Int × Int × Int × Int × Int × Int × Int := (1, x8)
  .br (andI IntKind.u8 op 7 == 1)
  (.br (andI IntKind.u8 op 8 != 0)
   (.leaf (some ((18, x2))))
   (.leaf (some ((4, 3, x1)))))
  (.br (!andI IntKind.u8 op 7 == 2 || (x3 || (decide (IntKind.i64.wrap (andI IntKind.u8 (shrI IntKind.u8 op 3) 7) < 4) || x4)))
   (.br (andI IntKind.u8 op 7 == 2)
    (.br (x3)
     (.leaf (some ((9, x2))))
     (.br (decide (IntKind.i64.wrap (andI IntKind.u8 (shrI IntKind.u8 op 3) 7) < 4))
      (.leaf (some ((10, x2))))
      (.leaf (some ((bif x5 then 8 else bif x6 then 7 else bif x7 then 6 else 5, 3, 0, 0, 0, 0, 0, 0))))))
    (.br (andI IntKind.u8 op 7 == 3)
     (.br (andI IntKind.u8 op 8 != 0)
      (.leaf (some ((17, x2))))
      (.leaf (some ((16, x2)))))
     (.br (andI IntKind.u8 op 7 == 4)
      (.leaf (some ((14, x9))))
      (.br (andI IntKind.u8 op 7 == 5)
       (.leaf (some ((15, x9))))
       (.br (andI IntKind.u8 op 7 == 6)
        (.leaf (some ((3, 2, x8))))
        (.br (decide (IntKind.i64.wrap (andI IntKind.u8 (shrI IntKind.u8 op 3) 7) < 4))
         (.leaf (some ((23, 1, 0, 0, 0, IntKind.i64.wrap (andI IntKind.u8 (shrI IntKind.u8 op 3) 7), 0, 0))))
         (.br (x4)
          (.leaf (some ((bif x5 then 19 else bif x6 then 20 else bif x7 then 21 else 22, 1, 0, 0, 0, 0, 0, 0))))
          (.leaf none))))))))
   (.leaf none))
def pOlow (op : Int) : Int × Int × Int × Int × Int × Int × Int × Int := getO pOlowRs.dflt (pOlowT op).val
def pOlowC (op : Int) : Bool := okB (pOlowT op).val
def pOlowE : Entry := pureE pOlowTs pOlowRs (fun a => some (pOlowC a)) (fun a => pOlow a)
theorem pOlow_ok : EntryOk Tryz.prog 212 pOlowE :=
  pure_part (P := Tryz.prog) (n := 614758941389750335) (k := 8) (l := []) (ol := []) trivial Tryz.func212 rfl (by kernel_rfl) Tryz.call212 trivial (ts := pOlowTs) (rs := pOlowRs) (t := fun a => pOlowT a) (fun a => by kernel_rfl)
abbrev pOhighTs : List Sh := [Sh.one (R.int IntKind.u8)]
abbrev pOhighRs : Rs := Rs.one (Sh.agg (R.pair (R.int IntKind.i64) (R.pair (R.int IntKind.i64) (R.pair (R.int IntKind.i64) (R.pair (R.int IntKind.i64) (R.pair (R.int IntKind.i64) (R.pair (R.int IntKind.i64) (R.pair (R.int IntKind.i64) (R.int IntKind.i64)))))))))
def pOhighT (op : Int) : RT (Option TI) :=
  let x1 : Int × Int × Int × Int × Int × Int := (0, 0, 0, 0, IntKind.i64.wrap (andI IntKind.u8 (shrI IntKind.u8 op 3) 7), 0)
  let x2 : Int × Int × Int × Int × Int × Int × Int := (1, 0, 0, IntKind.i64.wrap (andI IntKind.u8 (shrI IntKind.u8 op 4) 3), 0, 0, 0)
  let x3 : Bool := andI IntKind.u8 op 7 == 2 || (!andI IntKind.u8 op 7 == 3 || (!decide (IntKind.i64.wrap (andI IntKind.u8 (shrI IntKind.u8 op 3) 7) < 4) || decide (0 ≤ IntKind.i64.wrap (IntKind.i64.wrap (andI IntKind.u8 (shrI IntKind.u8 op 3) 7) - 2) ∧ IntKind.i64.wrap (IntKind.i64.wrap (andI IntKind.u8 (shrI IntKind.u8 op 3) 7) - 2) < 2)))
  let x4 : Int × Int × Int × Int × Int × Int × Int := (3, x1)
  .br (andI IntKind.u8 op 7 == 0)
  (.leaf (some ((26, 1, x1))))
  (.br (andI IntKind.u8 op 7 == 1)
   (.br (!andI IntKind.u8 op 8 != 0)
    (.leaf (some ((31, x2))))
    (.br (IntKind.i64.wrap (andI IntKind.u8 (shrI IntKind.u8 op 3) 7) == 5)
     (.leaf (some ((28, 1, 0, 0, 0, 0, 0, 0))))
     (.leaf (some ((29, 1, 0, 0, 0, 0, 0, 0))))))
   (.br (!x3 || (andI IntKind.u8 op 7 == 2 || (!andI IntKind.u8 op 7 == 3 || (decide (IntKind.i64.wrap (andI IntKind.u8 (shrI IntKind.u8 op 3) 7) < 4) || decide (0 ≤ IntKind.i64.wrap (IntKind.i64.wrap (andI IntKind.u8 (shrI IntKind.u8 op 3) 7) - 4) ∧ IntKind.i64.wrap (IntKind.i64.wrap (andI IntKind.u8 (shrI IntKind.u8 op 3) 7) - 4) < 4)))))
    (.br (x3)
     (.br (andI IntKind.u8 op 7 == 2)
      (.leaf (some ((24, x4))))
      (.br (andI IntKind.u8 op 7 == 3)
       (.br (decide (IntKind.i64.wrap (andI IntKind.u8 (shrI IntKind.u8 op 3) 7) < 4))
        (.leaf (some ((bif IntKind.i64.wrap (IntKind.i64.wrap (andI IntKind.u8 (shrI IntKind.u8 op 3) 7) - 2) == 0 then 34 else 33, 2, 0, 0, 0, 0, 0, 0))))
        (.leaf (some ((bif IntKind.i64.wrap (IntKind.i64.wrap (andI IntKind.u8 (shrI IntKind.u8 op 3) 7) - 4) == 0 then 32 else bif IntKind.i64.wrap (IntKind.i64.wrap (andI IntKind.u8 (shrI IntKind.u8 op 3) 7) - 4) == ↑(0 + 1) then 11 else bif IntKind.i64.wrap (IntKind.i64.wrap (andI IntKind.u8 (shrI IntKind.u8 op 3) 7) - 4) == ↑(0 + 1 + 1) then 36 else 35, 1, 0, 0, 0, 0, 0, 0)))))
       (.br (andI IntKind.u8 op 7 == 4)
        (.leaf (some ((25, x4))))
        (.br (andI IntKind.u8 op 7 == 5)
         (.leaf (some ((30, x2))))
         (.br (andI IntKind.u8 op 7 == 6)
          (.leaf (some ((13, 2, 0, 0, 0, IntKind.i64.wrap (andI IntKind.u8 (shrI IntKind.u8 op 3) 7), 0, 0))))
          (.leaf (some ((27, 1, 0, 0, 0, 0, 0, IntKind.i64.wrap (andI IntKind.u8 (shrI IntKind.u8 op 3) 7))))))))))
     (.leaf none))
    (.leaf none)))
def pOhigh (op : Int) : Int × Int × Int × Int × Int × Int × Int × Int := getO pOhighRs.dflt (pOhighT op).val
def pOhighC (op : Int) : Bool := okB (pOhighT op).val
def pOhighE : Entry := pureE pOhighTs pOhighRs (fun a => some (pOhighC a)) (fun a => pOhigh a)
theorem pOhigh_ok : EntryOk Tryz.prog 213 pOhighE :=
  pure_part (P := Tryz.prog) (n := 614741495173873727) (k := 8) (l := []) (ol := []) trivial Tryz.func213 rfl (by kernel_rfl) Tryz.call213 trivial (ts := pOhighTs) (rs := pOhighRs) (t := fun a => pOhighT a) (fun a => by kernel_rfl)
abbrev pDecodeTs : List Sh := [Sh.one (R.int IntKind.i64), Sh.one (R.int IntKind.u8)]
abbrev pDecodeRs : Rs := Rs.one (Sh.agg (R.pair (R.int IntKind.i64) (R.pair (R.int IntKind.i64) (R.pair (R.int IntKind.i64) (R.pair (R.int IntKind.i64) (R.pair (R.int IntKind.i64) (R.pair (R.int IntKind.i64) (R.pair (R.int IntKind.i64) (R.int IntKind.i64)))))))))
def pDecodeT (chip : Int) (op : Int) : RT (Option TI) :=
  let x1 : Int × Int × Int × Int × Int × Int × Int × Int := (37, 1, 0, 0, 0, 0, 0, 0)
  let x2 : Int × Int × Int × Int × Int × Int × Int × Int := (2, 1, IntKind.i64.wrap (andI IntKind.u8 (shrI IntKind.u8 op 3) 7), IntKind.i64.wrap (andI IntKind.u8 op 7), 0, 0, 0, 0)
  let x3 : Int × Int × Int × Int × Int × Int × Int × Int := (12, 1, 0, IntKind.i64.wrap (andI IntKind.u8 op 7), 0, IntKind.i64.wrap (andI IntKind.u8 (shrI IntKind.u8 op 3) 7), 0, 0)
  .br (chip == 2)
  (.br (pLater op).2
   (.leaf (some (pLater op).1))
   (.br (pEarlier op).2
    (.leaf (some (pEarlier op).1))
    (.br (!shrI IntKind.u8 op 6 == 0 || pOlowC op)
     (.br (shrI IntKind.u8 op 6 == 0)
      (.leaf (some (pOlow op)))
      (.br (shrI IntKind.u8 op 6 == 1)
       (.br (op == 118)
        (.leaf (some (x1)))
        (.leaf (some (x2))))
       (.br (shrI IntKind.u8 op 6 == 2)
        (.leaf (some (x3)))
        (.br (pOhighC op)
         (.leaf (some (pOhigh op)))
         (.leaf none)))))
     (.leaf none))))
  (.br (pEarlier op).2
   (.leaf (some (pEarlier op).1))
   (.br (!shrI IntKind.u8 op 6 == 0 || pOlowC op)
    (.br (shrI IntKind.u8 op 6 == 0)
     (.leaf (some (pOlow op)))
     (.br (shrI IntKind.u8 op 6 == 1)
      (.br (op == 118)
       (.leaf (some (x1)))
       (.leaf (some (x2))))
      (.br (shrI IntKind.u8 op 6 == 2)
       (.leaf (some (x3)))
       (.br (pOhighC op)
        (.leaf (some (pOhigh op)))
        (.leaf none)))))
    (.leaf none)))
def pDecode (chip : Int) (op : Int) : Int × Int × Int × Int × Int × Int × Int × Int := getO pDecodeRs.dflt (pDecodeT chip op).val
def pDecodeC (chip : Int) (op : Int) : Bool := okB (pDecodeT chip op).val
def pDecodeE : Entry := pureE pDecodeTs pDecodeRs (fun a => some (pDecodeC a.1 a.2)) (fun a => pDecode a.1 a.2)
theorem pDecode_ok : EntryOk Tryz.prog 163 pDecodeE :=
  pure_part (P := Tryz.prog) (n := 17594467746303) (k := 8) (l := [(210, pLaterE), (211, pEarlierE), (212, pOlowE), (213, pOhighE)]) (ol := []) ⟨pLater_ok, pEarlier_ok, pOlow_ok, pOhigh_ok, trivial⟩ Tryz.func163 rfl (by kernel_rfl) Tryz.call163 trivial (ts := pDecodeTs) (rs := pDecodeRs) (t := fun a => pDecodeT a.1 a.2) (fun a => by kernel_rfl)
def rOnT (chip : Int) : RT (Bool) :=
  .leaf (chip == 2)
def rOn (chip : Int) : Bool := (rOnT chip).val
def rParityT (b : Int) : RT (Bool) :=
  let x1 : Int := IntKind.i64.wrap (IntKind.i64.wrap (IntKind.i64.wrap (IntKind.i64.wrap (0 + 1) + 1) + 1) + 1)
  let x2 : Int := IntKind.i64.wrap (x1 + 1)
  let x3 : Int := IntKind.i64.wrap (x2 + 1)
  let x4 : Bool := bif andI IntKind.u8 (shrI IntKind.u8 b (IntKind.i64.wrap (0 + 1))) 1 == 1 then !!andI IntKind.u8 (shrI IntKind.u8 b 0) 1 == 1 else !andI IntKind.u8 (shrI IntKind.u8 b 0) 1 == 1
  let x5 : Bool := bif andI IntKind.u8 (shrI IntKind.u8 b (IntKind.i64.wrap (IntKind.i64.wrap (0 + 1) + 1))) 1 == 1 then !x4 else x4
  let x6 : Bool := bif andI IntKind.u8 (shrI IntKind.u8 b (IntKind.i64.wrap (IntKind.i64.wrap (IntKind.i64.wrap (0 + 1) + 1) + 1))) 1 == 1 then !x5 else x5
  let x7 : Bool := bif andI IntKind.u8 (shrI IntKind.u8 b x1) 1 == 1 then !x6 else x6
  let x8 : Bool := bif andI IntKind.u8 (shrI IntKind.u8 b x2) 1 == 1 then !x7 else x7
  let x9 : Bool := bif andI IntKind.u8 (shrI IntKind.u8 b x3) 1 == 1 then !x8 else x8
  .leaf (bif andI IntKind.u8 (shrI IntKind.u8 b (IntKind.i64.wrap (x3 + 1))) 1 == 1 then !x9 else x9)
def rParity (b : Int) : Bool := (rParityT b).val
def rMajT (a : Bool) (b : Bool) (c : Bool) : RT (Bool) :=
  .leaf (bif a then b || bif a then c || b && c else b && c else bif a then c || b && c else b && c)
def rMaj (a : Bool) (b : Bool) (c : Bool) : Bool := (rMajT a b c).val
def rOneT (b : Bool) : RT (Int) :=
  .br (b)
  (.leaf (1))
  (.leaf (0))
def rOne (b : Bool) : Int := (rOneT b).val
def rSignedT (n : Int) : RT (Int) :=
  .leaf (IntKind.i64.wrap (IntKind.i8.wrap n))
def rSigned (n : Int) : Int := (rSignedT n).val
def rSumT (a : Int) (b : Int) (c : Bool) : RT (Int × Bool × Bool × Bool) :=
  let x1 : Bool := decide (IntKind.i64.wrap (IntKind.i64.wrap (rSigned a + rSigned b) + rOne c) < -128)
  let x2 : Int := IntKind.i64.wrap (IntKind.i64.wrap (IntKind.i64.wrap a + IntKind.i64.wrap b) + rOne c)
  let x3 : Int := IntKind.u8.wrap x2
  let x4 : Bool := decide (x2 > 255)
  let x5 : Bool := decide (IntKind.i64.wrap (IntKind.i64.wrap (IntKind.i64.wrap (andI IntKind.u8 a 15) + IntKind.i64.wrap (andI IntKind.u8 b 15)) + rOne c) > 15)
  .leaf ((bif x1 then x3 else x3, bif x1 then x4 else x4, bif x1 then x5 else x5, x1 || decide (IntKind.i64.wrap (IntKind.i64.wrap (rSigned a + rSigned b) + rOne c) > 127)))
def rSum (a : Int) (b : Int) (c : Bool) : Int × Bool × Bool × Bool := (rSumT a b c).val
def rDiffT (a : Int) (b : Int) (c : Bool) : RT (Int × Bool × Bool × Bool) :=
  let x1 : Bool := decide (IntKind.i64.wrap (IntKind.i64.wrap (rSigned a - rSigned b) - rOne c) < -128)
  let x2 : Int := IntKind.i64.wrap (IntKind.i64.wrap (IntKind.i64.wrap a - IntKind.i64.wrap b) - rOne c)
  let x3 : Int := IntKind.u8.wrap x2
  let x4 : Bool := decide (x2 < 0)
  let x5 : Bool := decide (IntKind.i64.wrap (IntKind.i64.wrap (IntKind.i64.wrap (IntKind.i64.wrap (andI IntKind.u8 a 15) + IntKind.i64.wrap (IntKind.u8.wrap (15 - andI IntKind.u8 b 15))) + 1) - rOne c) > 15)
  .leaf ((bif x1 then x3 else x3, bif x1 then x4 else x4, bif x1 then x5 else x5, x1 || decide (IntKind.i64.wrap (IntKind.i64.wrap (rSigned a - rSigned b) - rOne c) > 127)))
def rDiff (a : Int) (b : Int) (c : Bool) : Int × Bool × Bool × Bool := (rDiffT a b c).val
def rJoinT (h : Int) (l : Int) : RT (Int) :=
  .leaf (orI IntKind.u16 (shlI IntKind.u16 (IntKind.u16.wrap h) 8) (IntKind.u16.wrap l))
def rJoin (h : Int) (l : Int) : Int := (rJoinT h l).val
abbrev rBitRs : Rs := Rs.one (Sh.one (R.int IntKind.u8))
def rBitT (b : Bool) (n : Int) : RT (Option (Int)) :=
  .br (!b || decide (0 ≤ n))
  (.br (b)
   (.leaf (some (shlI IntKind.u8 1 n)))
   (.leaf (some (0))))
  (.leaf none)
def rBit (b : Bool) (n : Int) : Int := getO rBitRs.dflt (rBitT b n).val
def rBitC (b : Bool) (n : Int) : Bool := okB (rBitT b n).val
abbrev rPackRs : Rs := Rs.one (Sh.one (R.int IntKind.u8))
def rPackT (chip : Int) (f : TF) : RT (Option (Int)) :=
  let x1 : Int := orI IntKind.u8 (orI IntKind.u8 (orI IntKind.u8 (orI IntKind.u8 (rBit f.1 7) (rBit f.2.1 6)) (rBit f.2.2.2.1 4)) (rBit f.2.2.2.2.1 2)) (rBit f.2.2.2.2.2.2 0)
  .br (!rBitC f.1 7 || (!rBitC f.2.1 6 || (!rBitC f.2.2.2.1 4 || (!rBitC f.2.2.2.2.1 2 || rBitC f.2.2.2.2.2.2 0))))
  (.br (!rBitC f.1 7 || (!rBitC f.2.1 6 || (!rBitC f.2.2.2.1 4 || rBitC f.2.2.2.2.1 2)))
   (.br (!rBitC f.1 7 || (!rBitC f.2.1 6 || rBitC f.2.2.2.1 4))
    (.br (!rBitC f.1 7 || rBitC f.2.1 6)
     (.br (rBitC f.1 7)
      (.br (!rOn chip || (!rBitC f.2.2.1 5 || rBitC f.2.2.2.2.2.1 1))
       (.br (!rOn chip || rBitC f.2.2.1 5)
        (.br (rOn chip)
         (.leaf (some (orI IntKind.u8 (orI IntKind.u8 x1 (rBit f.2.2.1 5)) (rBit f.2.2.2.2.2.1 1))))
         (.leaf (some (orI IntKind.u8 x1 2))))
        (.leaf none))
       (.leaf none))
      (.leaf none))
     (.leaf none))
    (.leaf none))
   (.leaf none))
  (.leaf none)
def rPack (chip : Int) (f : TF) : Int := getO rPackRs.dflt (rPackT chip f).val
def rPackC (chip : Int) (f : TF) : Bool := okB (rPackT chip f).val
def rUnpackT (chip : Int) (b : Int) : RT TF :=
  .leaf ((andI IntKind.u8 b 128 != 0, andI IntKind.u8 b 64 != 0, rOn chip && andI IntKind.u8 b 32 != 0, andI IntKind.u8 b 16 != 0, andI IntKind.u8 b 4 != 0, rOn chip && andI IntKind.u8 b 2 != 0, andI IntKind.u8 b 1 != 0))
def rUnpack (chip : Int) (b : Int) : TF := (rUnpackT chip b).val
def rOfT (r : Int) : RT TF :=
  .leaf ((decide (r ≥ 128), r == 0, false, false, rParity r, false, false))
def rOf (r : Int) : TF := (rOfT r).val
def rOnlyT (chip : Int) (f : TF) (k : Bool) (v : Bool) : RT TF :=
  .leaf ((f.1, f.2.1, rOn chip && bif rOn chip then k else k, f.2.2.2.1, f.2.2.2.2.1, bif rOn chip then rOn chip && v else rOn chip && v, f.2.2.2.2.2.2))
def rOnly (chip : Int) (f : TF) (k : Bool) (v : Bool) : TF := (rOnlyT chip f k v).val
abbrev rGetRs : Rs := Rs.one (Sh.one (R.int IntKind.u8))
def rGetT (r : TR) (n : Int) : RT (Option (Int)) :=
  .br (decide (0 ≤ andI IntKind.i64 n 7 ∧ andI IntKind.i64 n 7 < 8))
  (.leaf (some (bif andI IntKind.i64 n 7 == 0 then r.2.1 else bif andI IntKind.i64 n 7 == ↑(0 + 1) then r.2.2.1 else bif andI IntKind.i64 n 7 == ↑(0 + 1 + 1) then r.2.2.2.1 else bif andI IntKind.i64 n 7 == ↑(0 + 1 + 1 + 1) then r.2.2.2.2.1 else bif andI IntKind.i64 n 7 == ↑(0 + 1 + 1 + 1 + 1) then r.2.2.2.2.2.1 else bif andI IntKind.i64 n 7 == ↑(0 + 1 + 1 + 1 + 1 + 1) then r.2.2.2.2.2.2.1 else bif andI IntKind.i64 n 7 == ↑(0 + 1 + 1 + 1 + 1 + 1 + 1) then 0 else r.1)))
  (.leaf none)
def rGet (r : TR) (n : Int) : Int := getO rGetRs.dflt (rGetT r n).val
def rGetC (r : TR) (n : Int) : Bool := okB (rGetT r n).val
def rSetT (r : TR) (n : Int) (v : Int) : RT TR :=
  .leaf ((bif andI IntKind.i64 n 7 == 0 then r.1 else bif andI IntKind.i64 n 7 == 1 then r.1 else bif andI IntKind.i64 n 7 == 2 then r.1 else bif andI IntKind.i64 n 7 == 3 then r.1 else bif andI IntKind.i64 n 7 == 4 then r.1 else bif andI IntKind.i64 n 7 == 5 then r.1 else bif andI IntKind.i64 n 7 == 7 then v else r.1, bif andI IntKind.i64 n 7 == 0 then v else r.2.1, bif andI IntKind.i64 n 7 == 0 then r.2.2.1 else bif andI IntKind.i64 n 7 == 1 then v else r.2.2.1, bif andI IntKind.i64 n 7 == 0 then r.2.2.2.1 else bif andI IntKind.i64 n 7 == 1 then r.2.2.2.1 else bif andI IntKind.i64 n 7 == 2 then v else r.2.2.2.1, bif andI IntKind.i64 n 7 == 0 then r.2.2.2.2.1 else bif andI IntKind.i64 n 7 == 1 then r.2.2.2.2.1 else bif andI IntKind.i64 n 7 == 2 then r.2.2.2.2.1 else bif andI IntKind.i64 n 7 == 3 then v else r.2.2.2.2.1, bif andI IntKind.i64 n 7 == 0 then r.2.2.2.2.2.1 else bif andI IntKind.i64 n 7 == 1 then r.2.2.2.2.2.1 else bif andI IntKind.i64 n 7 == 2 then r.2.2.2.2.2.1 else bif andI IntKind.i64 n 7 == 3 then r.2.2.2.2.2.1 else bif andI IntKind.i64 n 7 == 4 then v else r.2.2.2.2.2.1, bif andI IntKind.i64 n 7 == 0 then r.2.2.2.2.2.2.1 else bif andI IntKind.i64 n 7 == 1 then r.2.2.2.2.2.2.1 else bif andI IntKind.i64 n 7 == 2 then r.2.2.2.2.2.2.1 else bif andI IntKind.i64 n 7 == 3 then r.2.2.2.2.2.2.1 else bif andI IntKind.i64 n 7 == 4 then r.2.2.2.2.2.2.1 else bif andI IntKind.i64 n 7 == 5 then v else r.2.2.2.2.2.2.1, r.2.2.2.2.2.2.2))
def rSet (r : TR) (n : Int) (v : Int) : TR := (rSetT r n v).val
abbrev rPairRs : Rs := Rs.one (Sh.one (R.int IntKind.u16))
def rPairT (r : TR) (n : Int) : RT (Option (Int)) :=
  .br (andI IntKind.i64 n 3 == 3)
  (.leaf (some r.2.2.2.2.2.2.2.2.1))
  (.br (!rGetC r (IntKind.i64.wrap (2 * andI IntKind.i64 n 3)) || rGetC r (IntKind.i64.wrap (IntKind.i64.wrap (2 * andI IntKind.i64 n 3) + 1)))
   (.br (rGetC r (IntKind.i64.wrap (2 * andI IntKind.i64 n 3)))
    (.leaf (some (rJoin (rGet r (IntKind.i64.wrap (2 * andI IntKind.i64 n 3))) (rGet r (IntKind.i64.wrap (IntKind.i64.wrap (2 * andI IntKind.i64 n 3) + 1))))))
    (.leaf none))
   (.leaf none))
def rPair (r : TR) (n : Int) : Int := getO rPairRs.dflt (rPairT r n).val
def rSetPairT (r : TR) (n : Int) (v : Int) : RT TR :=
  .br (andI IntKind.i64 n 3 == 3)
  (.leaf ((r.1, r.2.1, r.2.2.1, r.2.2.2.1, r.2.2.2.2.1, r.2.2.2.2.2.1, r.2.2.2.2.2.2.1, r.2.2.2.2.2.2.2.1, v, r.2.2.2.2.2.2.2.2.2)))
  (.leaf (rSet (rSet r (IntKind.i64.wrap (2 * andI IntKind.i64 n 3)) (IntKind.u8.wrap (shrI IntKind.u16 v 8))) (IntKind.i64.wrap (IntKind.i64.wrap (2 * andI IntKind.i64 n 3) + 1)) (IntKind.u8.wrap v)))
def rSetPair (r : TR) (n : Int) (v : Int) : TR := (rSetPairT r n v).val
abbrev rPSWRs : Rs := Rs.one (Sh.one (R.int IntKind.u16))
def rPSWT (chip : Int) (r : TR) : RT (Option (Int)) :=
  .br (rPackC chip r.2.2.2.2.2.2.2.1)
  (.leaf (some (rJoin r.1 (rPack chip r.2.2.2.2.2.2.2.1))))
  (.leaf none)
def rPSW (chip : Int) (r : TR) : Int := getO rPSWRs.dflt (rPSWT chip r).val
def rSetPSWT (chip : Int) (r : TR) (v : Int) : RT TR :=
  .leaf ((IntKind.u8.wrap (shrI IntKind.u16 v 8), r.2.1, r.2.2.1, r.2.2.2.1, r.2.2.2.2.1, r.2.2.2.2.2.1, r.2.2.2.2.2.2.1, rUnpack chip (IntKind.u8.wrap v), r.2.2.2.2.2.2.2.2))
def rSetPSW (chip : Int) (r : TR) (v : Int) : TR := (rSetPSWT chip r v).val
def rDoT (chip : Int) (op : Int) (a : Int) (b : Int) (f : TF) : RT (Int × Bool × Bool × Bool × Bool × Bool × Bool × Bool) :=
  let x1 : Bool := bif andI IntKind.i64 op 7 == 0 then andI IntKind.i64 op 7 == 0 else andI IntKind.i64 op 7 == 1
  let x2 : Bool := bif andI IntKind.i64 op 7 == 2 then andI IntKind.i64 op 7 == 2 else bif andI IntKind.i64 op 7 == 3 then andI IntKind.i64 op 7 == 3 else andI IntKind.i64 op 7 == 7
  let x3 : Int := bif x1 then bif andI IntKind.i64 op 7 == 1 then (rSum a b f.2.2.2.2.2.2).1 else (rSum a b false).1 else bif x2 then bif andI IntKind.i64 op 7 == 3 then (rDiff a b f.2.2.2.2.2.2).1 else (rDiff a b false).1 else bif andI IntKind.i64 op 7 == 4 then bif rOn chip then andI IntKind.u8 a b else andI IntKind.u8 a b else bif andI IntKind.i64 op 7 == 5 then xorI IntKind.u8 a b else bif andI IntKind.i64 op 7 == 6 then orI IntKind.u8 a b else 0
  let x4 : TF := rOf x3
  let x5 : Bool × Bool × Bool × Bool × Bool × Bool := x4.2
  let x6 : Bool × Bool × Bool × Bool × Bool := x5.2
  let x7 : Bool × Bool × Bool := x6.2.2
  let x8 : TF := rOnly chip (x4.1, x5.1, x6.1, bif x1 then bif andI IntKind.i64 op 7 == 1 then (rSum a b f.2.2.2.2.2.2).2.2.1 else (rSum a b false).2.2.1 else bif x2 then bif andI IntKind.i64 op 7 == 3 then (rDiff a b f.2.2.2.2.2.2).2.2.1 else (rDiff a b false).2.2.1 else andI IntKind.i64 op 7 == 4 && (rOn chip || andI IntKind.u8 (orI IntKind.u8 a b) 8 != 0), x7.1, x7.2.1, bif x1 then bif andI IntKind.i64 op 7 == 1 then (rSum a b f.2.2.2.2.2.2).2.1 else (rSum a b false).2.1 else x2 && bif andI IntKind.i64 op 7 == 3 then (rDiff a b f.2.2.2.2.2.2).2.1 else (rDiff a b false).2.1) (rMaj (decide (a ≥ 128)) (bif x1 then decide (b ≥ 128) else bif x2 then !decide (b ≥ 128) else decide (b ≥ 128)) (decide (x3 ≥ 128))) (bif x1 then bif andI IntKind.i64 op 7 == 1 then (rSum a b f.2.2.2.2.2.2).2.2.2 else (rSum a b false).2.2.2 else x2 && bif andI IntKind.i64 op 7 == 3 then (rDiff a b f.2.2.2.2.2.2).2.2.2 else (rDiff a b false).2.2.2)
  .br (andI IntKind.i64 op 7 == 7)
  (.leaf ((a, x8)))
  (.leaf ((x3, x8)))
def rDo (chip : Int) (op : Int) (a : Int) (b : Int) (f : TF) : Int × Bool × Bool × Bool × Bool × Bool × Bool × Bool := (rDoT chip op a b f).val
def rInrT (chip : Int) (v : Int) (f : TF) : RT (Int × Bool × Bool × Bool × Bool × Bool × Bool × Bool) :=
  .leaf (((rSum v 1 false).1, rOnly chip ((rOf (rSum v 1 false).1).1, (rOf (rSum v 1 false).1).2.1, (rOf (rSum v 1 false).1).2.2.1, (rSum v 1 false).2.2.1, (rOf (rSum v 1 false).1).2.2.2.2.1, (rOf (rSum v 1 false).1).2.2.2.2.2.1, f.2.2.2.2.2.2) (rMaj (decide (v ≥ 128)) false (decide ((rSum v 1 false).1 ≥ 128))) (rSum v 1 false).2.2.2))
def rInr (chip : Int) (v : Int) (f : TF) : Int × Bool × Bool × Bool × Bool × Bool × Bool × Bool := (rInrT chip v f).val
def rDcrT (chip : Int) (v : Int) (f : TF) : RT (Int × Bool × Bool × Bool × Bool × Bool × Bool × Bool) :=
  .leaf (((rDiff v 1 false).1, rOnly chip ((rOf (rDiff v 1 false).1).1, (rOf (rDiff v 1 false).1).2.1, (rOf (rDiff v 1 false).1).2.2.1, (rDiff v 1 false).2.2.1, (rOf (rDiff v 1 false).1).2.2.2.2.1, (rOf (rDiff v 1 false).1).2.2.2.2.2.1, f.2.2.2.2.2.2) (rMaj (decide (v ≥ 128)) true (decide ((rDiff v 1 false).1 ≥ 128))) (rDiff v 1 false).2.2.2))
def rDcr (chip : Int) (v : Int) (f : TF) : Int × Bool × Bool × Bool × Bool × Bool × Bool × Bool := (rDcrT chip v f).val
def rInxT (chip : Int) (v : Int) (f : TF) : RT (Int × Bool × Bool × Bool × Bool × Bool × Bool × Bool) :=
  .leaf ((IntKind.u16.wrap (v + 1), f.1, f.2.1, bif rOn chip then v == 65535 else f.2.2.1, f.2.2.2))
def rInx (chip : Int) (v : Int) (f : TF) : Int × Bool × Bool × Bool × Bool × Bool × Bool × Bool := (rInxT chip v f).val
def rDcxT (chip : Int) (v : Int) (f : TF) : RT (Int × Bool × Bool × Bool × Bool × Bool × Bool × Bool) :=
  .leaf ((IntKind.u16.wrap (v - 1), f.1, f.2.1, bif rOn chip then v == 0 else f.2.2.1, f.2.2.2))
def rDcx (chip : Int) (v : Int) (f : TF) : Int × Bool × Bool × Bool × Bool × Bool × Bool × Bool := (rDcxT chip v f).val
def rDadT (chip : Int) (a : Int) (b : Int) (f : TF) : RT (Int × Bool × Bool × Bool × Bool × Bool × Bool × Bool) :=
  .leaf ((IntKind.u16.wrap (a + b), f.1, f.2.1, f.2.2.1, f.2.2.2.1, f.2.2.2.2.1, bif rOn chip then decide (IntKind.i64.wrap (IntKind.i64.wrap (IntKind.i16.wrap a) + IntKind.i64.wrap (IntKind.i16.wrap b)) < -32768) || decide (IntKind.i64.wrap (IntKind.i64.wrap (IntKind.i16.wrap a) + IntKind.i64.wrap (IntKind.i16.wrap b)) > 32767) else f.2.2.2.2.2.1, decide (IntKind.i64.wrap (IntKind.i64.wrap a + IntKind.i64.wrap b) > 65535)))
def rDad (chip : Int) (a : Int) (b : Int) (f : TF) : Int × Bool × Bool × Bool × Bool × Bool × Bool × Bool := (rDadT chip a b f).val
def rDsubT (a : Int) (b : Int) : RT (Int × Bool × Bool × Bool × Bool × Bool × Bool × Bool) :=
  let x1 : Int × Bool × Bool × Bool := rDiff (IntKind.u8.wrap (shrI IntKind.u16 a 8)) (IntKind.u8.wrap (shrI IntKind.u16 b 8)) (rDiff (IntKind.u8.wrap a) (IntKind.u8.wrap b) false).2.1
  let x2 : Int := x1.1
  let x3 : Bool := x2 == 0
  let x4 : Int := rJoin x2 (rDiff (IntKind.u8.wrap a) (IntKind.u8.wrap b) false).1
  let x5 : Bool := decide (x2 ≥ 128)
  let x6 : Bool := rMaj (decide (a ≥ 32768)) (decide (b < 32768)) x5
  let x7 : Bool × Bool × Bool := x1.2
  let x8 : Bool × Bool := x7.2
  let x9 : Bool := x8.1
  let x10 : Bool := rParity x2
  let x11 : Bool := x8.2
  let x12 : Bool := x7.1
  .leaf ((bif x3 then x4 else x4, bif x3 then x5 else x5, x3 && (rDiff (IntKind.u8.wrap a) (IntKind.u8.wrap b) false).1 == 0, bif x3 then x6 else x6, bif x3 then x9 else x9, bif x3 then x10 else x10, bif x3 then x11 else x11, bif x3 then x12 else x12))
def rDsub (a : Int) (b : Int) : Int × Bool × Bool × Bool × Bool × Bool × Bool × Bool := (rDsubT a b).val
def rDaaT (chip : Int) (a : Int) (f : TF) : RT (Int × Bool × Bool × Bool × Bool × Bool × Bool × Bool) :=
  let x1 : Int := bif f.2.2.2.1 || decide (andI IntKind.u8 a 15 > 9) then 6 else 0
  let x2 : Int × Bool × Bool × Bool := rSum a (bif f.2.2.2.2.2.2 || decide (a > 153) then IntKind.u8.wrap (x1 + 96) else x1) false
  let x3 : Int := x2.1
  let x4 : TF := rOf x3
  let x5 : Bool × Bool × Bool × Bool × Bool × Bool := x4.2
  let x6 : Bool × Bool × Bool × Bool × Bool := x5.2
  let x7 : Bool × Bool := x2.2.2
  let x8 : Bool × Bool × Bool := x6.2.2
  .leaf ((x3, rOnly chip (x4.1, x5.1, x6.1, x7.1, x8.1, x8.2.1, f.2.2.2.2.2.2 || decide (a > 153)) (rMaj (decide (a ≥ 128)) false (decide (x3 ≥ 128))) x7.2))
def rDaa (chip : Int) (a : Int) (f : TF) : Int × Bool × Bool × Bool × Bool × Bool × Bool × Bool := (rDaaT chip a f).val
abbrev rRotRs : Rs := Rs.tup [Sh.one (R.int IntKind.u8), Sh.one R.bool]
def rRotT (op : Int) (a : Int) (c : Bool) : RT (Option (Int × Bool)) :=
  .br (andI IntKind.i64 op 3 == 0 || (andI IntKind.i64 op 3 == 1 || (!andI IntKind.i64 op 3 == 2 || rBitC c 0)))
  (.br (andI IntKind.i64 op 3 == 0)
   (.leaf (some ((orI IntKind.u8 (shlI IntKind.u8 a 1) (shrI IntKind.u8 a 7), decide (a ≥ 128)))))
   (.br (andI IntKind.i64 op 3 == 1)
    (.leaf (some ((orI IntKind.u8 (shrI IntKind.u8 a 1) (shlI IntKind.u8 a 7), andI IntKind.u8 a 1 == 1))))
    (.br (andI IntKind.i64 op 3 == 2)
     (.leaf (some ((orI IntKind.u8 (shlI IntKind.u8 a 1) (rBit c 0), decide (a ≥ 128)))))
     (.br (rBitC c 7)
      (.leaf (some ((orI IntKind.u8 (shrI IntKind.u8 a 1) (rBit c 7), andI IntKind.u8 a 1 == 1))))
      (.leaf none)))))
  (.leaf none)
def rRot (op : Int) (a : Int) (c : Bool) : Int × Bool := getO rRotRs.dflt (rRotT op a c).val
def rArhlT (v : Int) : RT (Int × Bool) :=
  .leaf ((orI IntKind.u16 (shrI IntKind.u16 v 1) (andI IntKind.u16 v 32768), andI IntKind.u16 v 1 == 1))
def rArhl (v : Int) : Int × Bool := (rArhlT v).val
abbrev rRdelRs : Rs := Rs.tup [Sh.one (R.int IntKind.u16), Sh.one R.bool, Sh.one R.bool]
def rRdelT (v : Int) (c : Bool) : RT (Option (Int × Bool × Bool)) :=
  .br (rBitC c 0)
  (.leaf (some ((orI IntKind.u16 (shlI IntKind.u16 v 1) (IntKind.u16.wrap (rBit c 0)), decide (v ≥ 32768), andI IntKind.u16 (orI IntKind.u16 (shlI IntKind.u16 v 1) (IntKind.u16.wrap (rBit c 0))) 32768 != andI IntKind.u16 v 32768))))
  (.leaf none)
def rRdel (v : Int) (c : Bool) : Int × Bool × Bool := getO rRdelRs.dflt (rRdelT v c).val
abbrev rBit14Rs : Rs := Rs.one (Sh.one (R.int IntKind.u8))
def rBit14T (b : Bool) (n : Int) : RT (Option (Int)) :=
  .br (decide (0 ≤ n))
  (.leaf (some (IntKind.u8.wrap (shlI IntKind.i64 (rOne b) n))))
  (.leaf none)
def rBit14 (b : Bool) (n : Int) : Int := getO rBit14Rs.dflt (rBit14T b n).val
def rBit14C (b : Bool) (n : Int) : Bool := okB (rBit14T b n).val
abbrev rRimRs : Rs := Rs.tup [Sh.one (R.int IntKind.u8), Sh.agg rcCPU]
def rRimT (c : TC) (l : Bool × Bool × Bool × Bool × Bool × Bool × Bool × Bool × Bool) : RT (Option (Int × TC)) :=
  let x1 : Bool := bif c.2.2.2.2.2.2.2.2.2.2.1 then c.2.2.2.2.2.2.2.2.2.2.2.1 else c.2.2.1
  .br (!rBit14C l.2.2.2.1 7 || (!rBit14C c.2.2.2.2.2.2.2.1 6 || (!rBit14C l.2.2.2.2.2.2.1 5 || (!rBit14C l.2.2.2.2.2.2.2.1 4 || rBit14C x1 3))))
  (.br (!rBit14C l.2.2.2.1 7 || (!rBit14C c.2.2.2.2.2.2.2.1 6 || (!rBit14C l.2.2.2.2.2.2.1 5 || rBit14C l.2.2.2.2.2.2.2.1 4)))
   (.br (!rBit14C l.2.2.2.1 7 || (!rBit14C c.2.2.2.2.2.2.2.1 6 || rBit14C l.2.2.2.2.2.2.1 5))
    (.br (!rBit14C l.2.2.2.1 7 || rBit14C c.2.2.2.2.2.2.2.1 6)
     (.br (rBit14C l.2.2.2.1 7)
      (.leaf (some ((orI IntKind.u8 (orI IntKind.u8 (orI IntKind.u8 (orI IntKind.u8 (orI IntKind.u8 (rBit14 l.2.2.2.1 7) (rBit14 c.2.2.2.2.2.2.2.1 6)) (rBit14 l.2.2.2.2.2.2.1 5)) (rBit14 l.2.2.2.2.2.2.2.1 4)) (rBit14 x1 3)) (andI IntKind.u8 c.2.2.2.2.2.1 7), c.1, c.2.1, c.2.2.1, c.2.2.2.1, c.2.2.2.2.1, c.2.2.2.2.2.1, c.2.2.2.2.2.2.1, c.2.2.2.2.2.2.2.1, c.2.2.2.2.2.2.2.2.1, c.2.2.2.2.2.2.2.2.2.1, false, false, c.2.2.2.2.2.2.2.2.2.2.2.2))))
      (.leaf none))
     (.leaf none))
    (.leaf none))
   (.leaf none))
  (.leaf none)
def rRim (c : TC) (l : Bool × Bool × Bool × Bool × Bool × Bool × Bool × Bool × Bool) : Int × TC := getO rRimRs.dflt (rRimT c l).val
def rRimC (c : TC) (l : Bool × Bool × Bool × Bool × Bool × Bool × Bool × Bool × Bool) : Bool := okB (rRimT c l).val
def rSimT (c : TC) (a : Int) : RT TC :=
  .leaf ((c.1, c.2.1, c.2.2.1, c.2.2.2.1, c.2.2.2.2.1, bif andI IntKind.u8 a 8 != 0 then andI IntKind.u8 a 7 else c.2.2.2.2.2.1, c.2.2.2.2.2.2.1, !andI IntKind.u8 a 16 != 0 && c.2.2.2.2.2.2.2.1, c.2.2.2.2.2.2.2.2.1, c.2.2.2.2.2.2.2.2.2.1, c.2.2.2.2.2.2.2.2.2.2.1, c.2.2.2.2.2.2.2.2.2.2.2.1, bif andI IntKind.u8 a 64 != 0 then andI IntKind.u8 a 128 != 0 else c.2.2.2.2.2.2.2.2.2.2.2.2))
def rSim (c : TC) (a : Int) : TC := (rSimT c a).val
def rHoldsT (c : Int) (f : TF) : RT (Bool) :=
  .br (c == 0)
  (.leaf (!f.2.1))
  (.br (c == 1)
   (.leaf f.2.1)
   (.br (c == 2)
    (.leaf (!f.2.2.2.2.2.2))
    (.br (c == 3)
     (.leaf f.2.2.2.2.2.2)
     (.br (c == 4)
      (.leaf (!f.2.2.2.2.1))
      (.br (c == 5)
       (.leaf f.2.2.2.2.1)
       (.br (c == 6)
        (.leaf (!f.1))
        (.br (c == 7)
         (.leaf f.1)
         (.br (c == 8)
          (.leaf (!f.2.2.1))
          (.br (c == 9)
           (.leaf f.2.2.1)
           (.br (c == 10)
            (.leaf f.2.2.2.2.2.1)
            (.leaf (c == 11))))))))))))
def rHolds (c : Int) (f : TF) : Bool := (rHoldsT c f).val
def rVectorT (s : Int) : RT (Int) :=
  .br (s == 1)
  (.leaf (36))
  (.br (s == 2)
   (.leaf (60))
   (.br (s == 3)
    (.leaf (52))
    (.br (s == 4)
     (.leaf (44))
     (.leaf (0)))))
def rVector (s : Int) : Int := (rVectorT s).val
def rInternalT (s : Int) : RT (Bool) :=
  .leaf (decide (s ≥ 1) && decide (s ≤ 4))
def rInternal (s : Int) : Bool := (rInternalT s).val
def rSpecialT (op : Int) : RT (TI × Bool) :=
  .br (op == 8)
  (.leaf (((40, 1, 0, 0, 0, 0, 0, 0), true)))
  (.br (op == 16)
   (.leaf (((41, 1, 0, 0, 0, 0, 0, 0), true)))
   (.br (op == 24)
    (.leaf (((42, 1, 0, 0, 0, 0, 0, 0), true)))
    (.br (op == 32)
     (.leaf (((38, 1, 0, 0, 0, 0, 0, 0), true)))
     (.br (op == 40)
      (.leaf (((43, 2, 0, 0, 0, 0, 0, 0), true)))
      (.br (op == 48)
       (.leaf (((39, 1, 0, 0, 0, 0, 0, 0), true)))
       (.br (op == 56)
        (.leaf (((44, 2, 0, 0, 0, 0, 0, 0), true)))
        (.br (op == 203)
         (.leaf (((45, 1, 0, 0, 0, 0, 10, 0), true)))
         (.br (op == 217)
          (.leaf (((46, 1, 0, 0, 0, 0, 0, 0), true)))
          (.br (op == 221)
           (.leaf (((24, 3, 0, 0, 0, 0, 8, 0), true)))
           (.br (op == 237)
            (.leaf (((47, 1, 0, 0, 0, 0, 0, 0), true)))
            (.br (op == 253)
             (.leaf (((24, 3, 0, 0, 0, 0, 9, 0), true)))
             (.leaf (((0, 0, 0, 0, 0, 0, 0, 0), false))))))))))))))
def rSpecial (op : Int) : TI × Bool := (rSpecialT op).val
abbrev rOlowRs : Rs := Rs.one (Sh.agg (R.pair (R.int IntKind.i64) (R.pair (R.int IntKind.i64) (R.pair (R.int IntKind.i64) (R.pair (R.int IntKind.i64) (R.pair (R.int IntKind.i64) (R.pair (R.int IntKind.i64) (R.pair (R.int IntKind.i64) (R.int IntKind.i64)))))))))
def rOlowT (y : Int) (z : Int) (p : Int) (q : Int) : RT (Option TI) :=
  let x1 : Bool := decide (0 ≤ IntKind.i64.wrap (y - 4) ∧ IntKind.i64.wrap (y - 4) < 4)
  .br (z == 0)
  (.leaf (some ((1, 1, 0, 0, 0, 0, 0, 0))))
  (.br (z == 1)
   (.br (q == 0)
    (.leaf (some ((4, 3, 0, 0, p, 0, 0, 0))))
    (.leaf (some ((18, 1, 0, 0, p, 0, 0, 0)))))
   (.br (!z == 2 || ((bif y == 0 then y == 0 else y == 2) || ((bif y == 1 then y == 1 else y == 3) || x1)))
    (.br (z == 2)
     (.br (bif y == 0 then y == 0 else y == 2)
      (.leaf (some ((10, 1, 0, 0, p, 0, 0, 0))))
      (.br (bif y == 1 then y == 1 else y == 3)
       (.leaf (some ((9, 1, 0, 0, p, 0, 0, 0))))
       (.leaf (some ((bif IntKind.i64.wrap (y - 4) == 0 then 8 else bif IntKind.i64.wrap (y - 4) == ↑(0 + 1) then 7 else bif IntKind.i64.wrap (y - 4) == ↑(0 + 1 + 1) then 6 else 5, 3, 0, 0, 0, 0, 0, 0))))))
     (.br (!z == 3 || decide (0 ≤ q ∧ q < 2))
      (.br (z == 3)
       (.leaf (some ((bif q == 0 then 16 else 17, 1, 0, 0, p, 0, 0, 0))))
       (.br (z == 4)
        (.leaf (some ((14, 1, y, 0, 0, 0, 0, 0))))
        (.br (z == 5)
         (.leaf (some ((15, 1, y, 0, 0, 0, 0, 0))))
         (.br (z == 6)
          (.leaf (some ((3, 2, y, 0, 0, 0, 0, 0))))
          (.br (decide (y < 4))
           (.leaf (some ((23, 1, 0, 0, 0, y, 0, 0))))
           (.br (x1)
            (.leaf (some ((bif IntKind.i64.wrap (y - 4) == 0 then 19 else bif IntKind.i64.wrap (y - 4) == ↑(0 + 1) then 20 else bif IntKind.i64.wrap (y - 4) == ↑(0 + 1 + 1) then 21 else 22, 1, 0, 0, 0, 0, 0, 0))))
            (.leaf none)))))))
      (.leaf none)))
    (.leaf none)))
def rOlow (y : Int) (z : Int) (p : Int) (q : Int) : Int × Int × Int × Int × Int × Int × Int × Int := getO rOlowRs.dflt (rOlowT y z p q).val
def rOlowC (y : Int) (z : Int) (p : Int) (q : Int) : Bool := okB (rOlowT y z p q).val
abbrev rOhighRs : Rs := Rs.one (Sh.agg (R.pair (R.int IntKind.i64) (R.pair (R.int IntKind.i64) (R.pair (R.int IntKind.i64) (R.pair (R.int IntKind.i64) (R.pair (R.int IntKind.i64) (R.pair (R.int IntKind.i64) (R.pair (R.int IntKind.i64) (R.int IntKind.i64)))))))))
def rOhighT (y : Int) (z : Int) (p : Int) (q : Int) : RT (Option TI) :=
  .br (z == 0)
  (.leaf (some ((26, 1, 0, 0, 0, 0, y, 0))))
  (.br (z == 1)
   (.br (q == 0)
    (.leaf (some ((31, 1, 0, 0, p, 0, 0, 0))))
    (.br (y == 5)
     (.leaf (some ((28, 1, 0, 0, 0, 0, 0, 0))))
     (.br (y == 7)
      (.leaf (some ((29, 1, 0, 0, 0, 0, 0, 0))))
      (.leaf (some ((26, 1, 0, 0, 0, 0, 11, 0)))))))
   (.br (z == 2 || (!z == 3 || ((bif y == 0 then y == 0 else y == 1) || (y == 2 || (y == 3 || decide (0 ≤ IntKind.i64.wrap (y - 4) ∧ IntKind.i64.wrap (y - 4) < 4))))))
    (.br (z == 2)
     (.leaf (some ((24, 3, 0, 0, 0, 0, y, 0))))
     (.br (z == 3)
      (.br (bif y == 0 then y == 0 else y == 1)
       (.leaf (some ((24, 3, 0, 0, 0, 0, 11, 0))))
       (.br (y == 2)
        (.leaf (some ((34, 2, 0, 0, 0, 0, 0, 0))))
        (.br (y == 3)
         (.leaf (some ((33, 2, 0, 0, 0, 0, 0, 0))))
         (.leaf (some ((bif IntKind.i64.wrap (y - 4) == 0 then 32 else bif IntKind.i64.wrap (y - 4) == ↑(0 + 1) then 11 else bif IntKind.i64.wrap (y - 4) == ↑(0 + 1 + 1) then 36 else 35, 1, 0, 0, 0, 0, 0, 0)))))))
      (.br (z == 4)
       (.leaf (some ((25, 3, 0, 0, 0, 0, y, 0))))
       (.br (z == 5)
        (.br (q == 0)
         (.leaf (some ((30, 1, 0, 0, p, 0, 0, 0))))
         (.leaf (some ((25, 3, 0, 0, 0, 0, 11, 0)))))
        (.br (z == 6)
         (.leaf (some ((13, 2, 0, 0, 0, y, 0, 0))))
         (.leaf (some ((27, 1, 0, 0, 0, 0, 0, y)))))))))
    (.leaf none)))
def rOhigh (y : Int) (z : Int) (p : Int) (q : Int) : Int × Int × Int × Int × Int × Int × Int × Int := getO rOhighRs.dflt (rOhighT y z p q).val
def rOhighC (y : Int) (z : Int) (p : Int) (q : Int) : Bool := okB (rOhighT y z p q).val
abbrev rDecodeRs : Rs := Rs.one (Sh.agg (R.pair (R.int IntKind.i64) (R.pair (R.int IntKind.i64) (R.pair (R.int IntKind.i64) (R.pair (R.int IntKind.i64) (R.pair (R.int IntKind.i64) (R.pair (R.int IntKind.i64) (R.pair (R.int IntKind.i64) (R.int IntKind.i64)))))))))
def rDecodeT (chip : Int) (op : Int) : RT (Option TI) :=
  .br ((rSpecial op).2 && rOn chip)
  (.leaf (some (rSpecial op).1))
  (.br (!shrI IntKind.u8 op 6 == 0 || rOlowC (IntKind.i64.wrap (andI IntKind.u8 (shrI IntKind.u8 op 3) 7)) (IntKind.i64.wrap (andI IntKind.u8 op 7)) (shrI IntKind.i64 (IntKind.i64.wrap (andI IntKind.u8 (shrI IntKind.u8 op 3) 7)) 1) (andI IntKind.i64 (IntKind.i64.wrap (andI IntKind.u8 (shrI IntKind.u8 op 3) 7)) 1))
   (.br (shrI IntKind.u8 op 6 == 0)
    (.leaf (some (rOlow (IntKind.i64.wrap (andI IntKind.u8 (shrI IntKind.u8 op 3) 7)) (IntKind.i64.wrap (andI IntKind.u8 op 7)) (shrI IntKind.i64 (IntKind.i64.wrap (andI IntKind.u8 (shrI IntKind.u8 op 3) 7)) 1) (andI IntKind.i64 (IntKind.i64.wrap (andI IntKind.u8 (shrI IntKind.u8 op 3) 7)) 1))))
    (.br (shrI IntKind.u8 op 6 == 1)
     (.br (op == 118)
      (.leaf (some ((37, 1, 0, 0, 0, 0, 0, 0))))
      (.leaf (some ((2, 1, IntKind.i64.wrap (andI IntKind.u8 (shrI IntKind.u8 op 3) 7), IntKind.i64.wrap (andI IntKind.u8 op 7), 0, 0, 0, 0)))))
     (.br (shrI IntKind.u8 op 6 == 2)
      (.leaf (some ((12, 1, 0, IntKind.i64.wrap (andI IntKind.u8 op 7), 0, IntKind.i64.wrap (andI IntKind.u8 (shrI IntKind.u8 op 3) 7), 0, 0))))
      (.br (rOhighC (IntKind.i64.wrap (andI IntKind.u8 (shrI IntKind.u8 op 3) 7)) (IntKind.i64.wrap (andI IntKind.u8 op 7)) (shrI IntKind.i64 (IntKind.i64.wrap (andI IntKind.u8 (shrI IntKind.u8 op 3) 7)) 1) (andI IntKind.i64 (IntKind.i64.wrap (andI IntKind.u8 (shrI IntKind.u8 op 3) 7)) 1))
       (.leaf (some (rOhigh (IntKind.i64.wrap (andI IntKind.u8 (shrI IntKind.u8 op 3) 7)) (IntKind.i64.wrap (andI IntKind.u8 op 7)) (shrI IntKind.i64 (IntKind.i64.wrap (andI IntKind.u8 (shrI IntKind.u8 op 3) 7)) 1) (andI IntKind.i64 (IntKind.i64.wrap (andI IntKind.u8 (shrI IntKind.u8 op 3) 7)) 1))))
       (.leaf none)))))
   (.leaf none))
def rDecode (chip : Int) (op : Int) : Int × Int × Int × Int × Int × Int × Int × Int := getO rDecodeRs.dflt (rDecodeT chip op).val
def rDecodeC (chip : Int) (op : Int) : Bool := okB (rDecodeT chip op).val
end
end Go.Proofs.YtpkijkmagnhciaaGreat
open Go Go.S3 Go.Proofs
set_option linter.unusedVariables false
set_option linter.unusedSimpArgs false
set_option maxRecDepth 100000
namespace Go.Proofs.YtpkijkmagnhciaaGreat
noncomputable section
theorem parity_eq (b : Int) (h : inR .u8 b) : pParityC b = true ∧ pParity b = rParity b := by
  have h1 := byte_all (fun b => pParityC b && (pParity b == rParity b)) (by kernel_rfl) b h
  simpa using h1
theorem maj_eq (a b c : Bool) : pMaj a b c = rMaj a b c := by cases a <;> cases b <;> cases c <;> rfl
theorem one_eq (a : Bool) : pOne a = rOne a := by cases a <;> rfl
theorem sum_eq (a b : Int) (c : Bool) : pSum a b c = rSum a b c := by
  simp only [pSum, pSumT, rSum, rSumT, RT.val, Bool.cond_self, pSigned, pSignedT, rSigned, rSignedT, one_eq]
theorem diff_eq (a b : Int) (c : Bool) : pDiff a b c = rDiff a b c := by
  have h1 := and15 a
  have h2 := and15 b
  have e : IntKind.wrap .i64 (IntKind.wrap .i64 (IntKind.wrap .i64 (IntKind.wrap .i64 (andI .u8 a 15) + 15) - IntKind.wrap .i64 (andI .u8 b 15)) + 1) = IntKind.wrap .i64 (IntKind.wrap .i64 (IntKind.wrap .i64 (andI .u8 a 15) + IntKind.wrap .i64 (IntKind.wrap .u8 (15 - andI .u8 b 15))) + 1) := by
    rw [wrap_u8]
    rw [wrap_i64 (andI .u8 a 15) (by omega) (by omega), wrap_i64 (andI .u8 b 15) (by omega) (by omega), wrap_i64 ((15 - andI .u8 b 15) % 256) (by omega) (by omega), wrap_i64 (andI .u8 a 15 + 15) (by omega) (by omega)]
    congr 1; rw [wrap_i64 _ (by omega) (by omega), wrap_i64 _ (by omega) (by omega)]; omega
  simp only [pDiff, pDiffT, rDiff, rDiffT, RT.val, Bool.cond_self, pSigned, pSignedT, rSigned, rSignedT, one_eq, e]
theorem join_eq (a b : Int) : pJoin a b = rJoin a b := rfl
theorem bit_ok (b : Bool) (n : Int) (h : 0 ≤ n) : pBitC b n = true ∧ pBit b n = bif b then shlI .u8 1 n else 0 := by
  cases b <;> simp [pBitC, pBit, pBitT, RT.val, h, okB, getO]
theorem rbit_ok (b : Bool) (n : Int) (h : 0 ≤ n) : rBitC b n = true ∧ rBit b n = bif b then shlI .u8 1 n else 0 := by
  cases b <;> simp [rBitC, rBit, rBitT, RT.val, h, okB, getO]
theorem on_eq (chip : Int) : rOn chip = (chip == 2) := rfl
theorem pack_C (chip : Int) (f) : pPackC chip f = true := by
  cases h : chip == 2 <;> simp [pPackC, pPackT, RT.val, bit_ok, okB, h]
theorem rpack_C (chip : Int) (f) : rPackC chip f = true := by
  cases h : chip == 2 <;> simp [rPackC, rPackT, RT.val, rbit_ok, on_eq, okB, h]
theorem pack_eq (chip : Int) (f) : pPack chip f = rPack chip f := by
  simp only [pPack, pPackT, rPack, rPackT, RT.val, bit_ok, rbit_ok, on_eq]; cases chip == 2 <;> simp [bit_ok, rbit_ok, getO]
theorem of_C (r : Int) (h : inR .u8 r) : pOfC r = true := by simp [pOfC, pOfT, RT.val, parity_eq r h, okB]
theorem of_eq (r : Int) (h : inR .u8 r) : pOf r = rOf r := by simp [pOf, pOfT, rOf, rOfT, RT.val, parity_eq r h, getO]
theorem get_C (r) (n : Int) : rGetC r n = true := by
  have := and7 n
  have h : decide (0 ≤ andI .i64 n 7 ∧ andI .i64 n 7 < 8) = true := by simp; omega
  simp only [rGetC, rGetT, RT.val, h, cond_true, okB]
theorem eight {m : Int} (h : 0 ≤ m ∧ m ≤ 7) : m = 0 ∨ m = 1 ∨ m = 2 ∨ m = 3 ∨ m = 4 ∨ m = 5 ∨ m = 6 ∨ m = 7 := by omega
theorem pget_ok (r) (n : Int) : pGet r n = rGet r n := by
  have h7 := and7 n
  have h : decide (0 ≤ andI .i64 n 7 ∧ andI .i64 n 7 < 8) = true := by simp; omega
  simp only [pGet, pGetT, rGet, rGetT, RT.val, h, cond_true, getO]
  generalize andI .i64 n 7 = m at *
  rcases eight h7 with rfl | rfl | rfl | rfl | rfl | rfl | rfl | rfl <;> rfl
theorem pset_ok (r) (n v : Int) : pSet r n v = rSet r n v := by
  have h7 := and7 n
  simp only [pSet, pSetT, rSet, rSetT, RT.val, cond_true, getO]
  generalize andI .i64 n 7 = m at *
  rcases eight h7 with rfl | rfl | rfl | rfl | rfl | rfl | rfl | rfl <;> rfl
theorem ppair_ok (r) (n : Int) : pPair r n = rPair r n := by
  simp only [pPair, pPairT, rPair, rPairT, RT.val, pget_ok, get_C, join_eq]
  cases andI .i64 n 3 == 3 <;> simp [okB, getO]
theorem psetpair_ok (r) (n v : Int) : pSetPair r n v = rSetPair r n v := by
  simp only [pSetPair, pSetPairT, rSetPair, rSetPairT, RT.val, pset_ok]
theorem ppsw_ok (chip : Int) (r) : pPSWC chip r = true ∧ pPSW chip r = rPSW chip r := by
  simp [pPSWC, pPSW, pPSWT, rPSW, rPSWT, RT.val, pack_C, rpack_C, pack_eq, join_eq, okB, getO]
theorem unpack_eq (chip : Int) (b : Int) : pUnpack chip b = rUnpack chip b := by
  simp only [pUnpack, pUnpackT, rUnpack, rUnpackT, RT.val, on_eq]
theorem psetpsw_ok (chip : Int) (r) (v : Int) : pSetPSW chip r v = rSetPSW chip r v := by
  simp only [pSetPSW, pSetPSWT, rSetPSW, rSetPSWT, RT.val, unpack_eq]
theorem holds_eq (c : Int) (f) : pHolds c f = rHolds c f := by
  simp only [pHolds, pHoldsT, rHolds, rHoldsT, RT.val]
  by_cases h : 0 ≤ c ∧ c ≤ 11
  · have : c = 0 ∨ c = 1 ∨ c = 2 ∨ c = 3 ∨ c = 4 ∨ c = 5 ∨ c = 6 ∨ c = 7 ∨ c = 8 ∨ c = 9 ∨ c = 10 ∨ c = 11 := by omega
    rcases this with rfl | rfl | rfl | rfl | rfl | rfl | rfl | rfl | rfl | rfl | rfl | rfl <;> simp
  · have e : ∀ k : Int, 0 ≤ k → k ≤ 11 → (c == k) = false := fun k h1 h2 => by simp; omega
    simp [e]
theorem sum_in (a b : Int) (c : Bool) : inR .u8 (rSum a b c).1 := by
  simp only [rSum, rSumT, RT.val, Bool.cond_self]; exact inR_wrap _ _
theorem diff_in (a b : Int) (c : Bool) : inR .u8 (rDiff a b c).1 := by
  simp only [rDiff, rDiffT, RT.val, Bool.cond_self]; exact inR_wrap _ _
theorem bits_in (a b : Int) : inR .u8 (andI .u8 a b) ∧ inR .u8 (orI .u8 a b) ∧ inR .u8 (xorI .u8 a b) := inR_bits _ _ _
theorem result_ok (chip v r : Int) (half over x : Bool) (f) (h : inR .u8 r) : pResultC chip v r half over x f = true ∧
    pResult chip v r half over x f = rOnly chip ((rOf r).1, (rOf r).2.1, (rOf r).2.2.1, half, (rOf r).2.2.2.2.1, (rOf r).2.2.2.2.2.1, f.2.2.2.2.2.2) (rMaj (decide (v ≥ 128)) x (decide (r ≥ 128))) over := by
  cases hc : chip == 2 <;> simp [pResultC, pResult, pResultT, rOnly, rOnlyT, RT.val, of_C r h, of_eq r h, okB, getO, on_eq, hc, maj_eq, rOf, rOfT]
theorem pinr_ok (chip v : Int) (f) : pInrC chip v f = true ∧ pInr chip v f = rInr chip v f := by
  have h := result_ok chip v (rSum v 1 false).1 (rSum v 1 false).2.2.1 (rSum v 1 false).2.2.2 false f (sum_in _ _ _)
  simp only [pInrC, pInr, pInrT, rInr, rInrT, RT.val, sum_eq, h.1, h.2, cond_true, okB, getO, and_self]
theorem pdcr_ok (chip v : Int) (f) : pDcrC chip v f = true ∧ pDcr chip v f = rDcr chip v f := by
  have h := result_ok chip v (rDiff v 1 false).1 (rDiff v 1 false).2.2.1 (rDiff v 1 false).2.2.2 true f (diff_in _ _ _)
  simp only [pDcrC, pDcr, pDcrT, rDcr, rDcrT, RT.val, diff_eq, h.1, h.2, cond_true, okB, getO, and_self]
theorem pinx_ok (chip v : Int) (f) : pInx chip v f = rInx chip v f := by
  simp only [pInx, pInxT, rInx, rInxT, RT.val, on_eq]
theorem pdcx_ok (chip v : Int) (f) : pDcx chip v f = rDcx chip v f := by
  simp only [pDcx, pDcxT, rDcx, rDcxT, RT.val, on_eq]
theorem pdaa_ok (chip a : Int) (f) : pDaaC chip a f = true ∧ pDaa chip a f = rDaa chip a f := by
  have h := fun x => of_C _ (sum_in a x false)
  have h2 := fun x => of_eq _ (sum_in a x false)
  cases hc : chip == 2 <;> simp [pDaaC, pDaa, pDaaT, rDaa, rDaaT, rOnly, rOnlyT, RT.val, sum_eq, h, h2, okB, getO, on_eq, hc, maj_eq, rOf, rOfT]
theorem pdsub_ok (a b : Int) : pDsubC a b = true ∧ pDsub a b = rDsub a b := by
  have h := fun x y z => of_C _ (diff_in x y z)
  have h2 := fun x y z => of_eq _ (diff_in x y z)
  simp [pDsubC, pDsub, pDsubT, rDsub, rDsubT, RT.val, diff_eq, h, h2, okB, getO, maj_eq, join_eq, rOf, rOfT, Bool.cond_self]
theorem parhl_ok (v : Int) : pArhl v = rArhl v := rfl
theorem low_ok (c : Bool) : pLow c = bif c then 1 else 0 := by cases c <;> rfl
theorem prot_ok (op a : Int) (c : Bool) : pRotC op a c = true ∧ pRot op a c = rRot op a c := by
  have h3 := and3 op
  simp only [pRotC, pRot, pRotT, rRot, rRotT, RT.val, low_ok, (rbit_ok c 0 (by decide)).1, (rbit_ok c 0 (by decide)).2, (rbit_ok c 7 (by decide)).1, (rbit_ok c 7 (by decide)).2]
  generalize andI .i64 op 3 = m at *
  have : m = 0 ∨ m = 1 ∨ m = 2 ∨ m = 3 := by omega
  rcases this with rfl | rfl | rfl | rfl <;> cases c <;> exact ⟨rfl, rfl⟩
theorem prdel_ok (v : Int) (c : Bool) (h : inR .u16 v) : pRdel v c = rRdel v c := by
  have hb := rbit_ok c 0 (by decide)
  have e : IntKind.wrap .u16 (bif c then 1 else 0) = IntKind.wrap .u16 (bif c then shlI .u8 1 0 else 0) := by cases c <;> rfl
  have hr : ∀ x, inR .u16 (orI .u16 x (IntKind.wrap .u16 (bif c then shlI .u8 1 0 else 0))) := fun x => (inR_bits _ _ _).2.1
  simp only [pRdel, pRdelT, rRdel, rRdelT, RT.val, low_ok, hb.1, hb.2, cond_true, getO, e]
  rw [and_top_ne _ (inR_bits _ _ _).2.2, tb_xor _ _ (hr _) h, and_top _ (hr _), and_top _ h]
  cases tb (orI .u16 (shlI .u16 v 1) (IntKind.wrap .u16 (bif c then shlI .u8 1 0 else 0))) <;> cases tb v <;> rfl
theorem pdad_ok (chip a b : Int) (f) (ha : inR .u16 a) (hb : inR .u16 b) : pDad chip a b f = rDad chip a b f := by
  have hr : inR .u16 (IntKind.wrap .u16 (a + b)) := inR_wrap _ _
  have ha' := inR_u16.1 ha
  have hb' := inR_u16.1 hb
  simp only [pDad, pDadT, rDad, rDadT, RT.val, on_eq]
  rw [and_top_ne _ (inR_bits _ _ _).1, tb_and _ _ (inR_bits _ _ _).2.2 (inR_bits _ _ _).2.2, tb_xor _ _ ha hr, tb_xor _ _ hb hr]
  have e1 : decide (IntKind.wrap .u16 (a + b) < a) = decide (IntKind.wrap .i64 (IntKind.wrap .i64 a + IntKind.wrap .i64 b) > 65535) := by
    rw [wrap_u16, wrap_i64 a (by omega) (by omega), wrap_i64 b (by omega) (by omega), wrap_i64 (a + b) (by omega) (by omega)]
    simp only [decide_eq_decide]; omega
  have e2 : (((tb a) ^^ (tb (IntKind.wrap .u16 (a + b)))) && ((tb b) ^^ (tb (IntKind.wrap .u16 (a + b))))) = (decide (IntKind.wrap .i64 (IntKind.wrap .i64 (IntKind.wrap .i16 a) + IntKind.wrap .i64 (IntKind.wrap .i16 b)) < -32768) || decide (IntKind.wrap .i64 (IntKind.wrap .i64 (IntKind.wrap .i16 a) + IntKind.wrap .i64 (IntKind.wrap .i16 b)) > 32767)) := by
    have ia := wrap_i16 a
    have ib := wrap_i16 b
    have hia : -32768 ≤ IntKind.wrap .i16 a ∧ IntKind.wrap .i16 a ≤ 32767 := by rw [ia]; split <;> omega
    have hib : -32768 ≤ IntKind.wrap .i16 b ∧ IntKind.wrap .i16 b ≤ 32767 := by rw [ib]; split <;> omega
    rw [wrap_i64 (IntKind.wrap .i16 a) (by omega) (by omega), wrap_i64 (IntKind.wrap .i16 b) (by omega) (by omega), wrap_i64 (IntKind.wrap .i16 a + IntKind.wrap .i16 b) (by omega) (by omega)]
    rw [ia, ib, wrap_u16]
    unfold tb
    by_cases h1 : a ≥ 32768 <;> by_cases h2 : b ≥ 32768 <;> by_cases h3 : (a + b) % 65536 ≥ 32768 <;> simp [h1, h2, h3] <;> (try split) <;> (try split) <;> omega
  rw [e1, e2]
theorem prim_ok (c l) : pRimC c l = true ∧ pRim c l = rRim c l ∧ rRimC c l = true := by
  have h : ∀ b n, 0 ≤ n → pSbitC b n = true ∧ pSbit b n = bif b then shlI .u8 1 n else 0 := fun b n h => by
    cases b <;> simp [pSbitC, pSbit, pSbitT, RT.val, h, okB, getO]
  have h3 : ∀ b, rBit14C b 3 = true ∧ rBit14 b 3 = bif b then shlI .u8 1 3 else 0 := fun b => by cases b <;> exact ⟨rfl, rfl⟩
  have h4 : ∀ b, rBit14C b 4 = true ∧ rBit14 b 4 = bif b then shlI .u8 1 4 else 0 := fun b => by cases b <;> exact ⟨rfl, rfl⟩
  have h5 : ∀ b, rBit14C b 5 = true ∧ rBit14 b 5 = bif b then shlI .u8 1 5 else 0 := fun b => by cases b <;> exact ⟨rfl, rfl⟩
  have h6 : ∀ b, rBit14C b 6 = true ∧ rBit14 b 6 = bif b then shlI .u8 1 6 else 0 := fun b => by cases b <;> exact ⟨rfl, rfl⟩
  have h7 : ∀ b, rBit14C b 7 = true ∧ rBit14 b 7 = bif b then shlI .u8 1 7 else 0 := fun b => by cases b <;> exact ⟨rfl, rfl⟩
  simp [pRimC, pRim, pRimT, rRimC, rRim, rRimT, RT.val, h, h3, h4, h5, h6, h7, okB, getO]
theorem psim_ok (c) (a : Int) : pSim c a = rSim c a := by
  simp only [pSim, pSimT, rSim, rSimT, RT.val]
theorem pvector_ok (s : Int) : pVector s = rVector s := by
  simp only [pVector, pVectorT, rVector, rVectorT, RT.val]
theorem plogic_ok (chip op a b : Int) : pLogicC chip op a b = true ∧ ∀ f, (andI .i64 op 7 = op) → 4 ≤ op → op ≤ 6 → pLogic chip op a b = rDo chip op a b f := by
  have h := fun x y => of_C _ (bits_in x y).1
  have h' := fun x y => of_C _ (bits_in x y).2.1
  have h'' := fun x y => of_C _ (bits_in x y).2.2
  have g := fun x y => of_eq _ (bits_in x y).1
  have g' := fun x y => of_eq _ (bits_in x y).2.1
  have g'' := fun x y => of_eq _ (bits_in x y).2.2
  have h0 := of_C 0 (by rw [inR_u8]; omega)
  constructor
  · cases h4 : op == 4 <;> cases h5 : op == 5 <;> cases h6 : op == 6 <;> simp [pLogicC, pLogicT, RT.val, h, h', h'', h0, okB, h4, h5, h6]
  · intro f e h4 h6
    have : op = 4 ∨ op = 5 ∨ op = 6 := by omega
    rcases this with rfl | rfl | rfl <;> cases hc : chip == 2 <;> simp [pLogic, pLogicT, rDo, rDoT, RT.val, h, h', h'', g, g', g'', getO, e, on_eq, hc, rOnly, rOnlyT, rOf, rOfT, maj_eq]
theorem pdo_ok (chip op a b : Int) (f) : pDoC chip op a b f = true ∧ pDo chip op a b f = rDo chip op a b f := by
  have h7 := and7 op
  have hs := fun x => of_C _ (sum_in a b x)
  have hs2 := fun x => of_eq _ (sum_in a b x)
  have hd := fun x => of_C _ (diff_in a b x)
  have hd2 := fun x => of_eq _ (diff_in a b x)
  have hl := plogic_ok chip (andI .i64 op 7) a b
  have hlt : decide (b < 128) = !decide (128 ≤ b) := by
    by_cases h : b < 128
    · have : ¬ 128 ≤ b := by omega
      simp [h, this]
    · have : 128 ≤ b := by omega
      simp [h, this]
  have hr : rDo chip (andI .i64 op 7) a b f = rDo chip op a b f := by
    have : andI .i64 (andI .i64 op 7) 7 = andI .i64 op 7 := by
      generalize andI .i64 op 7 = m at *
      rcases eight h7 with rfl | rfl | rfl | rfl | rfl | rfl | rfl | rfl <;> rfl
    simp only [rDo, rDoT, this]
  have he : andI .i64 (andI .i64 op 7) 7 = andI .i64 op 7 := by
    generalize andI .i64 op 7 = m at *
    rcases eight h7 with rfl | rfl | rfl | rfl | rfl | rfl | rfl | rfl <;> rfl
  rw [← hr]
  have hl2 := hl.2 f he
  have hl1 := hl.1
  clear hl hr
  simp only [pDoC, pDo, pDoT, RT.val]
  generalize andI .i64 op 7 = m at *
  rcases eight h7 with rfl | rfl | rfl | rfl | rfl | rfl | rfl | rfl
  case inr.inr.inr.inr.inl => simp [hl1, hl2, okB, getO]
  case inr.inr.inr.inr.inr.inl => simp [hl1, hl2, okB, getO]
  case inr.inr.inr.inr.inr.inr.inl => simp [hl1, hl2, okB, getO]
  all_goals cases hc : chip == 2 <;> simp [rDo, rDoT, RT.val, sum_eq, diff_eq, hs, hs2, hd, hd2, okB, getO, he, on_eq, hc, rOnly, rOnlyT, rOf, rOfT, maj_eq, hlt]
theorem pdec_chip (chip op : Int) (h : chip ≠ 2) : (pDecodeT chip op).val = (pDecodeT 0 op).val := by
  have h1 : (chip == 2) = false := by simpa using h
  have h0 : ((0 : Int) == 2) = false := rfl
  simp only [pDecodeT, RT.val, h1, h0]
theorem rdec_chip (chip op : Int) (h : chip ≠ 2) : (rDecodeT chip op).val = (rDecodeT 0 op).val := by
  have h1 : rOn chip = false := by simpa [on_eq] using h
  have h0 : rOn 0 = false := rfl
  simp only [rDecodeT, RT.val, h1, h0]
def decT (chip op : Int) : Bool := okB (pDecodeT chip op).val && okB (rDecodeT chip op).val && (pDecode chip op == rDecode chip op)
theorem dec_ok (chip op : Int) (h : inR .u8 op) : pDecodeC chip op = true ∧ pDecode chip op = rDecode chip op ∧ rDecodeC chip op = true := by
  have fin : ∀ c, decT c op = true → pDecodeC c op = true ∧ pDecode c op = rDecode c op ∧ rDecodeC c op = true := by
    intro c hc
    simp only [decT, Bool.and_eq_true, beq_iff_eq] at hc
    exact ⟨hc.1.1, hc.2, hc.1.2⟩
  by_cases hc : chip = 2
  · subst hc; exact fin 2 (byte_all (decT 2) (by kernel_rfl) op h)
  · have := fin 0 (byte_all (decT 0) (by kernel_rfl) op h)
    unfold pDecodeC pDecode rDecode rDecodeC at this ⊢
    rw [pdec_chip chip op hc, rdec_chip chip op hc]; exact this
def pJoin1E : Entry := pureE pJoinTs pJoinRs (fun _ => none) (fun a => rJoin a.1 a.2)
theorem pJoin1_ok : EntryOk Tryz.prog 207 pJoin1E := pJoin_ok.tot (fun a h => by simp) (fun a h => join_eq _ _)
def pGet1E : Entry := pureE pGetTs pGetRs (fun _ => none) (fun a => rGet a.1 a.2)
theorem pGet1_ok : EntryOk Tryz.prog 245 pGet1E := pGet_ok.tot (fun a h => by simp) (fun a h => pget_ok _ _)
def pSet1E : Entry := pureE pSetTs pSetRs (fun _ => none) (fun a => rSet a.1 a.2.1 a.2.2)
theorem pSet1_ok : EntryOk Tryz.prog 256 pSet1E := pSet_ok.tot (fun a h => by simp) (fun a h => pset_ok _ _ _)
def pPair1E : Entry := pureE pPairTs pPairRs (fun _ => none) (fun a => rPair a.1 a.2)
theorem pPair1_ok : EntryOk Tryz.prog 244 pPair1E := pPair_ok.tot (fun a h => by simp) (fun a h => ppair_ok _ _)
def pSetPair1E : Entry := pureE pSetPairTs pSetPairRs (fun _ => none) (fun a => rSetPair a.1 a.2.1 a.2.2)
theorem pSetPair1_ok : EntryOk Tryz.prog 257 pSetPair1E := pSetPair_ok.tot (fun a h => by simp) (fun a h => psetpair_ok _ _ _)
def pPSW1E : Entry := pureE pPSWTs pPSWRs (fun _ => none) (fun a => rPSW a.1 a.2)
theorem pPSW1_ok : EntryOk Tryz.prog 252 pPSW1E := pPSW_ok.tot (fun a h => by have h1 := (ppsw_ok a.1 a.2).1; simp [h1]) (fun a h => (ppsw_ok _ _).2)
def pSetPSW1E : Entry := pureE pSetPSWTs pSetPSWRs (fun _ => none) (fun a => rSetPSW a.1 a.2.1 a.2.2)
theorem pSetPSW1_ok : EntryOk Tryz.prog 265 pSetPSW1E := pSetPSW_ok.tot (fun a h => by simp) (fun a h => psetpsw_ok _ _ _)
def pDo1E : Entry := pureE pDoTs pDoRs (fun _ => none) (fun a => rDo a.1 a.2.1 a.2.2.1 a.2.2.2.1 a.2.2.2.2)
theorem pDo1_ok : EntryOk Tryz.prog 258 pDo1E := pDo_ok.tot (fun a h => by have h1 := (pdo_ok a.1 a.2.1 a.2.2.1 a.2.2.2.1 a.2.2.2.2).1; simp [h1]) (fun a h => (pdo_ok _ _ _ _ _).2)
def pInr1E : Entry := pureE pInrTs pInrRs (fun _ => none) (fun a => rInr a.1 a.2.1 a.2.2)
theorem pInr1_ok : EntryOk Tryz.prog 246 pInr1E := pInr_ok.tot (fun a h => by have h1 := (pinr_ok a.1 a.2.1 a.2.2).1; simp [h1]) (fun a h => (pinr_ok _ _ _).2)
def pDcr1E : Entry := pureE pDcrTs pDcrRs (fun _ => none) (fun a => rDcr a.1 a.2.1 a.2.2)
theorem pDcr1_ok : EntryOk Tryz.prog 247 pDcr1E := pDcr_ok.tot (fun a h => by have h1 := (pdcr_ok a.1 a.2.1 a.2.2).1; simp [h1]) (fun a h => (pdcr_ok _ _ _).2)
def pInx1E : Entry := pureE pInxTs pInxRs (fun _ => none) (fun a => rInx a.1 a.2.1 a.2.2)
theorem pInx1_ok : EntryOk Tryz.prog 260 pInx1E := pInx_ok.tot (fun a h => by simp) (fun a h => pinx_ok _ _ _)
def pDcx1E : Entry := pureE pDcxTs pDcxRs (fun _ => none) (fun a => rDcx a.1 a.2.1 a.2.2)
theorem pDcx1_ok : EntryOk Tryz.prog 261 pDcx1E := pDcx_ok.tot (fun a h => by simp) (fun a h => pdcx_ok _ _ _)
def pDaa1E : Entry := pureE pDaaTs pDaaRs (fun _ => none) (fun a => rDaa a.1 a.2.1 a.2.2)
theorem pDaa1_ok : EntryOk Tryz.prog 263 pDaa1E := pDaa_ok.tot (fun a h => by have h1 := (pdaa_ok a.1 a.2.1 a.2.2).1; simp [h1]) (fun a h => (pdaa_ok _ _ _).2)
def pDad1E : Entry := pureE pDadTs pDadRs (fun _ => none) (fun a => rDad a.1 a.2.1 a.2.2.1 a.2.2.2)
theorem pDad1_ok : EntryOk Tryz.prog 262 pDad1E := pDad_ok.tot (fun a h => by simp) (fun a h => pdad_ok _ _ _ _ h.2.1 h.2.2.1)
def pDsub1E : Entry := pureE pDsubTs pDsubRs (fun _ => none) (fun a => rDsub a.1 a.2)
theorem pDsub1_ok : EntryOk Tryz.prog 267 pDsub1E := pDsub_ok.tot (fun a h => by have h1 := (pdsub_ok a.1 a.2).1; simp [h1]) (fun a h => (pdsub_ok _ _).2)
def pArhl1E : Entry := pureE pArhlTs pArhlRs (fun _ => none) (fun a => rArhl a)
theorem pArhl1_ok : EntryOk Tryz.prog 268 pArhl1E := pArhl_ok.tot (fun a h => by simp) (fun a h => parhl_ok _)
def pRot1E : Entry := pureE pRotTs pRotRs (fun _ => none) (fun a => rRot a.1 a.2.1 a.2.2)
theorem pRot1_ok : EntryOk Tryz.prog 264 pRot1E := pRot_ok.tot (fun a h => by have h1 := (prot_ok a.1 a.2.1 a.2.2).1; simp [h1]) (fun a h => (prot_ok _ _ _).2)
def pRdel1E : Entry := pureE pRdelTs pRdelRs (fun _ => none) (fun a => rRdel a.1 a.2)
theorem pRdel1_ok : EntryOk Tryz.prog 269 pRdel1E := pRdel_ok.tot (fun a h => by simp) (fun a h => prdel_ok _ _ h.1)
def pRim1E : Entry := pureE pRimTs pRimRs (fun _ => none) (fun a => rRim a.1 a.2)
theorem pRim1_ok : EntryOk Tryz.prog 220 pRim1E := pRim_ok.tot (fun a h => by have h1 := (prim_ok a.1 a.2).1; simp [h1]) (fun a h => (prim_ok _ _).2.1)
def pSim1E : Entry := pureE pSimTs pSimRs (fun _ => none) (fun a => rSim a.1 a.2)
theorem pSim1_ok : EntryOk Tryz.prog 221 pSim1E := pSim_ok.tot (fun a h => by simp) (fun a h => psim_ok _ _)
def pHolds1E : Entry := pureE pHoldsTs pHoldsRs (fun _ => none) (fun a => rHolds a.1 a.2)
theorem pHolds1_ok : EntryOk Tryz.prog 284 pHolds1E := pHolds_ok.tot (fun a h => by simp) (fun a h => holds_eq _ _)
def pVector1E : Entry := pureE pVectorTs pVectorRs (fun _ => none) (fun a => rVector a)
theorem pVector1_ok : EntryOk Tryz.prog 168 pVector1E := pVector_ok.tot (fun a h => by simp) (fun a h => pvector_ok _)
def pDecode1E : Entry := pureE pDecodeTs pDecodeRs (fun _ => none) (fun a => rDecode a.1 a.2)
theorem pDecode1_ok : EntryOk Tryz.prog 163 pDecode1E := pDecode_ok.tot (fun a h => by have h1 := (dec_ok a.1 a.2 h.2).1; simp [h1]) (fun a h => (dec_ok a.1 a.2 h.2).2.1)
end
end Go.Proofs.YtpkijkmagnhciaaGreat
set_option linter.unusedSimpArgs false
open Go Go.S3 Go.Proofs
set_option linter.unusedVariables false
set_option maxRecDepth 100000
namespace Go.Proofs.YtpkijkmagnhciaaGreat
noncomputable section
abbrev instrR : R := R.pair (.int .i64) (R.pair (.int .i64) (R.pair (.int .i64) (R.pair (.int .i64) (R.pair (.int .i64) (R.pair (.int .i64) (.int .i64))))))
def pDecKE (k : Int) : Entry := pinE pDecodeTs instrR (fun a => rDecode a.1 a.2) k
theorem pDecK_ok (k : Int) : EntryOk Tryz.prog 163 (pDecKE k) := pinE_ok pDecode1_ok k
def pcOf (c : TC) : Int := c.2.1.2.2.2.2.2.2.2.2.2
def spOf (c : TC) : Int := c.2.1.2.2.2.2.2.2.2.2.1
def rgx (r : TR) (f : TF) (sp pc : Int) : TR := (r.1, r.2.1, r.2.2.1, r.2.2.2.1, r.2.2.2.2.1, r.2.2.2.2.2.1, r.2.2.2.2.2.2.1, f, sp, pc)
def fin3 (g : List Int) (l : List TY) : RT (Option (TY × Bool)) := .br (decide (iN (List.length g) ≥ iN (List.length l))) (.leaf (some (((0, 0, 0, 0), false)))) (.br (inRng (iN (List.length g)) (List.length l)) (.leaf (some ((R.get RY l (iN (List.length g)), true)))) (.leaf none))
end
end Go.Proofs.YtpkijkmagnhciaaGreat
set_option linter.unusedSimpArgs false
open Go Go.S3 Go.Proofs
set_option linter.unusedVariables false
set_option maxRecDepth 100000
namespace Go.Proofs.YtpkijkmagnhciaaGreat
noncomputable section
abbrev pInternalTs : List Sh := [Sh.one (R.int IntKind.i64)]
abbrev pInternalRs : Rs := Rs.one (Sh.one R.bool)
def pInternalT (s : Int) : RT (Bool) :=
  .leaf (decide (s ≥ 1) && decide (s ≤ 4))
def pInternal (s : Int) : Bool := (pInternalT s).val
def pInternalE : Entry := pureE pInternalTs pInternalRs (fun _ => none) (fun a => pInternal a)
theorem pInternal_ok : EntryOk Tryz.prog 158 pInternalE :=
  pure_tot (P := Tryz.prog) (n := 7) (k := 8) (l := []) (ol := []) trivial Tryz.func158 rfl (by kernel_rfl) Tryz.call158 trivial (ts := pInternalTs) (rs := pInternalRs) (t := fun a => pInternalT a) (fun a => by kernel_rfl)
abbrev qAtRb : R := R.pair rcCPU (R.pair R.bool (R.pair (R.sl (R.int IntKind.u8)) (R.pair (R.pair (R.int IntKind.i64) (R.pair (R.int IntKind.i64) (R.pair (R.int IntKind.i64) (R.pair (R.int IntKind.i64) (R.pair (R.int IntKind.i64) (R.pair (R.int IntKind.i64) (R.pair (R.int IntKind.i64) (R.int IntKind.i64)))))))) (R.sl (RY)))))
abbrev qAtTs : List Sh := [Sh.one (R.int IntKind.i64)]
abbrev qAtRs : Rs := Rs.one (Sh.one (R.int IntKind.u8))
def qAtT (s : TC × Bool × List Int × TI × List TY) (n : Int) : RT (Option (Int)) :=
  .br (!decide (n < ↑(List.length s.2.2.1)) || inRng n (List.length s.2.2.1))
  (.br (decide (n < ↑(List.length s.2.2.1)))
   (.leaf (some (R.get (R.int IntKind.u8) s.2.2.1 n)))
   (.leaf (some (0))))
  (.leaf none)
def qAt (s : TC × Bool × List Int × TI × List TY) (n : Int) : Int := getO qAtRs.dflt (qAtT s n).val
def qAtC (s : TC × Bool × List Int × TI × List TY) (n : Int) : Bool := okB (qAtT s n).val
def qAtE : Entry := readE qAtRb qAtTs qAtRs (fun a => some (qAtC a.1 a.2)) (fun a => qAt a.1 a.2)
theorem qAt_ok : EntryOk Tryz.prog 200 qAtE :=
  read_part (P := Tryz.prog) (n := 31) (k := 8) (l := []) (ol := []) trivial Tryz.func200 rfl (by kernel_rfl) Tryz.call200 trivial (rb := qAtRb) (ts := qAtTs) (rs := qAtRs) (by kernel_rfl) (t := fun a => qAtT a.1 a.2) (fun a => by kernel_rfl)
abbrev qJoinRb : R := R.pair rcCPU (R.pair R.bool (R.pair (R.sl (R.int IntKind.u8)) (R.pair (R.pair (R.int IntKind.i64) (R.pair (R.int IntKind.i64) (R.pair (R.int IntKind.i64) (R.pair (R.int IntKind.i64) (R.pair (R.int IntKind.i64) (R.pair (R.int IntKind.i64) (R.pair (R.int IntKind.i64) (R.int IntKind.i64)))))))) (R.sl (RY)))))
abbrev qJoinTs : List Sh := [Sh.one (R.int IntKind.i64)]
abbrev qJoinRs : Rs := Rs.one (Sh.one (R.int IntKind.u16))
def qJoinT (s : TC × Bool × List Int × TI × List TY) (n : Int) : RT (Option (Int)) :=
  .br (!qAtC s (IntKind.i64.wrap (n + 1)) || qAtC s n)
  (.br (qAtC s (IntKind.i64.wrap (n + 1)))
   (.leaf (some (rJoin (qAt s (IntKind.i64.wrap (n + 1))) (qAt s n))))
   (.leaf none))
  (.leaf none)
def qJoin (s : TC × Bool × List Int × TI × List TY) (n : Int) : Int := getO qJoinRs.dflt (qJoinT s n).val
def qJoinC (s : TC × Bool × List Int × TI × List TY) (n : Int) : Bool := okB (qJoinT s n).val
def qJoinE : Entry := readE qJoinRb qJoinTs qJoinRs (fun a => some (qJoinC a.1 a.2)) (fun a => qJoin a.1 a.2)
theorem qJoin_ok : EntryOk Tryz.prog 248 qJoinE :=
  read_part (P := Tryz.prog) (n := 31) (k := 8) (l := [(200, qAtE), (207, pJoin1E)]) (ol := []) ⟨qAt_ok, pJoin1_ok, trivial⟩ Tryz.func248 rfl (by kernel_rfl) Tryz.call248 trivial (rb := qJoinRb) (ts := qJoinTs) (rs := qJoinRs) (by kernel_rfl) (t := fun a => qJoinT a.1 a.2) (fun a => by kernel_rfl)
abbrev qBehindRb : R := R.pair rcCPU (R.pair R.bool (R.pair (R.sl (R.int IntKind.u8)) (R.pair (R.pair (R.int IntKind.i64) (R.pair (R.int IntKind.i64) (R.pair (R.int IntKind.i64) (R.pair (R.int IntKind.i64) (R.pair (R.int IntKind.i64) (R.pair (R.int IntKind.i64) (R.pair (R.int IntKind.i64) (R.int IntKind.i64)))))))) (R.sl (RY)))))
abbrev qBehindTs : List Sh := []
abbrev qBehindRs : Rs := Rs.one (Sh.one (R.int IntKind.u16))
def qBehindT (s : TC × Bool × List Int × TI × List TY) : RT (Int) :=
  .br s.2.1
  (.leaf s.1.2.1.2.2.2.2.2.2.2.2.2)
  (.leaf (IntKind.u16.wrap (s.1.2.1.2.2.2.2.2.2.2.2.2 + IntKind.u16.wrap s.2.2.2.1.2.1)))
def qBehind (s : TC × Bool × List Int × TI × List TY) : Int := (qBehindT s).val
def qBehindE : Entry := readE qBehindRb qBehindTs qBehindRs (fun _ => none) (fun a => qBehind a.1 )
theorem qBehind_ok : EntryOk Tryz.prog 216 qBehindE :=
  read_tot (P := Tryz.prog) (n := 7) (k := 8) (l := []) (ol := []) trivial Tryz.func216 rfl (by kernel_rfl) Tryz.call216 trivial (rb := qBehindRb) (ts := qBehindTs) (rs := qBehindRs) (by kernel_rfl) (t := fun a => qBehindT a.1 ) (fun a => by kernel_rfl)
abbrev qTakenRb : R := R.pair rcCPU (R.pair R.bool (R.pair (R.sl (R.int IntKind.u8)) (R.pair (R.pair (R.int IntKind.i64) (R.pair (R.int IntKind.i64) (R.pair (R.int IntKind.i64) (R.pair (R.int IntKind.i64) (R.pair (R.int IntKind.i64) (R.pair (R.int IntKind.i64) (R.pair (R.int IntKind.i64) (R.int IntKind.i64)))))))) (R.sl (RY)))))
abbrev qTakenTs : List Sh := []
abbrev qTakenRs : Rs := Rs.one (Sh.one R.bool)
def qTakenT (s : TC × Bool × List Int × TI × List TY) : RT (Bool) :=
  .leaf (rHolds s.2.2.2.1.2.2.2.2.2.2.1 s.1.2.1.2.2.2.2.2.2.2.1)
def qTaken (s : TC × Bool × List Int × TI × List TY) : Bool := (qTakenT s).val
def qTakenE : Entry := readE qTakenRb qTakenTs qTakenRs (fun _ => none) (fun a => qTaken a.1 )
theorem qTaken_ok : EntryOk Tryz.prog 250 qTakenE :=
  read_tot (P := Tryz.prog) (n := 7) (k := 8) (l := [(284, pHolds1E)]) (ol := []) ⟨pHolds1_ok, trivial⟩ Tryz.func250 rfl (by kernel_rfl) Tryz.call250 trivial (rb := qTakenRb) (ts := qTakenTs) (rs := qTakenRs) (by kernel_rfl) (t := fun a => qTakenT a.1 ) (fun a => by kernel_rfl)
abbrev qRegRb : R := R.pair rcCPU (R.pair R.bool (R.pair (R.sl (R.int IntKind.u8)) (R.pair (R.pair (R.int IntKind.i64) (R.pair (R.int IntKind.i64) (R.pair (R.int IntKind.i64) (R.pair (R.int IntKind.i64) (R.pair (R.int IntKind.i64) (R.pair (R.int IntKind.i64) (R.pair (R.int IntKind.i64) (R.int IntKind.i64)))))))) (R.sl (RY)))))
abbrev qRegTs : List Sh := [Sh.one (R.int IntKind.i64)]
abbrev qRegRs : Rs := Rs.one (Sh.one (R.int IntKind.u8))
def qRegT (s : TC × Bool × List Int × TI × List TY) (n : Int) : RT (Int) :=
  .leaf (rGet s.1.2.1 n)
def qReg (s : TC × Bool × List Int × TI × List TY) (n : Int) : Int := (qRegT s n).val
def qRegE : Entry := readE qRegRb qRegTs qRegRs (fun _ => none) (fun a => qReg a.1 a.2)
theorem qReg_ok : EntryOk Tryz.prog 203 qRegE :=
  read_tot (P := Tryz.prog) (n := 31) (k := 8) (l := [(245, pGet1E)]) (ol := []) ⟨pGet1_ok, trivial⟩ Tryz.func203 rfl (by kernel_rfl) Tryz.call203 trivial (rb := qRegRb) (ts := qRegTs) (rs := qRegRs) (by kernel_rfl) (t := fun a => qRegT a.1 a.2) (fun a => by kernel_rfl)
abbrev qPairRb : R := R.pair rcCPU (R.pair R.bool (R.pair (R.sl (R.int IntKind.u8)) (R.pair (R.pair (R.int IntKind.i64) (R.pair (R.int IntKind.i64) (R.pair (R.int IntKind.i64) (R.pair (R.int IntKind.i64) (R.pair (R.int IntKind.i64) (R.pair (R.int IntKind.i64) (R.pair (R.int IntKind.i64) (R.int IntKind.i64)))))))) (R.sl (RY)))))
abbrev qPairTs : List Sh := [Sh.one (R.int IntKind.i64)]
abbrev qPairRs : Rs := Rs.one (Sh.one (R.int IntKind.u16))
def qPairT (s : TC × Bool × List Int × TI × List TY) (n : Int) : RT (Int) :=
  .leaf (rPair s.1.2.1 n)
def qPair (s : TC × Bool × List Int × TI × List TY) (n : Int) : Int := (qPairT s n).val
def qPairE : Entry := readE qPairRb qPairTs qPairRs (fun _ => none) (fun a => qPair a.1 a.2)
theorem qPair_ok : EntryOk Tryz.prog 202 qPairE :=
  read_tot (P := Tryz.prog) (n := 31) (k := 8) (l := [(244, pPair1E)]) (ol := []) ⟨pPair1_ok, trivial⟩ Tryz.func202 rfl (by kernel_rfl) Tryz.call202 trivial (rb := qPairRb) (ts := qPairTs) (rs := qPairRs) (by kernel_rfl) (t := fun a => qPairT a.1 a.2) (fun a => by kernel_rfl)
abbrev qCountedRb : R := R.pair rcCPU (R.pair R.bool (R.pair (R.sl (R.int IntKind.u8)) (R.pair (R.pair (R.int IntKind.i64) (R.pair (R.int IntKind.i64) (R.pair (R.int IntKind.i64) (R.pair (R.int IntKind.i64) (R.pair (R.int IntKind.i64) (R.pair (R.int IntKind.i64) (R.pair (R.int IntKind.i64) (R.int IntKind.i64)))))))) (R.sl (RY)))))
abbrev qCountedTs : List Sh := []
abbrev qCountedRs : Rs := Rs.one (Sh.one (R.int IntKind.u8))
def qCountedT (s : TC × Bool × List Int × TI × List TY) : RT (Option (Int)) :=
  .br (qAtC s 1)
  (.leaf (some (bif s.2.2.2.1.1 == 14 then (rInr s.1.1 (qAt s 1) s.1.2.1.2.2.2.2.2.2.2.1).1 else (rDcr s.1.1 (qAt s 1) s.1.2.1.2.2.2.2.2.2.2.1).1)))
  (.leaf none)
def qCounted (s : TC × Bool × List Int × TI × List TY) : Int := getO qCountedRs.dflt (qCountedT s).val
def qCountedC (s : TC × Bool × List Int × TI × List TY) : Bool := okB (qCountedT s).val
def qCountedE : Entry := readE qCountedRb qCountedTs qCountedRs (fun a => some (qCountedC a.1 )) (fun a => qCounted a.1 )
theorem qCounted_ok : EntryOk Tryz.prog 205 qCountedE :=
  read_part (P := Tryz.prog) (n := 15) (k := 8) (l := [(200, qAtE), (246, pInr1E), (247, pDcr1E)]) (ol := []) ⟨qAt_ok, pInr1_ok, pDcr1_ok, trivial⟩ Tryz.func205 rfl (by kernel_rfl) Tryz.call205 trivial (rb := qCountedRb) (ts := qCountedTs) (rs := qCountedRs) (by kernel_rfl) (t := fun a => qCountedT a.1 ) (fun a => by kernel_rfl)
abbrev qOperandRb : R := R.pair rcCPU (R.pair R.bool (R.pair (R.sl (R.int IntKind.u8)) (R.pair (R.pair (R.int IntKind.i64) (R.pair (R.int IntKind.i64) (R.pair (R.int IntKind.i64) (R.pair (R.int IntKind.i64) (R.pair (R.int IntKind.i64) (R.pair (R.int IntKind.i64) (R.pair (R.int IntKind.i64) (R.int IntKind.i64)))))))) (R.sl (RY)))))
abbrev qOperandTs : List Sh := []
abbrev qOperandRs : Rs := Rs.one (Sh.one (R.int IntKind.u8))
def qOperandT (s : TC × Bool × List Int × TI × List TY) : RT (Option (Int)) :=
  let x1 : Bool := s.2.2.2.1.1 == 13 || s.2.2.2.1.2.2.2.1 == 6
  .br (!x1 || qAtC s 1)
  (.br (x1)
   (.leaf (some (qAt s 1)))
   (.leaf (some (qReg s s.2.2.2.1.2.2.2.1))))
  (.leaf none)
def qOperand (s : TC × Bool × List Int × TI × List TY) : Int := getO qOperandRs.dflt (qOperandT s).val
def qOperandC (s : TC × Bool × List Int × TI × List TY) : Bool := okB (qOperandT s).val
def qOperandE : Entry := readE qOperandRb qOperandTs qOperandRs (fun a => some (qOperandC a.1 )) (fun a => qOperand a.1 )
theorem qOperand_ok : EntryOk Tryz.prog 259 qOperandE :=
  read_part (P := Tryz.prog) (n := 7) (k := 8) (l := [(200, qAtE), (203, qRegE)]) (ol := []) ⟨qAt_ok, qReg_ok, trivial⟩ Tryz.func259 rfl (by kernel_rfl) Tryz.call259 trivial (rb := qOperandRb) (ts := qOperandTs) (rs := qOperandRs) (by kernel_rfl) (t := fun a => qOperandT a.1 ) (fun a => by kernel_rfl)
abbrev mAtRs : Rs := Rs.one (Sh.one (R.int IntKind.u8))
def mAtT (s : TC × Bool × List Int × List TY) (n : Int) : RT (Option (Int)) :=
  .br (!decide (n < ↑(List.length s.2.2.1)) || inRng n (List.length s.2.2.1))
  (.br (decide (n < ↑(List.length s.2.2.1)))
   (.leaf (some (R.get (R.int IntKind.u8) s.2.2.1 n)))
   (.leaf (some (0))))
  (.leaf none)
def mAt (s : TC × Bool × List Int × List TY) (n : Int) : Int := getO mAtRs.dflt (mAtT s n).val
def mAtC (s : TC × Bool × List Int × List TY) (n : Int) : Bool := okB (mAtT s n).val
abbrev mWordRs : Rs := Rs.one (Sh.one (R.int IntKind.u16))
def mWordT (s : TC × Bool × List Int × List TY) (n : Int) : RT (Option (Int)) :=
  .br (!mAtC s (IntKind.i64.wrap (n + 1)) || mAtC s n)
  (.br (mAtC s (IntKind.i64.wrap (n + 1)))
   (.leaf (some (rJoin (mAt s (IntKind.i64.wrap (n + 1))) (mAt s n))))
   (.leaf none))
  (.leaf none)
def mWord (s : TC × Bool × List Int × List TY) (n : Int) : Int := getO mWordRs.dflt (mWordT s n).val
def mWordC (s : TC × Bool × List Int × List TY) (n : Int) : Bool := okB (mWordT s n).val
def mBehindT (s : TC × Bool × List Int × List TY) (n : Int) : RT (Int) :=
  .br s.2.1
  (.leaf s.1.2.1.2.2.2.2.2.2.2.2.2)
  (.leaf (IntKind.u16.wrap (s.1.2.1.2.2.2.2.2.2.2.2.2 + IntKind.u16.wrap n)))
def mBehind (s : TC × Bool × List Int × List TY) (n : Int) : Int := (mBehindT s n).val
def mTakenT (s : TC × Bool × List Int × List TY) (i : Int × Int × Int × Int × Int × Int × Int × Int) : RT (Bool) :=
  .leaf (rHolds i.2.2.2.2.2.2.1 s.1.2.1.2.2.2.2.2.2.2.1)
def mTaken (s : TC × Bool × List Int × List TY) (i : Int × Int × Int × Int × Int × Int × Int × Int) : Bool := (mTakenT s i).val
def rSteppedT (c : TC) (i : Int × Int × Int × Int × Int × Int × Int × Int) (v : Int) : RT (Int × Bool × Bool × Bool × Bool × Bool × Bool × Bool) :=
  .br (i.1 == 14)
  (.leaf (rInr c.1 v c.2.1.2.2.2.2.2.2.2.1))
  (.leaf (rDcr c.1 v c.2.1.2.2.2.2.2.2.2.1))
def rStepped (c : TC) (i : Int × Int × Int × Int × Int × Int × Int × Int) (v : Int) : Int × Bool × Bool × Bool × Bool × Bool × Bool × Bool := (rSteppedT c i v).val
end
end Go.Proofs.YtpkijkmagnhciaaGreat
set_option linter.unusedSimpArgs false
open Go Go.S3 Go.Proofs
set_option linter.unusedVariables false
set_option maxRecDepth 100000
namespace Go.Proofs.YtpkijkmagnhciaaGreat
noncomputable section
abbrev pAcceptTs : List Sh := [Sh.agg rcCPU, Sh.one (R.int IntKind.i64)]
abbrev pAcceptRs : Rs := Rs.one (Sh.agg rcCPU)
def pAcceptT (c : TC) (s : Int) : RT TC :=
  .br (decide (s < 1) || decide (s > 5))
  (.leaf (c))
  (.leaf ((c.1, c.2.1, false, false, false, c.2.2.2.2.2.1, !s == 1 && c.2.2.2.2.2.2.1, bif s == 1 then c.2.2.2.2.2.2.2.1 else !s == 2 && c.2.2.2.2.2.2.2.1, c.2.2.2.2.2.2.2.2.1, c.2.2.2.2.2.2.2.2.2.1, s == 1 || c.2.2.2.2.2.2.2.2.2.2.1, bif s == 1 then c.2.2.1 else c.2.2.2.2.2.2.2.2.2.2.2.1, c.2.2.2.2.2.2.2.2.2.2.2.2)))
def pAccept (c : TC) (s : Int) : TC := (pAcceptT c s).val
def pAcceptE : Entry := pureE pAcceptTs pAcceptRs (fun _ => none) (fun a => pAccept a.1 a.2)
theorem pAccept_ok : EntryOk Tryz.prog 115 pAcceptE :=
  pure_tot (P := Tryz.prog) (n := 1056799) (k := 8) (l := []) (ol := []) trivial Tryz.func115 rfl (by kernel_rfl) Tryz.call115 trivial (ts := pAcceptTs) (rs := pAcceptRs) (t := fun a => pAcceptT a.1 a.2) (fun a => by kernel_rfl)
def rAcceptT (c : TC) (s : Int) : RT TC :=
  .br (decide (s < 1) || decide (s > 5))
  (.leaf (c))
  (.leaf ((c.1, c.2.1, false, false, false, c.2.2.2.2.2.1, !s == 1 && c.2.2.2.2.2.2.1, !s == 2 && c.2.2.2.2.2.2.2.1, c.2.2.2.2.2.2.2.2.1, c.2.2.2.2.2.2.2.2.2.1, s == 1 || c.2.2.2.2.2.2.2.2.2.2.1, bif s == 1 then c.2.2.1 else c.2.2.2.2.2.2.2.2.2.2.2.1, c.2.2.2.2.2.2.2.2.2.2.2.2)))
def rAccept (c : TC) (s : Int) : TC := (rAcceptT c s).val
end
end Go.Proofs.YtpkijkmagnhciaaGreat
open Go Go.S3 Go.Proofs
set_option linter.unusedVariables false
set_option linter.unusedSimpArgs false
set_option maxRecDepth 100000
namespace Go.Proofs.YtpkijkmagnhciaaGreat
noncomputable section
theorem accept_eq (c) (s : Int) : pAccept c s = rAccept c s := by
  by_cases h : s = 1
  · subst h; simp [pAccept, pAcceptT, rAccept, rAcceptT, RT.val]
  · have h' : (s == 1) = false := by simpa using h
    simp [pAccept, pAcceptT, rAccept, rAcceptT, RT.val, h']
def pAccept1E : Entry := pureE pAcceptTs pAcceptRs (fun _ => none) (fun a => rAccept a.1 a.2)
theorem pAccept1_ok : EntryOk Tryz.prog 115 pAccept1E := pAccept_ok.tot (fun a h => by simp) (fun a h => accept_eq _ _)
end
end Go.Proofs.YtpkijkmagnhciaaGreat
set_option linter.unusedSimpArgs false
open Go Go.S3 Go.Proofs
set_option linter.unusedVariables false
set_option maxRecDepth 100000
namespace Go.Proofs.YtpkijkmagnhciaaGreat
noncomputable section
end
end Go.Proofs.YtpkijkmagnhciaaGreat
open Go Go.S3 Go.Proofs
set_option linter.unusedVariables false
set_option linter.unusedSimpArgs false
set_option maxRecDepth 100000
namespace Go.Proofs.YtpkijkmagnhciaaGreat
noncomputable section
end
end Go.Proofs.YtpkijkmagnhciaaGreat
